/-
  A small machine that reckons what a call comes to; the functions of the program, one by one. (TREES, BOXES AND THEIR POINTS: plain law: what a tree's boun, GOALS AND CUTS: plain law: what is closed is not broken; a b, SEARCHES, IN PLAIN LEAN: boxes that stay right; each step de, and so on.)
-/
import Derived.Test.YtihliihljmfhlaaGreatDoorAc
set_option linter.all false
set_option maxRecDepth 100000
open BitVec renaming ofInt→A0,toNat→B1
open Bool renaming and_eq_true→AQ,not_true→A9,not_false→BF,true_and→BI,false_and→BP,and_self→BR,not_eq_true'→CE,and_true→CK,and_false→DE,or_eq_false_iff→vag,or_eq_true→vap,eq_iff_iff→vaB,false_or→vaF,true→AC,false→AD
open ByteArray renaming size→AP,toList→A7,size_append→BC,empty→CQ,append_assoc→vai,size_extract→vay,extract→vaT
open Decidable renaming decide→AE
open Go.IntKind renaming wrap→AI,i64→AJ,u64→AO,bits→AT,wrap_u64→vbf
open Go.Lib renaming decDigits→CS,parseUint10→vbA
open Go.ResultVar renaming tmp→B7
open Int renaming toNat→AM,toNat_natCast→BE,fdiv→C4,le_refl→DH,fdiv_eq_ediv_of_nonneg→vaH
open List renaming length→AN,getD→AR,take→AU,length_cons→AV,mem_cons→AW,mem_cons_self→AY,length_append→A2,drop→A3,mem_append→A5,mem_cons_of_mem→A6,map_cons→A8,getElem?_eq_getElem→BD,map→BG,drop_eq_getElem_cons→BJ,length_take→BL,length_nil→BN,take_length→BS,length_map→BW,getD_eq_getElem?_getD→BY,mem_singleton→BZ,getElem?_eq_some_iff→B4,replicate→B6,getElem?_eq_none→B8,getElem?_cons_zero→CA,not_mem_nil→CC,drop_zero→CD,getElem?_map→CJ,map_nil→CN,mem_map→CU,all_eq_true→CZ,getElem_mem→C0,take_of_length_le→C2,getElem?_take→C3,getElem?_cons_succ→C5,drop_length→C8,cons_append→C9,length_drop→DA,drop_of_length_le→DC,length_singleton→DG,size_toArray→DM,mem_of_getElem?→vaa,append_nil→vab,nil_append→vac,getElem?_append→vah,all_cons→van,eq_nil_of_length_eq_zero→vav,rel_of_pairwise_cons→vaw,foldl_cons→vax,append_assoc→vaz,flatMap_cons→vaA,length_set→vaL,mem_of_mem_take→vaO,range→vaQ,mem_of_mem_drop→va7,filter_cons→va9,sum_cons→vbb,range'→vbh,mem_range→vbk
open List.Pairwise renaming of_cons→vau
open Nat renaming le_of_ble_eq_true→AX,le_refl→A4,zero_add→BU,blt→BV,beq→B2,ble→CG,zero_le→CH,ble_eq_true_of_le→CV,le_trans→DD,lt_or_ge→DN,eq_of_beq_eq_true→vae,sub_zero→vas,add_assoc→vaJ,le_mul_of_pos_right→vaN,pow_le_pow_right→vaV,succ_mul→vaW,lt_of_le_of_lt→vbn
open Option renaming getD→vbq,some→AA,none→AB
open Option.some renaming injEq→AK,inj→CB
namespace Go.FM
open Go
theorem M2{s:Sp}{n:Int}:s.has n=AC↔s.lo<=n/\n<=s.hi:=by
 unfold Sp.has;rw[AQ,AZ,AZ]
theorem zeV{s:Sp}:s.emp=AD↔s.lo<=s.hi:=by
 unfold Sp.emp;rw[B3];omega
theorem Qs{lo hi n:Int}:(KE lo hi).has n=AC↔lo<=n/\n<=hi:=by
 unfold KE;cases hd:AE (lo>hi)with
 |true=>
  have:=BB hd
  rw[DQ,M2];show(1:Int)<=n/\n<=0↔_;omega
 |false=>rw[DR,M2]
theorem qR{s:Sp}{a n:Int}:(s.cutL a).has n=AC↔s.has n=AC/\n<=a:=by
 unfold Sp.cutL;rw[Qs,M2];omega
theorem qP{s:Sp}{a n:Int}(ha: -9223372036854775808<=a)(hs:s.hi<=9223372036854775807):(s.cutH a).has n=AC↔s.has n=AC/\a<n:=by
 unfold Sp.cutH;cases hd:AE (a>=s.hi)with
 |true=>
  have:=BB hd
  rw[DQ,M2,M2];show(1:Int)<=n/\n<=0↔_;omega
 |false=>
  have:=BM hd
  have e:D7 (a+1)=a+1:=ER AG AG;rw[DR,Qs,M2,e];omega
def co(p:Pt)(t:Int):Nat->Int
 |0=>p.p0
 |1=>p.p1
 |2=>p.p2
 |3=>p.p3
 |_=>t
theorem OY{b:Bx}{p:Pt}{t:Int}:b.has p t=AC↔∀i,i<5->(b.g i).has (co p t i)=AC:=by
 unfold Bx.has;simp only[AQ];constructor
 .rintro⟨h0,h1,h2,h3,h4⟩ i hi
  match i,hi with
  |0,_=>exact h0
  |1,_=>exact h1
  |2,_=>exact h2
  |3,_=>exact h3
  |4,_=>exact h4
  |i+5,h=>exact absurd h AG
 .intro h;exact⟨h 0 AG,h 1 AG,h 2 AG,h 3 AG,h 4 AG⟩
theorem p9{b:Bx}:b.emp=AD↔∀i,i<5->(b.g i).lo<=(b.g i).hi:=by
 unfold Bx.emp;simp only[vag,zeV];constructor
 .rintro⟨h0,h1,h2,h3,h4⟩ i hi
  match i,hi with
  |0,_=>exact h0
  |1,_=>exact h1
  |2,_=>exact h2
  |3,_=>exact h3
  |4,_=>exact h4
  |i+5,h=>exact absurd h AG
 .intro h;exact⟨h 0 AG,h 1 AG,h 2 AG,h 3 AG,h 4 AG⟩
theorem LG(b:Bx)(s:Sp):∀{i j:Nat},i<5->j<5->(b.p s i).g j=if j=i then s else b.g j
 |0,0,_,_=>rfl
 |0,1,_,_=>rfl
 |0,2,_,_=>rfl
 |0,3,_,_=>rfl
 |0,4,_,_=>rfl
 |1,0,_,_=>rfl
 |1,1,_,_=>rfl
 |1,2,_,_=>rfl
 |1,3,_,_=>rfl
 |1,4,_,_=>rfl
 |2,0,_,_=>rfl
 |2,1,_,_=>rfl
 |2,2,_,_=>rfl
 |2,3,_,_=>rfl
 |2,4,_,_=>rfl
 |3,0,_,_=>rfl
 |3,1,_,_=>rfl
 |3,2,_,_=>rfl
 |3,3,_,_=>rfl
 |3,4,_,_=>rfl
 |4,0,_,_=>rfl
 |4,1,_,_=>rfl
 |4,2,_,_=>rfl
 |4,3,_,_=>rfl
 |4,4,_,_=>rfl
 |i+5,_,h,_=>absurd h AG
 |_,j+5,_,h=>absurd h AG
def Bx.ok(b:Bx):Prop:=∀i,i<5->(b.g i).hi<=2147483647
theorem X2(b:Bx)(h:b.emp=AD):b.has b.low b.s4.hi=AC:=by
 rw[p9]at h;rw[OY];intro i hi;rw[M2]
 have:=h i hi
 match i,hi with
 |0,_=>exact⟨DH _,this⟩
 |1,_=>exact⟨DH _,this⟩
 |2,_=>exact⟨DH _,this⟩
 |3,_=>exact⟨DH _,this⟩
 |4,_=>exact⟨this,DH _⟩
 |i+5,h=>exact absurd h AG
theorem X3{b:Bx}{p:Pt}{t:Int}(h:b.has p t=AC):b.emp=AD:=by
 rw[OY]at h;rw[p9];intro i hi
 have:=M2.1 (h i hi)
 omega
theorem gZ{b:Bx}{i:Nat}(hi:i<5){a:Int}{p:Pt}{t:Int}:(b.cutL (i:Int) a).has p t=AC↔b.has p t=AC/\co p t i<=a:=by
 unfold Bx.cutL;rw[BE,OY,OY];constructor
 .intro h;refine⟨λj hj=>?_,?_⟩
  .have:=h j hj
   rw[LG b _ hi hj]at this;by_cases e:j=i
   .rw[BX e,qR]at this;rw[e]at this ⊢;exact this.1
   .rw[BO e]at this;exact this
  .have:=h i hi
   rw[LG b _ hi hi,BX rfl,qR]at this;exact this.2
 .rintro⟨h,ha⟩ j hj;rw[LG b _ hi hj];by_cases e:j=i
  .rw[BX e,qR,e];exact⟨h i hi,ha⟩
  .rw[BO e];exact h j hj
theorem gY{b:Bx}(hb:b.ok){i:Nat}(hi:i<5){a:Int}(ha: -2147483648<=a){p:Pt}{t:Int}:(b.cutH (i:Int) a).has p t=AC↔b.has p t=AC/\a<co p t i:=by
 have hs:=hb i hi;unfold Bx.cutH;rw[BE,OY,OY];constructor
 .intro h;refine⟨λj hj=>?_,?_⟩
  .have:=h j hj
   rw[LG b _ hi hj]at this;by_cases e:j=i
   .rw[BX e,qP AG AG]at this;rw[e]at this ⊢;exact this.1
   .rw[BO e]at this;exact this
  .have:=h i hi
   rw[LG b _ hi hi,BX rfl,qP AG AG]at this;exact this.2
 .rintro⟨h,ha'⟩ j hj;rw[LG b _ hi hj];by_cases e:j=i
  .rw[BX e,qP AG AG,e];exact⟨h i hi,ha'⟩
  .rw[BO e];exact h j hj
theorem Qt{lo hi:Int}(h:hi<=2147483647):(KE lo hi).hi<=2147483647:=by
 unfold KE;cases AE (lo>hi)with
 |true=>rw[DQ];show(0:Int)<=_;omega
 |false=>exact h
theorem i9{b:Bx}(hb:b.ok){s:Sp}(hs:s.hi<=2147483647){i:Nat}(hi:i<5):(b.p s i).ok:=by
 intro j hj;rw[LG b _ hi hj];split
 .exact hs
 .exact hb j hj
theorem Ei{b:Bx}(hb:b.ok){i:Nat}(hi:i<5)(a:Int):(b.cutL (i:Int) a).ok:=by
 unfold Bx.cutL;rw[BE];refine i9 hb ?_ hi;unfold Sp.cutL;exact Qt (by have:=hb i hi;omega)
theorem Eh{b:Bx}(hb:b.ok){i:Nat}(hi:i<5)(a:Int):(b.cutH (i:Int) a).ok:=by
 unfold Bx.cutH;rw[BE];refine i9 hb ?_ hi;unfold Sp.cutH;cases AE (a>=(b.g i).hi)with
 |true=>rw[DQ];show(0:Int)<=_;omega
 |false=>exact Qt (hb i hi)
theorem HX(b:Bx):EG b.I=b:=rfl
theorem gX(p:Pt)(t:Int):∀{i:Nat},i<4->co p t i=p.g i
 |0,_=>rfl
 |1,_=>rfl
 |2,_=>rfl
 |3,_=>rfl
 |i+4,h=>absurd h AG
abbrev nd(l:LI)(i:Nat):Nd:=DT (l.getD i default).toInt
def YW(l:LI)(k j:Nat):Prop:=(nd l k).lf=AD/\((nd l k).l=(j:Int)\/(nd l k).r=(j:Int))
structure TreeOK (l:LI):Prop where
 len:1<=l.length/\l.length<=31
 node:∀k,k<l.length->FQ (l.getD k default).toInt=AC
 fork:∀k,k<l.length->(nd l k).lf=AD->(0<=(nd l k).f/\(nd l k).f<4)/\E4 (nd l k).a=AC/\((k:Int)<(nd l k).l/\(nd l k).l<ic l.length)/\((k:Int)<(nd l k).r/\(nd l k).r<ic l.length)/\(nd l k).l≠(nd l k).r
 parent:∀j,1<=j->j<l.length->∃k,k<l.length/\YW l k j
 alone:∀j k k',1<=j->j<l.length->k<l.length->k'<l.length->YW l k j->YW l k' j->k=k'
theorem zfi{l:List Nat}:∀{k a:Nat},l[k]?=AA a->a<=l.sum:=by
 induction l with
 |nil=>intro k a h;simp at h
 |cons x r ih=>
  intro k a h;cases k with
  |zero=>simp at h;simp;omega
  |succ k=>have:=ih (k:=k) (a:=a) (by simpa using h);simp;omega
theorem Tx{l:List Nat}:∀{k k' a b:Nat},k<k'->l[k]?=AA a->l[k']?=AA b->a+b<=l.sum:=by
 induction l with
 |nil=>intro k k' a b _ h;simp at h
 |cons x r ih=>
  intro k k' a b hk h h';cases k with
  |zero=>
   cases k' with
   |zero=>omega
   |succ k'=>
    have:=zfi (l:=r) (k:=k') (a:=b) (by simpa using h')
    simp at h;simp;omega
  |succ k=>
   cases k' with
   |zero=>omega
   |succ k'=>
    have:=ih (k:=k) (k':=k') (a:=a) (b:=b) AG (by simpa using h) (by simpa using h')
    simp;omega
theorem zfk{l:List Nat}:0<l.sum->∃(k a:Nat),l[k]?=AA a/\0<a:=by
 induction l with
 |nil=>intro h;simp at h
 |cons x r ih=>
  intro h;by_cases hx:0<x
  .exact⟨0,x,rfl,hx⟩
  .obtain⟨k,a,hk,ha⟩:=ih (by simp at h;omega);exact⟨k+1,a,by simpa using hk,ha⟩
theorem tQ{x:Nd}{j:Nat}:0<KO x j↔x.lf=AD/\(x.l=(j:Int)\/x.r=(j:Int)):=by
 unfold KO;cases x.lf with
 |true=>simp
 |false=>
  rw[DR];by_cases h1:x.l=(j:Int)<;>by_cases h2:x.r=(j:Int)<;>simp[h1,h2]
theorem iE{l:LI}{k:Nat}(h:k<l.length):l.getD k default=l[k]:=by simp[h]
theorem xT{l:LI}(h:GP l 4=AC):TreeOK l:=by
 have key:∀{dim n:Int} {l:LI} {i k:Nat} (hk:k<l.length),JH dim n i l=AC->FQ (l[k]).toInt=AC/\OD dim n (i+k) (DT (l[k]).toInt)=AC:=by
  intro dim n l
  induction l with
  |nil=>intro i k hk;exact absurd hk (Nat.not_lt_zero k)
  |cons w r ih=>
   intro i k hk h;rw[JH]at h;simp only[AQ]at h;cases k with
   |zero=>exact h.1
   |succ k=>
    have:=ih (k:=k) (by simpa using hk) h.2
    rw[show i+1+k=i+(k+1) by omega]at this;exact this
 unfold GP at h;simp only[AQ]at h;obtain⟨⟨h1,h31⟩,hn,ho⟩:=h;have hlen:=AX h1;have once:∀j,1<=j->j<l.length->G0 l j=1:=λj hj hjl=>by
  unfold V0 at ho;rw[CZ]at ho
  have:=ho (j-1) (vbk.2 AG)
  rw[show j-1+1=j by omega]at this;simpa using this
 have at_:∀k (hk:k<l.length) j,(l.map λw=>KO (DT w.toInt) j)[k]?=AA (KO (nd l k) j):=λk hk j=>by
  rw[CJ,BD hk];unfold nd;rw[iE hk];rfl
 refine⟨⟨hlen,AX h31⟩,λk hk=>by rw[iE hk];exact(key hk hn).1,λk hk hl=>?_,λj hj hjl=>?_,λj k k' hj hjl hk hk' hn1 hn2=>?_⟩
 .have h2:=(key hk hn).2;have h3:=(key hk hn).1;rw[BU]at h2;unfold nd at hl ⊢;rw[iE hk]at hl ⊢;unfold OD at h2;rw[hl,DR]at h2;simp only[AQ,CE,B3,BH]at h2;obtain⟨q1,q2,q3,q4⟩:=h2;have hr:=(nH h3).2;unfold IQ O6 at hr;rw[hl,DR]at hr;simp only[AQ,AZ]at hr;exact⟨⟨hr.2.1,hr.2.2.1⟩,hr.2.2.2.1,⟨by omega,by simp only[ic]at q4 ⊢;omega⟩,⟨by omega,by simp only[ic]at q4 ⊢;omega⟩,q2⟩
 .have h2:=once j hj hjl;unfold G0 at h2;obtain⟨k,a,hk,ha⟩:=zfk (l:=l.map λw=>KO (DT w.toInt) j) AG;have hkl:k<l.length:=by
   have:=(B4.1 hk).1
   simpa using this
  rw[at_ k hkl j]at hk;simp only[AK]at hk;subst hk;exact⟨k,hkl,tQ.1 ha⟩
 .have h2:=once j hj hjl;unfold G0 at h2;have p1:0<KO (nd l k) j:=tQ.2 hn1;have p2:0<KO (nd l k') j:=tQ.2 hn2;rcases Nat.lt_trichotomy k k' with hlt|heq|hlt
  .have:=Tx hlt (at_ k hk j) (at_ k' hk' j)
   omega
  .exact heq
  .have:=Tx hlt (at_ k' hk' j) (at_ k hk j)
   omega
def RL(l:LI)(p:Pt)(i:Nat):Int:=(G5 l p 31 (i:Int)).2.v
theorem lO{l:LI}(h:TreeOK l)(p:Pt){i:Nat}(hi:i<l.length)(n:Nat):G5 l p (n+1) (i:Int)=
  cond (nd l i).lf ((i:Int),nd l i) (cond (AE (p.g (nd l i).f.toNat<=(nd l i).a)) (G5 l p n (nd l i).l) (G5 l p n (nd l i).r)):=by
 rw[G5,AS (show¬(i:Int)>=ic l.length by simp only[ic];omega),DR,BE,h.node i hi,A9,DR]
theorem lP{l:LI}(h:TreeOK l)(p:Pt):∀(n n' i:Nat),i<l.length->l.length-i<=n->l.length-i<=n'->G5 l p n (i:Int)=G5 l p n' (i:Int)
 |0,_,i,hi,h1,_=>absurd h1 AG
 |_+1,0,i,hi,_,h2=>absurd h2 AG
 |n+1,n'+1,i,hi,h1,h2=>by
  rw[lO h p hi,lO h p hi];cases hl:(nd l i).lf with
  |true=>rfl
  |false=>
   obtain⟨_,_,⟨a1,a2⟩,⟨b1,b2⟩,_⟩:=h.fork i hi hl;simp only[ic]at a2 b2;rw[DR,DR];cases AE (p.g (nd l i).f.toNat<=(nd l i).a)with
   |true=>
    have e:(nd l i).l=(((nd l i).l.toNat:Nat):Int):=by omega
    rw[DQ,DQ,e];exact lP h p n n' _ AG AG AG
   |false=>
    have e:(nd l i).r=(((nd l i).r.toNat:Nat):Int):=by omega
    rw[DR,DR,e];exact lP h p n n' _ AG AG AG
theorem Va{l:LI}(h:TreeOK l)(p:Pt){i:Nat}(hi:i<l.length)(hl:(nd l i).lf=AC):RL l p i=(nd l i).v:=by
 unfold RL;rw[lO h p hi,hl,DQ]
theorem Uz{l:LI}(h:TreeOK l)(p:Pt){i:Nat}(hi:i<l.length)(hl:(nd l i).lf=AD):RL l p i=RL l p (cond (AE (p.g (nd l i).f.toNat<=(nd l i).a)) (nd l i).l.toNat (nd l i).r.toNat):=by
 obtain⟨_,_,⟨a1,a2⟩,⟨b1,b2⟩,_⟩:=h.fork i hi hl;have h31:=h.len.2;simp only[ic]at a2 b2;unfold RL;rw[lO h p hi,hl,DR];cases AE (p.g (nd l i).f.toNat<=(nd l i).a)with
 |true=>
  rw[DQ,DQ];have e:(nd l i).l=(((nd l i).l.toNat:Nat):Int):=by omega
  rw[e,BE];rw[lP h p 30 31 _ AG AG AG]
 |false=>
  rw[DR,DR];have e:(nd l i).r=(((nd l i).r.toNat:Nat):Int):=by omega
  rw[e,BE];rw[lP h p 30 31 _ AG AG AG]
theorem zfN(l:LI)(p:Pt):GW l p=RL l p 0:=rfl
abbrev JK(own:LI)(j:Nat):Bx:=EG (own.getD j default)
def fr(l:LI)(i j:Nat):Prop:=i<=j/\j<l.length/\(j=0\/∃k,k<i/\YW l k j)
structure PInv (l:LI) (b:Bx) (i:Nat) (own out:LI):Prop where
 len:own.length=l.length
 val:∀j,fr l i j->∀p t,(JK own j).has p t=AC->b.has p t=AC/\RL l p 0=RL l p j
 ok:∀j,fr l i j->(JK own j).ok
 all:∀p t,b.has p t=AC->(∃x∈out,(EG x).has p t=AC)\/∃j,fr l i j/\(JK own j).has p t=AC
 out:∀x∈out,(EG x).emp=AD/\(EG x).ok/\∀p t,(EG x).has p t=AC->b.has p t=AC/\GW l p=H7 x
theorem Gh{l:LI}(h:TreeOK l){i:Nat}(hi:i<l.length):fr l i i:=by
 refine⟨A4 _,hi,?_⟩;by_cases h0:i=0
 .exact .inl h0
 .obtain⟨k,hk,hn⟩:=h.parent i AG hi;refine .inr ⟨k,?_,hn⟩;obtain⟨_,_,a,b,_⟩:=h.fork k hk hn.1;rcases hn.2 with e|e<;>omega
theorem wD{own:LI}{a j:Nat}{x:IV}(ha:a<own.length):(own.set a x).getD j default=if j=a then x else own.getD j default:=by
 rw[BY,List.getElem?_set];by_cases e:a=j
 .subst e;rw[BX rfl,BX ha,BX rfl];rfl
 .rw[BO e,BO (λh=>e h.symm),<-BY]
theorem zbZ{l:LI}(h:TreeOK l){b:Bx}{i:Nat}(hi:i<l.length){own out:LI}(hp:PInv l b i own out):
  PInv l b (i+1) (QB (nd l i) i own) (cond ((nd l i).lf&&!(JK own i).emp) (out++[jC (JK own i) (nd l i).v]) out):=by
 have hfi:=Gh h hi;cases hl:(nd l i).lf with
 |true=>
  have e1:QB (nd l i) i own=own:=by unfold QB;rw[hl,DQ]
  have hfr:∀j,fr l (i+1) j->fr l i j:=λj hj=>by
   refine⟨by have:=hj.1;omega,hj.2.1,hj.2.2.imp_right ?_⟩;rintro⟨k,hk,hn⟩;refine⟨k,?_,hn⟩;rcases Nat.lt_succ_iff_lt_or_eq.1 hk with h1|h1
   .exact h1
   .subst h1;rw[hn.1]at hl;cases hl
  have hrf:∀j,fr l i j->j=i\/fr l (i+1) j:=λj hj=>by
   by_cases e:j=i
   .exact .inl e
   .refine .inr ⟨by have:=hj.1;omega,hj.2.1,hj.2.2.imp_right ?_⟩;rintro⟨k,hk,hn⟩;exact⟨k,by omega,hn⟩
  rw[e1,BI];have hv:=λp=>Va h p hi hl
  cases he:(JK own i).emp with
  |true=>
   rw[A9,DR];refine⟨hp.len,λj hj=>hp.val j (hfr j hj),λj hj=>hp.ok j (hfr j hj),λp t hb=>?_,hp.out⟩;rcases hp.all p t hb with h1|⟨j,hj,hh⟩
   .exact .inl h1
   .rcases hrf j hj with rfl|hj'
    .rw[X3 hh]at he;cases he
    .exact .inr ⟨j,hj',hh⟩
  |false=>
   rw[BF,DQ];refine⟨hp.len,λj hj=>hp.val j (hfr j hj),λj hj=>hp.ok j (hfr j hj),λp t hb=>?_,λx hx=>?_⟩
   .rcases hp.all p t hb with⟨x,hx,hh⟩|⟨j,hj,hh⟩
    .exact .inl ⟨x,A5.2 (.inl hx),hh⟩
    .rcases hrf j hj with rfl|hj'
     .exact .inl ⟨_,A5.2 (.inr (BZ.2 rfl)),hh⟩
     .exact .inr ⟨j,hj',hh⟩
   .rcases A5.1 hx with hx|hx
    .exact hp.out x hx
    .obtain rfl:=BZ.1 hx;refine⟨he,hp.ok i hfi,λp t hh=>?_⟩;obtain⟨q1,q2⟩:=hp.val i hfi p t hh;refine⟨q1,?_⟩;rw[zfN,q2,hv p];rfl
 |false=>
  obtain⟨⟨f0,f4⟩,ha,⟨a1,a2⟩,⟨b1,b2⟩,hne⟩:=h.fork i hi hl;simp only[ic]at a2 b2;have ef:(nd l i).f=(((nd l i).f.toNat:Nat):Int):=by omega
  have hf5:(nd l i).f.toNat<5:=by omega
  have e1:QB (nd l i) i own=(own.set (nd l i).l.toNat ((JK own i).cutL (nd l i).f (nd l i).a).I).set (nd l i).r.toNat ((JK own i).cutH (nd l i).f (nd l i).a).I:=by unfold QB;rw[hl,DR]
  have hlen:=hp.len;have at_:∀j,(QB (nd l i) i own).getD j default=if j=(nd l i).r.toNat then((JK own i).cutH (nd l i).f (nd l i).a).I else if j=(nd l i).l.toNat then((JK own i).cutL (nd l i).f (nd l i).a).I else own.getD j default:=λj=>by
   rw[e1,wD (by rw[vaL];omega)];congr 1;rw[wD AG]
  have fits: -2147483648<=(nd l i).a/\(nd l i).a<=2147483647:=by
   unfold E4 at ha;simpa only[AQ,AZ]using ha
  have hok:=hp.ok i hfi;have cl:∀p t,((JK own i).cutL (nd l i).f (nd l i).a).has p t=AC↔(JK own i).has p t=AC/\p.g (nd l i).f.toNat<=(nd l i).a:=λp t=>by
   have:=gZ (b:=JK own i) hf5 (a:=(nd l i).a) (p:=p) (t:=t)
   rw[<-ef,gX p t AG]at this;exact this
  have ch:∀p t,((JK own i).cutH (nd l i).f (nd l i).a).has p t=AC↔(JK own i).has p t=AC/\(nd l i).a<p.g (nd l i).f.toNat:=λp t=>by
   have:=gY hok hf5 (a:=(nd l i).a) fits.1 (p:=p) (t:=t)
   rw[<-ef,gX p t AG]at this;exact this
  have nl:YW l i (nd l i).l.toNat:=⟨hl,.inl AG⟩;have nr:YW l i (nd l i).r.toNat:=⟨hl,.inr AG⟩;have hfr:∀j,fr l (i+1) j->j≠(nd l i).l.toNat->j≠(nd l i).r.toNat->fr l i j:=λj hj h1 h2=>by
   refine⟨by have:=hj.1;omega,hj.2.1,hj.2.2.imp_right ?_⟩;rintro⟨k,hk,hn⟩;refine⟨k,?_,hn⟩;rcases Nat.lt_succ_iff_lt_or_eq.1 hk with h3|h3
   .exact h3
   .subst h3;rcases hn.2 with e|e
    .exact absurd AG h1
    .exact absurd AG h2
  have hnot:∀j,YW l i j->¬fr l i j:=λj hn hj=>by
   obtain⟨h1,h2,h3⟩:=hj;have hj0:1<=j:=by rcases hn.2 with e|e<;>omega
   rcases h3 with h3|⟨k,hk,hk2⟩
   .omega
   .have:=h.alone j k i hj0 h2 AG hi hk2 hn
    omega
  have fl:fr l (i+1) (nd l i).l.toNat:=⟨by omega,by omega,.inr ⟨i,by omega,nl⟩⟩;have frr:fr l (i+1) (nd l i).r.toNat:=⟨by omega,by omega,.inr ⟨i,by omega,nr⟩⟩;have hup:∀j,fr l i j->j≠i->fr l (i+1) j:=λj hj e=>by
   refine⟨by have:=hj.1;omega,hj.2.1,hj.2.2.imp_right ?_⟩;rintro⟨k,hk,hn⟩;exact⟨k,by omega,hn⟩
  have hvf:=λp=>Uz h p hi hl
  rw[BP,DR];refine⟨by rw[e1,vaL,vaL];exact hp.len,λj hj p t hh=>?_,λj hj=>?_,λp t hb=>?_,hp.out⟩
  .unfold JK at hh;rw[at_]at hh;by_cases hr:j=(nd l i).r.toNat
   .rw[BX hr,HX,ch]at hh;obtain⟨q1,q2⟩:=hp.val i hfi p t hh.1;refine⟨q1,?_⟩;rw[q2,hvf p,AS AG,DR,hr]
   .rw[BO hr]at hh;by_cases hlj:j=(nd l i).l.toNat
    .rw[BX hlj,HX,cl]at hh;obtain⟨q1,q2⟩:=hp.val i hfi p t hh.1;refine⟨q1,?_⟩;rw[q2,hvf p,AL hh.2,DQ,hlj]
    .rw[BO hlj]at hh;exact hp.val j (hfr j hj hlj hr) p t hh
  .unfold JK;rw[at_];by_cases hr:j=(nd l i).r.toNat
   .rw[BX hr,HX,ef];exact Eh hok hf5 _
   .rw[BO hr];by_cases hlj:j=(nd l i).l.toNat
    .rw[BX hlj,HX,ef];exact Ei hok hf5 _
    .rw[BO hlj];exact hp.ok j (hfr j hj hlj hr)
  .rcases hp.all p t hb with h1|⟨j,hj,hh⟩
   .exact .inl h1
   .refine .inr ?_;by_cases e:j=i
    .subst e;by_cases hd:p.g (nd l j).f.toNat<=(nd l j).a
     .refine⟨_,fl,?_⟩;unfold JK;rw[at_,BO AG,BX rfl,HX,cl];exact⟨hh,hd⟩
     .refine⟨_,frr,?_⟩;unfold JK;rw[at_,BX rfl,HX,ch];exact⟨hh,by omega⟩
    .refine⟨j,hup j hj e,?_⟩;unfold JK;rw[at_,BO (λ(er:j=(nd l i).r.toNat)=>hnot j (er▸nr) hj),BO (λ(er:j=(nd l i).l.toNat)=>hnot j (er▸nl) hj)];exact hh
theorem Lk{l:LI}(h:TreeOK l){b:Bx}:∀(m i:Nat) (own out:LI),i+m=l.length->PInv l b i own out->∃own',PInv l b l.length own' (PD (l.drop i) i own out)
 |0,i,own,out,hd,hp=>by
  have hi:i=l.length:=by omega
  subst hi;rw[C8,PD];exact⟨own,hp⟩
 |m+1,i,own,out,hd,hp=>by
  have hi:i<l.length:=by omega
  rw[BJ hi,PD];have hs:=zbZ h hi hp;have e:nd l i=DT (l[i]).toInt:=by unfold nd;rw[iE hi]
  rw[e]at hs;exact Lk h m (i+1) _ _ AG hs
theorem uu{l:LI}(ht:GP l 4=AC){b:Bx}(hb:b.emp=AD)(hok:b.ok):
  (∀x∈JF l b,(EG x).emp=AD/\(EG x).ok/\∀p t,(EG x).has p t=AC->b.has p t=AC/\GW l p=H7 x)/\
   ∀p t,b.has p t=AC->∃x∈JF l b,(EG x).has p t=AC:=by
 have h:=xT ht;have h1:=h.len.1;have hz:((B6 l.length aB.I).set 0 b.I).getD 0 default=b.I:=by rw[wD (by simp;omega),BX rfl]
 have f0:∀j,fr l 0 j->j=0:=λj hj=>by
  rcases hj.2.2 with e|⟨k,hk,_⟩
  .exact e
  .omega
 have h0:PInv l b 0 ((B6 l.length aB.I).set 0 b.I) []:=by
  refine⟨by simp,λj hj p t hh=>?_,λj hj=>?_,λp t hh=>.inr ⟨0,Gh h AG,?_⟩,λx hx=>by cases hx⟩
  .obtain rfl:=f0 j hj;unfold JK at hh;rw[hz,HX]at hh;exact⟨hh,rfl⟩
  .obtain rfl:=f0 j hj;unfold JK;rw[hz,HX];exact hok
  .unfold JK;rw[hz,HX];exact hh
 obtain⟨own',hp⟩:=Lk h l.length 0 _ _ AG h0;have e:JF l b=PD (l.drop 0) 0 ((B6 l.length aB.I).set 0 b.I) []:=by unfold JF;rw[ht,hb];rfl
 rw[e];refine⟨hp.out,λp t hh=>?_⟩;rcases hp.all p t hh with h1|⟨j,hj,_⟩
 .exact h1
 .have:=hj.1
  have:=hj.2.1
  omega
theorem Ji:∀{l:LI} {a:Int},QD l a<=a/\∀x∈l,QD l a<=H7 x
 |[],a=>⟨DH _,λx hx=>by cases hx⟩
 |y::r,a=>by
  rw[QD];obtain⟨h1,h2⟩:=Ji (l:=r) (a:=min a (H7 y));refine⟨by omega,λx hx=>?_⟩;rcases AW.1 hx with rfl|hx
  .omega
  .exact h2 x hx
theorem Jf:∀{l:LI} {a:Int},a<=QC l a/\∀x∈l,H7 x<=QC l a
 |[],a=>⟨DH _,λx hx=>by cases hx⟩
 |y::r,a=>by
  rw[QC];obtain⟨h1,h2⟩:=Jf (l:=r) (a:=max a (H7 y));refine⟨by omega,λx hx=>?_⟩;rcases AW.1 hx with rfl|hx
  .omega
  .exact h2 x hx
theorem Jh:∀{l:LI} {a:Int},QD l a=a\/∃x∈l,QD l a=H7 x
 |[],a=>.inl rfl
 |y::r,a=>by
  rw[QD];rcases Jh (l:=r) (a:=min a (H7 y))with h|⟨x,hx,h⟩
  .rw[h];by_cases hd:a<=H7 y
   .exact .inl AG
   .exact .inr ⟨y,AY ..,by omega⟩
  .exact .inr ⟨x,A6 _ hx,h⟩
theorem Je:∀{l:LI} {a:Int},QC l a=a\/∃x∈l,QC l a=H7 x
 |[],a=>.inl rfl
 |y::r,a=>by
  rw[QC];rcases Je (l:=r) (a:=max a (H7 y))with h|⟨x,hx,h⟩
  .rw[h];by_cases hd:H7 y<=a
   .exact .inl AG
   .exact .inr ⟨y,AY ..,by omega⟩
  .exact .inr ⟨x,A6 _ hx,h⟩
theorem zce{ps:LI}(hp:ps≠[]):(∀x∈ps,jG ps<=H7 x/\H7 x<=jF ps)/\(∃x∈ps,H7 x=jG ps)/\∃x∈ps,H7 x=jF ps:=by
 unfold jG jF;cases ps with
 |nil=>exact absurd rfl hp
 |cons y r=>
  have e:(y::r).getD 0 default=y:=rfl;rw[e];refine⟨λx hx=>⟨Ji.2 x hx,Jf.2 x hx⟩,?_,?_⟩
  .rcases Jh (l:=y::r) (a:=H7 y)with h|⟨x,hx,h⟩
   .exact⟨y,AY ..,h.symm⟩
   .exact⟨x,hx,h.symm⟩
  .rcases Je (l:=y::r) (a:=H7 y)with h|⟨x,hx,h⟩
   .exact⟨y,AY ..,h.symm⟩
   .exact⟨x,hx,h.symm⟩
theorem ZE{l:LI}(ht:GP l 4=AC){b:Bx}(hb:b.emp=AD)(hok:b.ok):
  (∀p t,b.has p t=AC->IT l b<=GW l p/\GW l p<=IS l b)/\(∃p t,b.has p t=AC/\GW l p=IT l b)/\∃p t,b.has p t=AC/\GW l p=IS l b:=by
 obtain⟨h1,h2⟩:=uu ht hb hok;have hne:JF l b≠[]:=λe=>by
  obtain⟨x,hx,_⟩:=h2 b.low b.s4.hi (X2 b hb);rw[e]at hx;cases hx
 obtain⟨q1,⟨x,hx,q2⟩,⟨y,hy,q3⟩⟩:=zce hne;have hT:ZD l b=AC:=by
  unfold ZD;cases he:JF l b with
  |nil=>exact absurd he hne
  |cons _ _=>rfl
 unfold IT IS;rw[hT,DQ,DQ];refine⟨λp t hh=>?_,⟨(EG x).low,(EG x).s4.hi,?_⟩,⟨(EG y).low,(EG y).s4.hi,?_⟩⟩
 .obtain⟨z,hz,hzh⟩:=h2 p t hh;rw[((h1 z hz).2.2 p t hzh).2];exact q1 z hz
 .obtain⟨r1,r2⟩:=(h1 x hx).2.2 _ _ (X2 _ (h1 x hx).1);exact⟨r1,r2.trans q2⟩
 .obtain⟨r1,r2⟩:=(h1 y hy).2.2 _ _ (X2 _ (h1 y hy).1);exact⟨r1,r2.trans q3⟩
open Go
theorem cG{m:Md}(hm:EU m=AC){t:IV}(ht:t∈m.ts):GP (E3 t) 4=AC:=by
 have h:=KC hm;exact zfz (Ug (CZ.1 h.2.2.2.2 t ht)).2 h.1.2
theorem xM(g:LI->Int)(k:Int)(p:Pt):∀(ts:LI) (s s':Int),(∀t∈ts,g (E3 t)<=GW (E3 t) p)->s<=s'->JN g k ts s<=PA k p ts s'
 |[],_,_,_,h=>h
 |t::r,s,s',hg,h=>by
  rw[JN,PA];have h1:=hg t (AY ..);refine xM g k p r _ _ (λu hu=>hg u (A6 _ hu)) ?_;cases(WE t==k)<;>simp only[B5,BK]<;>omega
theorem xK(g:LI->Int)(k:Int)(p:Pt):∀(ts:LI) (s s':Int),(∀t∈ts,GW (E3 t) p<=g (E3 t))->s'<=s->PA k p ts s'<=JN g k ts s
 |[],_,_,_,h=>h
 |t::r,s,s',hg,h=>by
  rw[JN,PA];have h1:=hg t (AY ..);refine xK g k p r _ _ (λu hu=>hg u (A6 _ hu)) ?_;cases(WE t==k)<;>simp only[B5,BK]<;>omega
theorem v8{m:Md}{k:Int}{b:Bx}(h:HG m k b=AC):EU m=AC/\HQ m k=AC/\b.emp=AD:=by
 unfold HG at h;simp only[AQ,CE]at h;exact h
theorem Fm{m:Md}{k:Int}(hm:EU m=AC)(hk:HQ m k=AC)(p:Pt):D1 m k p=PA k p m.ts (L0 m k):=by
 unfold D1;rw[hm,hk];rfl
theorem bW{m:Md}{k:Int}{b:Bx}(h:HG m k b=AC)(hok:b.ok){p:Pt}{t:Int}(hh:b.has p t=AC):EK m k b<=D1 m k p/\D1 m k p<=EI m k b:=by
 obtain⟨hm,hk,hb⟩:=v8 h;unfold EK EI;rw[h,DQ,DQ,Fm hm hk];exact⟨xM _ k p m.ts _ _ (λt ht=>((ZE (cG hm ht) hb hok).1 p _ hh).1) (DH _),xK _ k p m.ts _ _ (λt ht=>((ZE (cG hm ht) hb hok).1 p _ hh).2) (DH _)⟩
theorem zdg{m:Md}{k:Int}{b:Bx}(h:HG m k b=AC)(hok:b.ok){p:Pt}{t:Int}(hh:b.has p t=AC)(hc:∀u∈m.ts,∀p' t',b.has p' t'=AC->GW (E3 u) p'=GW (E3 u) p):EK m k b=D1 m k p/\EI m k b=D1 m k p:=by
 obtain⟨hm,hk,hb⟩:=v8 h;have h1:=bW h hok hh;have h2:D1 m k p<=EK m k b/\EI m k b<=D1 m k p:=by
  unfold EK EI;rw[h,DQ,DQ,Fm hm hk];refine⟨xK _ k p m.ts _ _ (λu hu=>?_) (DH _),xM _ k p m.ts _ _ (λu hu=>?_) (DH _)⟩
  .obtain⟨_,⟨p',t',q1,q2⟩,_⟩:=ZE (cG hm hu) hb hok;rw[<-hc u hu p' t' q1];exact Int.le_of_eq q2
  .obtain⟨_,_,⟨p',t',q1,q2⟩⟩:=ZE (cG hm hu) hb hok;rw[<-hc u hu p' t' q1];exact Int.le_of_eq q2.symm
 omega
theorem qL{x:Int}:∀{l:List Int} {p:Int},x∈l->x=p\/x∈KX p l
 |y::r,p,h=>by
  rw[KX];cases hb:(y==p)with
  |true=>
   have hb:=CF.1 hb;rw[DQ];rcases AW.1 h with h|h
   .exact .inl (h.trans hb)
   .rcases qL (p:=y) h with h1|h1
    .exact .inl (h1.trans hb)
    .exact .inr h1
  |false=>
   rw[DR];rcases AW.1 h with h|h
   .exact .inr (h▸AY ..)
   .rcases qL (p:=y) h with h1|h1
    .exact .inr (h1▸AY ..)
    .exact .inr (A6 _ h1)
theorem cu{x:Int}{l:List Int}(h:x∈l):x∈JS l:=by
 cases l with
 |nil=>cases h
 |cons y r=>
  rw[JS];rcases AW.1 h with h|h
  .exact h▸AY ..
  .rcases qL (p:=y) h with h1|h1
   .exact h1▸AY ..
   .exact A6 _ h1
theorem Ua{ts:LI}{f a:Int}:a∈JV ts f↔∃t∈ts,∃w∈E3 t,(DT w.toInt).lf=AD/\(DT w.toInt).f=f/\(DT w.toInt).a=a:=by
 have e:a∈JV ts f↔a∈I9 ts f:=by
  unfold JV;exact⟨λh=>(UD _).mem_iff.1 (Dz h),λh=>cu ((UD _).mem_iff.2 h)⟩
 rw[e];unfold I9;simp only[List.mem_flatMap];constructor
 .rintro⟨t,ht,w,hw,h⟩;unfold JO at h;cases hc:(!(DT w.toInt).lf&&(DT w.toInt).f==f)with
  |false=>rw[hc,DR]at h;cases h
  |true=>
   rw[hc,DQ]at h;simp only[AQ,CE,CF]at hc;exact⟨t,ht,w,hw,hc.1,hc.2,(BZ.1 h).symm⟩
 .rintro⟨t,ht,w,hw,h1,h2,h3⟩;refine⟨t,ht,w,hw,?_⟩;unfold JO;rw[h1,h2,DF];exact BZ.2 h3.symm
def aP(m:Md)(s:Sp)(f:Int):Prop:=∀a∈JV m.ts f,¬(s.lo<=a/\a<s.hi)
theorem uj{lo hi a:Int}{l:List Int}:a∈LN lo hi l↔a∈l/\lo<=a/\a<hi:=by
 unfold LN;rw[List.mem_filter];simp only[CE,vag,B3];constructor
 .rintro⟨h,h1,h2⟩;exact⟨h,by omega,by omega⟩
 .rintro⟨h,h1,h2⟩;exact⟨h,by omega,by omega⟩
theorem O8{m:Md}{q:Qy}{b:Bx}{i:Nat}{a:Int}:a∈EM m q b i↔0<=IA q (i:Int)/\a∈JV m.ts (IA q (i:Int))/\(b.g i).lo<=a/\a<(b.g i).hi:=by
 unfold EM;cases hd:AE (IA q (i:Int)<0)with
 |true=>
  have:=BB hd
  rw[DQ];constructor
  .intro h;cases h
  .rintro⟨h,_⟩;omega
 |false=>
  have:=BM hd
  rw[DR,uj];constructor
  .intro h;exact⟨by omega,h⟩
  .exact λh=>h.2
theorem Ge{m:Md}{q:Qy}{b:Bx}{i:Nat}(h:EM m q b i=[])(hf:0<=IA q (i:Int)):aP m (b.g i) (IA q (i:Int)):=by
 intro a ha hr
 have:a∈EM m q b i:=O8.2 ⟨hf,ha,hr⟩
 rw[h]at this;cases this
theorem rN{q:Qy}{i:Nat}(hi:i<4):IA q (i:Int)=(i:Int):=by
 unfold IA;rw[AL (show(i:Int)>=0 by omega),AL (show(i:Int)<4 by omega)];rfl
theorem xY{l:LI}{p p':Pt}(h:∀w∈l,FQ w.toInt=AC->(DT w.toInt).lf=AD->(p.g (DT w.toInt).f.toNat<=(DT w.toInt).a↔p'.g (DT w.toInt).f.toNat<=(DT w.toInt).a)):∀(n:Nat) (a:Int),G5 l p n a=G5 l p' n a
 |0,_=>rfl
 |n+1,a=>by
  rw[G5,G5];cases AE (a>=ic l.length)with
  |true=>rfl
  |false=>
   rw[DR,DR];by_cases hlt:a.toNat<l.length
   .have hw:l.getD a.toNat default∈l:=by rw[iE hlt];exact C0 hlt
    generalize l.getD a.toNat default=w at hw ⊢;cases hb:FQ w.toInt with
    |false=>rfl
    |true=>
     rw[A9,DR,DR];cases hl:(DT w.toInt).lf with
     |true=>rfl
     |false=>
      have:=h w hw hb hl
      have ed:AE (p.g (DT w.toInt).f.toNat<=(DT w.toInt).a)=AE (p'.g (DT w.toInt).f.toNat<=(DT w.toInt).a):=by
       rw[vaB,AZ,AZ];exact this
      rw[DR,DR,ed,xY h n _,xY h n _]
   .have e:l.getD a.toNat default=default:=by
     rw[BY,B8 AG];rfl
    rw[e];rfl
theorem lw{m:Md}{b:Bx}(hf:∀f:Nat,f<4->aP m (b.g f) (f:Int)){u:IV}(hu:u∈m.ts){p p':Pt}{t t':Int}(h:b.has p t=AC)(h':b.has p' t'=AC):GW (E3 u) p'=GW (E3 u) p:=by
 unfold GW hZ;rw[xY (p:=p') (p':=p) λw hw hb hl=>?_];obtain⟨⟨f0,f4⟩,_⟩:=bA hb hl;have ef:(DT w.toInt).f=(((DT w.toInt).f.toNat:Nat):Int):=by omega
 have hlt:(DT w.toInt).f.toNat<4:=by omega
 have h1:=M2.1 (OY.1 h _ (show(DT w.toInt).f.toNat<5 by omega));have h2:=M2.1 (OY.1 h' _ (show(DT w.toInt).f.toNat<5 by omega));rw[gX _ _ hlt]at h1 h2;have h3:=hf _ hlt (DT w.toInt).a (Ua.2 ⟨u,hu,w,hw,hl,ef,rfl⟩);omega
theorem jO{m:Md}{k:Int}{b:Bx}(h:HG m k b=AC)(hok:b.ok)(hf:∀f:Nat,f<4->aP m (b.g f) (f:Int)){p:Pt}{t:Int}(hh:b.has p t=AC):EK m k b=D1 m k p/\EI m k b=D1 m k p:=
 zdg h hok hh λ_ hu _ _ h'=>lw hf hu hh h'
theorem tJ{m:Md}{c lo:Int}{b:Bx}:∀(d:Nat) (i a:Int) (z:Bool),(0<SD m c lo b d i a z↔(z=AC\/∃j:Nat,j<d/\i+j≠c)/\(z=AC->0<a)/\∀j:Nat,j<d->i+j≠c->EI m (i+j) b<lo)\/(z=AD/\∀j:Nat,j<d->i+j=c)
 |0,i,a,z=>by
  cases z with
  |false=>exact .inr ⟨rfl,λj hj=>absurd hj (Nat.not_lt_zero j)⟩
  |true=>
   refine .inl ?_;rw[SD];exact⟨λh=>⟨.inl rfl,λ_=>h,λj hj=>absurd hj (Nat.not_lt_zero j)⟩,λh=>h.2.1 rfl⟩
 |d+1,i,a,z=>by
  rw[SD];have sh:∀j:Nat,i+1+(j:Int)=i+((j+1:Nat):Int):=λj=>by omega
  cases hc:(i==c)with
  |true=>
   have hc:=CF.1 hc;rw[DQ];rcases tJ (m:=m) (c:=c) (lo:=lo) (b:=b) d (i+1) a z with h|⟨h1,h2⟩
   .refine .inl (h.trans ?_);constructor
    .rintro⟨q1,q2,q3⟩;refine⟨q1.imp_right ?_,q2,λj hj hne=>?_⟩
     .rintro⟨j,hj,hne⟩;exact⟨j+1,by omega,by rw[<-sh j];exact hne⟩
     .cases j with
      |zero=>exact absurd (by simpa using hc) hne
      |succ j=>rw[<-sh j]at hne ⊢;exact q3 j AG hne
    .rintro⟨q1,q2,q3⟩;refine⟨q1.imp_right ?_,q2,λj hj hne=>?_⟩
     .rintro⟨j,hj,hne⟩;cases j with
      |zero=>exact absurd (by simpa using hc) hne
      |succ j=>exact⟨j,by omega,by rw[sh j];exact hne⟩
     .rw[sh j]at hne ⊢;exact q3 (j+1) AG hne
   .refine .inr ⟨h1,λj hj=>?_⟩;cases j with
    |zero=>simpa using hc
    |succ j=>rw[<-sh j];exact h2 j AG
  |false=>
   have hc:i≠c:=λe=>by rw[e,DF]at hc;cases hc
   rw[DR];refine .inl ?_;have key:∀(a':Int),(0<a'↔(z=AC->0<a)/\EI m i b<lo)->(0<SD m c lo b d (i+1) a' AC↔(z=AC\/∃j:Nat,j<d+1/\i+(j:Int)≠c)/\(z=AC->0<a)/\∀j:Nat,j<d+1->i+(j:Int)≠c->EI m (i+j) b<lo):=λa' ha'=>by
    rcases tJ (m:=m) (c:=c) (lo:=lo) (b:=b) d (i+1) a' AC with h|⟨h1,_⟩
    .rw[h];constructor
     .rintro⟨_,q2,q3⟩;obtain⟨r1,r2⟩:=ha'.1 (q2 rfl);refine⟨.inr ⟨0,by omega,by simpa using hc⟩,r1,λj hj hne=>?_⟩;cases j with
      |zero=>simpa using r2
      |succ j=>rw[<-sh j]at hne ⊢;exact q3 j AG hne
     .rintro⟨_,q2,q3⟩;have r2:=q3 0 AG (by simpa using hc);refine⟨.inl rfl,λ_=>ha'.2 ⟨q2,by simpa using r2⟩,λj hj hne=>?_⟩;rw[sh j]at hne ⊢;exact q3 (j+1) AG hne
    .cases h1
   cases z with
   |false=>
    rw[BF,Bool.true_or,DQ];exact key _ ⟨λh=>⟨λh=>(by cases h),by omega⟩,λh=>by have:=h.2;omega⟩
   |true=>
    rw[A9,vaF];cases hd:AE (lo-EI m i b<a)with
    |true=>
     have hd:=BB hd;rw[DQ];exact key _ ⟨λh=>⟨λ_=>by omega,by omega⟩,λh=>by have:=h.2;omega⟩
    |false=>
     have hd:=BM hd;rw[DR];exact key _ ⟨λh=>⟨λ_=>h,by omega⟩,λh=>h.1 rfl⟩
theorem tK{m:Md}{c:Int}{b:Bx}(h:NP m c b=AC):0<T3 m c b↔∀j:Nat,(j:Int)<m.c->(j:Int)≠c->EI m (j:Int) b<EK m c b:=by
 have h0:=h;unfold NP at h0;rw[AQ,AZ]at h0;obtain⟨hs,h2⟩:=h0;have hc:=Dv (v8 hs).2.1;unfold T3;rw[h,DQ];rcases tJ (m:=m) (c:=c) (lo:=EK m c b) (b:=b) m.c.toNat 0 0 AD with h1|⟨_,h1⟩
 .rw[h1];simp only[Int.zero_add];constructor
  .rintro⟨_,_,q⟩ j hj hne;exact q j AG hne
  .intro q;refine⟨.inr ?_,λh=>(by cases h),λj hj hne=>q j AG hne⟩;by_cases e:c=0
   .exact⟨1,by omega,by omega⟩
   .exact⟨0,by omega,by omega⟩
 .have q0:=h1 0 AG;have q1:=h1 1 AG;omega
theorem zcg(p:Pt)(x t:Int):∀{f i:Nat},f<4->i<5->co (p.p x f) t i=if i=f then x else co p t i
 |0,0,_,_=>rfl
 |0,1,_,_=>rfl
 |0,2,_,_=>rfl
 |0,3,_,_=>rfl
 |0,4,_,_=>rfl
 |1,0,_,_=>rfl
 |1,1,_,_=>rfl
 |1,2,_,_=>rfl
 |1,3,_,_=>rfl
 |1,4,_,_=>rfl
 |2,0,_,_=>rfl
 |2,1,_,_=>rfl
 |2,2,_,_=>rfl
 |2,3,_,_=>rfl
 |2,4,_,_=>rfl
 |3,0,_,_=>rfl
 |3,1,_,_=>rfl
 |3,2,_,_=>rfl
 |3,3,_,_=>rfl
 |3,4,_,_=>rfl
 |f+4,_,h,_=>absurd h AG
 |_,i+5,_,h=>absurd h AG
theorem Eb(p:Pt)(t t':Int):∀{i:Nat},i<4->co p t i=co p t' i
 |0,_=>rfl
 |1,_=>rfl
 |2,_=>rfl
 |3,_=>rfl
 |i+4,h=>absurd h AG
theorem Gb{q:Qy}{b:Bx}(hp:G1 q=AC){p:Pt}{t:Int}(h:b.has p t=AC):(KM q b).has p 0=AC:=by
 rw[OY]at h ⊢;intro i hi;unfold KM;rw[hp,DQ,LG _ _ AG hi];by_cases e:i=4
 .subst e;rw[BX rfl];rfl
 .rw[BO e,Eb p 0 t AG];exact h i hi
theorem Ox{q:Qy}{b:Bx}(hp:G1 q=AC){p:Pt}{t:Int}(h:b.has p t=AC):(KR q b).has (H2 q p t) 0=AC:=by
 have hf:q.ft.toNat<4:=by rcases QJ hp with e|e|e|e<;>rw[e]<;>decide
 rw[OY]at h ⊢;intro i hi;unfold KR H2;rw[hp,DQ,DQ,LG _ _ AG hi];by_cases e:i=4
 .subst e;rw[BX rfl]
  have:co (p.p t q.ft.toNat) 0 4=0:=rfl
  rw[this];rfl
 .rw[BO e,LG _ _ AG hi,zcg p t 0 hf hi];by_cases e2:i=q.ft.toNat
  .rw[BX e2,BX e2];exact h 4 AG
  .rw[BO e2,BO e2,Eb p 0 t AG];exact h i hi
theorem Gc{q:Qy}{b:Bx}(hb:b.ok):(KM q b).ok:=by
 unfold KM;cases G1 q with
 |true=>exact i9 (s:=⟨0,0⟩) (i:=4) hb (show(0:Int)<=2147483647 by omega) AG
 |false=>exact hb
theorem Oy{q:Qy}{b:Bx}(hb:b.ok):(KR q b).ok:=by
 unfold KR;cases hp:G1 q with
 |true=>
  have hf:q.ft.toNat<5:=by rcases QJ hp with e|e|e|e<;>rw[e]<;>decide
  exact i9 (s:=⟨0,0⟩) (i:=4) (i9 hb (hb 4 AG) hf) (show(0:Int)<=2147483647 by omega) AG
 |false=>exact hb
theorem gW{m:Md}{k:Int}(h0:0<=k)(h1:k<m.c):HQ m k=AC:=by
 unfold HQ;rw[AL h0,AL h1];rfl
theorem RD{m:Md}{k:Int}{b:Bx}(hm:EU m=AC)(hk:HQ m k=AC)(hb:b.emp=AD):HG m k b=AC:=by
 unfold HG;rw[hm,hk,hb];rfl
theorem nS{m:Md}{q:Qy}(hm:EU m=AC)(hk:q.k=3)(hf:0<=q.ft/\q.ft<m.d):G1 q=AC:=by
 have:=(KC hm).1
 unfold G1;rw[hk,AL (show q.ft>=0 by omega),AL (show q.ft<4 by omega)];rfl
theorem Kv{m:Md}{q:Qy}{p:Pt}{own:Int}:Y4 m q p own=AC↔∃j:Nat,(j:Int)<m.c/\(j:Int)≠q.c/\D1 m (j:Int) p>=own:=by
 unfold Y4;rw[List.any_eq_true];constructor
 .rintro⟨c,hc,h⟩;simp only[AQ,CE,BH,AZ]at h;exact⟨c,by have:=vbk.1 hc;omega,h.1,h.2⟩
 .rintro⟨j,h1,h2,h3⟩;refine⟨j,vbk.2 AG,?_⟩;simp only[AQ,CE,BH,AZ];exact⟨h2,h3⟩
theorem Du{m:Md}{q:Qy}{b:Bx}(hok:b.ok)(hc:G4 m q b=AC){p:Pt}{t:Int}(hh:b.has p t=AC):GH m q p t=AD:=by
 unfold G4 at hc;rw[AQ]at hc;obtain⟨hr,hc⟩:=hc;obtain⟨hm,⟨c0,c1⟩,_,_,hk⟩:=SO hr;have hb:=X3 hh;have hcl:=gW c0 c1;have hs:=RD hm hcl hb;rw[hb,DR]at hc;unfold GH;rw[hr,BI];rcases aW hk with⟨e,_⟩|⟨e,h2,_⟩|⟨e,hf,_⟩
 .rw[e]at hc ⊢;replace hc:(HG m q.c b&&(AE (q.lo<=EK m q.c b)&&AE (EI m q.c b<=q.hi)))=AC:=hc;simp only[AQ,AZ]at hc
  have:=bW hs hok hh
  show(!(Sp.has ⟨q.lo,q.hi⟩ (D1 m q.c p)))=AD;rw[Bool.not_eq_false',M2];exact⟨by show q.lo<=_;omega,by show _<=q.hi;omega⟩
 .rw[e]at hc ⊢;replace hc:(NP m q.c b&&AE (T3 m q.c b>0))=AC:=hc;rw[AQ,AZ]at hc;have hall:=(tK hc.1).1 hc.2;show Y4 m q p (D1 m q.c p)=AD;cases ho:Y4 m q p (D1 m q.c p)with
  |false=>rfl
  |true=>
   obtain⟨j,h3,h4,h5⟩:=Kv.1 ho;have h6:=hall j h3 h4;have h7:=bW hs hok hh;have h8:=bW (RD hm (gW (k:=(j:Int)) AG h3) hb) hok hh;omega
 .rw[e]at hc ⊢;have hp:=nS hm e hf;have hf5:q.ft.toNat<4:=by rcases QJ hp with e|e|e|e<;>rw[e]<;>decide
  replace hc:cond (!(OK q b)) AC (cond q.fl (KW m q b&&AE (QZ m q b<=0)) (KW m q b&&AE (Q0 m q b>=0)))=AC:=hc;show cond (AE (p.g q.ft.toNat>=t)) AD _=AD;cases hd:AE (p.g q.ft.toNat>=t)with
  |true=>rfl
  |false=>
   have hd:=BM hd;have h1:=M2.1 (OY.1 hh q.ft.toNat AG);have h2:=M2.1 (OY.1 hh 4 AG);rw[gX p t hf5]at h1;have ho:OK q b=AC:=by
    unfold OK;rw[hp,hb,AL]
    .rfl
    .have h2':t<=b.s4.hi:=h2.2;omega
   rw[ho,A9,DR]at hc;have f1:=Gb (b:=b) hp hh;have f2:=Ox (b:=b) hp hh;have s1:=bW (RD hm hcl (X3 f1)) (Gc hok) f1;have s2:=bW (RD hm hcl (X3 f2)) (Oy hok) f2;rw[DR];cases hfl:q.fl with
   |true=>
    rw[hfl,DQ,AQ,AZ]at hc;rw[DQ,B3];have h3:=hc.2;unfold QZ at h3;rw[hc.1,DQ]at h3;omega
   |false=>
    rw[hfl,DR,AQ,AZ]at hc;rw[DR,B3];have h3:=hc.2;unfold Q0 at h3;rw[hc.1,DQ]at h3;omega
theorem Dl{m:Md}{q:Qy}{b:Bx}(hr:E8 m q=AC)(hb:b.emp=AD)(hok:b.ok)(hn:∀i,i<5->EM m q b i=[]):G4 m q b=AC\/GH m q b.low b.s4.hi=AC:=by
 obtain⟨hm,⟨c0,c1⟩,_,_,hk⟩:=SO hr;have hcl:=gW c0 c1;have hs:=RD hm hcl hb;have hh:=X2 b hb;have hfl:∀f:Nat,f<4->aP m (b.g f) (f:Int):=λf hf=>by
  have:=Ge (hn f AG) (by rw[rN hf];omega)
  rwa [rN hf]at this
 unfold G4 GH;rw[hr,hb,BI,BI,DR];rcases aW hk with⟨e,_⟩|⟨e,h2,_⟩|⟨e,hf,_⟩
 .rw[e];obtain⟨q1,q2⟩:=jO hs hok hfl hh;show(HG m q.c b&&(AE (q.lo<=EK m q.c b)&&AE (EI m q.c b<=q.hi)))=AC\/(!(Sp.has ⟨q.lo,q.hi⟩ (D1 m q.c b.low)))=AC;rw[hs,q1,q2,BI];unfold Sp.has;cases(AE (q.lo<=D1 m q.c b.low)&&AE (D1 m q.c b.low<=q.hi))with
  |true=>exact .inl rfl
  |false=>exact .inr rfl
 .rw[e];show(NP m q.c b&&AE (T3 m q.c b>0))=AC\/Y4 m q b.low (D1 m q.c b.low)=AC;have hg:NP m q.c b=AC:=by unfold NP;rw[hs,AL (show m.c>=2 from h2)];rfl
  rw[hg,BI];cases ho:Y4 m q b.low (D1 m q.c b.low)with
  |true=>exact .inr rfl
  |false=>
   refine .inl (AL ((tK hg).2 λj hj hne=>?_));have q1:=(jO hs hok hfl hh).1;have q2:=(jO (RD hm (gW (k:=(j:Int)) AG hj) hb) hok hfl hh).2;have q3:¬D1 m (j:Int) b.low>=D1 m q.c b.low:=λh=>by
    rw[Kv.2 ⟨j,hj,hne,h⟩]at ho;cases ho
   omega
 .rw[e];have hp:=nS hm e hf;have hf5:q.ft.toNat<4:=by rcases QJ hp with e|e|e|e<;>rw[e]<;>decide
  have ef:q.ft=((q.ft.toNat:Nat):Int):=by omega
  show cond (!(OK q b)) AC (cond q.fl (KW m q b&&AE (QZ m q b<=0)) (KW m q b&&AE (Q0 m q b>=0)))=AC\/cond (AE (b.low.g q.ft.toNat>=b.s4.hi)) AD (cond q.fl (AE (D1 m q.c (H2 q b.low b.s4.hi)>D1 m q.c b.low)) (AE (D1 m q.c (H2 q b.low b.s4.hi)<D1 m q.c b.low)))=AC;cases ho:OK q b with
  |false=>exact .inl rfl
  |true=>
   have hlt:b.low.g q.ft.toNat<b.s4.hi:=by
    unfold OK at ho;simp only[AQ,AZ]at ho;have h1:=ho.2.2
    have:b.low.g q.ft.toNat=(b.g q.ft.toNat).lo:=by
     match q.ft.toNat,hf5 with
     |0,_=>rfl
     |1,_=>rfl
     |2,_=>rfl
     |3,_=>rfl
     |n+4,h=>exact absurd h AG
    omega
   have f1:=Gb (b:=b) hp hh;have f2:=Ox (b:=b) hp hh;have k1:=RD hm hcl (X3 f1);have k2:=RD hm hcl (X3 f2);have fl1:∀f:Nat,f<4->aP m ((KM q b).g f) (f:Int):=λf hf=>by
    unfold KM;rw[hp,DQ,LG _ _ AG AG,BO AG];exact hfl f hf
   have fl2:∀f:Nat,f<4->aP m ((KR q b).g f) (f:Int):=λf hf=>by
    unfold KR;rw[hp,DQ,LG _ _ AG AG,BO AG,LG _ _ AG AG];by_cases e2:f=q.ft.toNat
    .rw[BX e2];have e4:IA q ((4:Nat):Int)=q.ft:=by unfold IA;rw[e];rfl
     have:=Ge (hn 4 AG) (by rw[e4];omega)
     rw[e4,ef,<-e2]at this;exact this
    .rw[BO e2];exact hfl f hf
   obtain⟨q1,q2⟩:=jO k1 (Gc hok) fl1 f1;obtain⟨q3,q4⟩:=jO k2 (Oy hok) fl2 f2;have hch:KW m q b=AC:=by unfold KW;rw[hp,k1,k2];rfl
   rw[A9,DR,hch,BI,BI,AS (show¬b.low.g q.ft.toNat>=b.s4.hi by omega),DR];unfold QZ Q0;rw[hch,DQ,DQ,q1,q2,q3,q4];cases q.fl with
   |true=>
    rw[DQ,DQ];by_cases hd:D1 m q.c (H2 q b.low b.s4.hi)>D1 m q.c b.low
    .exact .inr (AL hd)
    .exact .inl (AL AG)
   |false=>
    rw[DR,DR];by_cases hd:D1 m q.c (H2 q b.low b.s4.hi)<D1 m q.c b.low
    .exact .inr (AL hd)
    .exact .inl (AL AG)
theorem Qv{m:Md}{q:Qy}{b:Bx}:∀(d i:Nat),(MC m q b d i).isSome=AD->∀j,i<=j->j<i+d->EM m q b j=[]
 |0,i,_,j,h1,h2=>by omega
 |d+1,i,h,j,h1,h2=>by
  rw[MC]at h;cases hc:AE ((EM m q b i).length>0)with
  |true=>rw[hc,DQ]at h;cases h
  |false=>
   rw[hc,DR]at h;have hc:=BM hc;by_cases e:j=i
   .subst e;exact List.length_eq_zero_iff.1 AG
   .exact Qv d (i+1) h j AG AG
theorem zeX{m:Md}{q:Qy}{b:Bx}(h:(FI m q b).isSome=AD):∀i,i<5->EM m q b i=[]:=λi hi=>Qv 5 0 h i (CH _) AG
theorem Qw{m:Md}{q:Qy}{b:Bx}:∀(d i:Nat),(MC m q b d i).isSome=AC->∃j:Nat,i<=j/\j<i+d/\KT (MC m q b d i)=(j:Int)/\0<(EM m q b j).length/\JM (MC m q b d i)=(EM m q b j).getD (((EM m q b j).length-1)/2) 0/\∀k,i<=k->k<j->EM m q b k=[]
 |0,i,h=>by rw[MC]at h;cases h
 |d+1,i,h=>by
  rw[MC]at h ⊢;cases hc:AE ((EM m q b i).length>0)with
  |true=>exact⟨i,A4 _,by omega,rfl,BB hc,rfl,λk h1 h2=>absurd h1 AG⟩
  |false=>
   rw[hc,DR]at h;rw[DR];have hc:=BM hc;obtain⟨j,h1,h2,h3,h4,h5,h6⟩:=Qw d (i+1) h;refine⟨j,by omega,by omega,h3,h4,h5,λk hk1 hk2=>?_⟩;by_cases e:k=i
   .subst e;exact List.length_eq_zero_iff.1 AG
   .exact h6 k AG hk2
theorem xB{m:Md}{q:Qy}{b:Bx}(h:(FI m q b).isSome=AC):∃j:Nat,j<5/\KT (FI m q b)=(j:Int)/\0<(EM m q b j).length/\JM (FI m q b)=(EM m q b j).getD (((EM m q b j).length-1)/2) 0/\JM (FI m q b)∈EM m q b j:=by
 obtain⟨j,_,h2,h3,h4,h5,_⟩:=Qw 5 0 h;refine⟨j,by omega,h3,h4,h5,?_⟩;have hlt:((EM m q b j).length-1)/2<(EM m q b j).length:=by omega
 have:JM (FI m q b)=(EM m q b j)[((EM m q b j).length-1)/2]:=by
  refine Eq.trans h5 ?_;simp[hlt]
 rw[this];exact C0 hlt
open Go
def Bx.good(b:Bx):Prop:=∀i,i<5-> -2147483648<=(b.g i).lo/\(b.g i).lo<=(b.g i).hi/\(b.g i).hi<=2147483647
theorem Bx.good.emp{b:Bx}(h:b.good):b.emp=AD:=p9.2 λi hi=>(h i hi).2.1
theorem Bx.good.ok{b:Bx}(h:b.good):b.ok:=λi hi=>(h i hi).2.2
def Sp.good(s:Sp):Prop:= -2147483648<=s.lo/\s.lo<=s.hi/\s.hi<=2147483647
theorem V1{b:Bx}(hb:b.good){s:Sp}(hs:s.good){i:Nat}(hi:i<5):(b.p s i).good:=by
 intro j hj;rw[LG b s hi hj];by_cases h:j=i
 .rw[BX h];exact hs
 .rw[BO h];exact hb j hj
theorem Qr{lo hi:Int}(h0: -2147483648<=lo)(h1:lo<=hi)(h2:hi<=2147483647):(KE lo hi).good:=by
 unfold KE;rw[AS AG,DR];exact⟨h0,h1,h2⟩
theorem qQ{b:Bx}(hb:b.good){i:Nat}(hi:i<5){a:Int}(h1:(b.g i).lo<=a)(h2:a<(b.g i).hi):(b.cutL (i:Int) a).good:=by
 unfold Bx.cutL;rw[BE];have h:=hb i hi;refine V1 hb (Qr h.1 ?_ ?_) hi<;>omega
theorem lG{b:Bx}(hb:b.good){i:Nat}(hi:i<5){a:Int}(h1:(b.g i).lo<=a)(h2:a<(b.g i).hi):(b.cutH (i:Int) a).good:=by
 unfold Bx.cutH;rw[BE];have h:=hb i hi;have e:D7 (a+1)=a+1:=ER AG AG;refine V1 hb ?_ hi;unfold Sp.cutH;rw[AS AG,DR,e];exact Qr AG AG h.2.2
theorem jW{d i:Int}{s:Sp}(h:H3 d i s=AC):s.good:=by
 unfold H3 at h;simp only[AQ,CE,E4,Sp.emp,AZ,B3]at h;obtain⟨_,h1,h2,h3⟩:=h;exact⟨h2.1,by omega,h3.2⟩
theorem bT{m:Md}{q:Qy}(h:E8 m q=AC):EU m=AC/\(0<=q.c/\q.c<m.c)/\(0<=q.bu/\q.bu<=65536)/\Q9 q.bx m.d=AC/\OF m q=AC:=by
 unfold E8 at h;simp only[AQ,AZ]at h;exact⟨h.1,⟨h.2.1,h.2.2.1⟩,⟨h.2.2.2.1,h.2.2.2.2.1⟩,h.2.2.2.2.2.1,h.2.2.2.2.2.2⟩
theorem zcL{b:Bx}{d:Int}(h:Q9 b d=AC):b.good:=by
 unfold Q9 at h;simp only[AQ]at h;intro i hi
 match i,hi with
 |0,_=>exact jW h.1
 |1,_=>exact jW h.2.1
 |2,_=>exact jW h.2.2.1
 |3,_=>exact jW h.2.2.2.1
 |4,_=>exact jW h.2.2.2.2
 |n+5,hi=>omega
theorem WD{m:Md}{q:Qy}(h:E8 m q=AC):(FG q).good:=by
 have hb:=zcL (bT h).2.2.2.1;unfold FG;refine V1 hb ?_ AG;cases hp:G1 q with
 |false=>rw[DR];exact⟨by decide,by decide,by decide⟩
 |true=>
  rw[DQ];unfold G1 at hp;simp only[AQ,AZ]at hp;exact hb q.ft.toNat AG
def aZ(s:Sr):Prop:=∀x∈s.left,(EG x).good
theorem oV{s:Sr}(h:aZ s)(hl:0<s.left.length):(EC s.left).good:=by
 unfold EC;refine h _ ?_;rw[BY,BD AG];exact C0 _
theorem wk{m:Md}{q:Qy}(h:E8 m q=AC):aZ ⟨[(FG q).I],[],Vd.none,0⟩:=by
 intro x hx;obtain rfl:=BZ.1 hx;rw[HX];exact WD h
theorem Tn{m:Md}{q:Qy}{s:Sr}(hr:E8 m q=AC)(hg:aZ s)(hl:0<s.left.length)(h1:G4 m q (EC s.left)=AD)(h2:GH m q (EC s.left).low (EC s.left).s4.hi=AD):
  (FI m q (EC s.left)).isSome=AC:=by
 have ht:=oV hg hl;cases hs:(FI m q (EC s.left)).isSome with
 |true=>rfl
 |false=>
  rcases Dl hr ht.emp ht.ok (zeX hs)with h|h
  .rw[h1]at h;cases h
  .rw[h2]at h;cases h
theorem bK{l:LI}{x:IV}(h:x∈F3 l):x∈l:=vaO h
theorem zfb{m:Md}{q:Qy}{s:Sr}(hg:aZ s)(hl:0<s.left.length):aZ (GO m q s):=by
 have hp:∀x∈F3 s.left,(EG x).good:=λx hx=>hg x (bK hx)
 unfold GO;cases G4 m q (EC s.left)with
 |true=>exact hp
 |false=>
  cases GH m q (EC s.left).low (EC s.left).s4.hi with
  |true=>exact hp
  |false=>
   cases hs:(FI m q (EC s.left)).isSome with
   |false=>exact hp
   |true=>
    obtain⟨j,hj,ei,_,_,hm⟩:=xB hs;have hc:=O8.1 hm;have ht:=oV hg hl;intro x hx;rw[DR,DR,DQ]at hx;rcases A5.1 hx with hx|hx
    .exact hp x hx
    .rw[ei]at hx;rcases AW.1 hx with rfl|hx
     .rw[HX];exact lG ht hj hc.2.2.1 hc.2.2.2
     .obtain rfl:=BZ.1 hx;rw[HX];exact qQ ht hj hc.2.2.1 hc.2.2.2
theorem UL(n lo hi:Int)(h:lo<=hi)(h0: -2000000000000000000<=lo)(h1:hi<=2000000000000000000):lo<=D0 n lo hi/\D0 n lo hi<=hi:=
 (HR (n:=n) (lo:=lo) (hi:=hi) AG AG AG).2
theorem pH(f:Ft):EU f.M=AC:=we _ _ _ _
theorem yU(f:Ft):QI f.M=AC:=by
 have hd:1<=f.M.d/\f.M.d<=3:=aK f.d;have hc:1<=f.M.c/\f.M.c<=3:=gV f.c;unfold QI;rw[AL hd.1,AL (show f.M.d<=4 by omega),AL hc.1,AL hc.2];rfl
theorem nX(d:Int)(l:LI)(i:Nat):H3 d (i:Int) ⟨F7 d l (i:Int),F8 d l (i:Int)⟩=AC:=by
 have h1:=UL (E0 l (2*(i:Int))) (-2) 9 AG AG AG;have h2:=UL (E0 l (2*(i:Int)+1)) 0 11 AG AG AG;unfold H3 Sp.emp F7 F8 E4;by_cases h:(i:Int)<d
 .rw[AL h,DQ,DQ,AS (show¬(i:Int)>=d by omega)];simp only[BP,BF,BI,AQ,CE,AZ,B3];omega
 .rw[AS h,DR,DR];simp
theorem uk(a:Ak)(c:Int):FV a c=1\/(FV a c=2/\2<=c)\/FV a c=3:=by
 have h:=UL a.k 1 3 AG AG AG;unfold FV;cases h2:(D0 a.k 1 3==2)with
 |true=>
  have h2':D0 a.k 1 3=2:=by simpa using h2
  by_cases hc:c<2
  .rw[AL hc];exact .inl rfl
  .rw[AS hc];exact .inr (.inl ⟨h2',by omega⟩)
 |false=>
  have h2':D0 a.k 1 3≠2:=by simpa using h2
  rw[BP,DR];omega
theorem Zy(f:Ft)(a:Ak){w:Int}(h0:0<=w)(h1:w<=65536):E8 f.M ((IW a f.M).bud w)=AC:=by
 have hd:1<=f.M.d/\f.M.d<=3:=aK f.d;have hc:1<=f.M.c/\f.M.c<=3:=gV f.c;have hm:=pH f;generalize f.M=m at hd hc hm ⊢;have hcl:=UL a.c 0 (m.c-1) AG AG AG;have hlo:=UL a.size 0 18000 AG AG AG;have hft:=UL a.ft 0 (m.d-1) AG AG AG;have hreg:Q9 ((IW a m).bud w).bx m.d=AC:=by
  unfold Q9;simp only[AQ];refine⟨nX m.d a.sp 0,nX m.d a.sp 1,nX m.d a.sp 2,nX m.d a.sp 3,?_⟩;show H3 m.d 4 ⟨0,0⟩=AC;unfold H3;simp[Sp.emp,E4]
 have hkind:OF m ((IW a m).bud w)=AC:=by
  unfold OF;show cond (FV a m.c==1) (AE (cond (FV a m.c==1) (K2 a) 0<=cond (FV a m.c==1) (K2 a+D0 a.size 0 18000) 0)&&((cond (FV a m.c==3) (D0 a.ft 0 (m.d-1)) 0==0)&&!(cond (FV a m.c==3) a.fl AD)))
   (cond (FV a m.c==2) (AE (m.c>=2)&&((cond (FV a m.c==1) (K2 a) 0==0)&&((cond (FV a m.c==1) (K2 a+D0 a.size 0 18000) 0==0)&&((cond (FV a m.c==3) (D0 a.ft 0 (m.d-1)) 0==0)&&!(cond (FV a m.c==3) a.fl AD)))))
    (cond (FV a m.c==3) (AE (cond (FV a m.c==3) (D0 a.ft 0 (m.d-1)) 0>=0)&&(AE (cond (FV a m.c==3) (D0 a.ft 0 (m.d-1)) 0<m.d)&&((cond (FV a m.c==1) (K2 a) 0==0)&&(cond (FV a m.c==1) (K2 a+D0 a.size 0 18000) 0==0)))) AD))=AC
  rcases uk a m.c with h|⟨h,h2⟩|h
  .rw[h];show(AE (K2 a<=K2 a+D0 a.size 0 18000)&&AC)=AC;rw[AL AG];rfl
  .rw[h];show(AE (m.c>=2)&&AC)=AC;rw[AL h2];rfl
  .rw[h];show(AE (D0 a.ft 0 (m.d-1)>=0)&&(AE (D0 a.ft 0 (m.d-1)<m.d)&&AC))=AC;rw[AL hft.1,AL AG];rfl
 unfold E8;rw[hm,hreg,hkind,AL (show((IW a m).bud w).c>=0 from hcl.1),AL (show((IW a m).bud w).c<m.c by show D0 a.c 0 (m.c-1)<m.c;omega),AL (show((IW a m).bud w).bu>=0 from h0),AL (show((IW a m).bud w).bu<=65536 from h1)];rfl
open Go
abbrev mL:List Kd:=[.z,.z,.z,.z,.z,.z,.z,.z,.z,.z,.z]
def RM(a:Int)(b:Bx):IV:=.agg [.int a,.int b.s0.lo,.int b.s0.hi,.int b.s1.lo,.int b.s1.hi,.int b.s2.lo,.int b.s2.hi,.int b.s3.lo,.int b.s3.hi,.int b.s4.lo,.int b.s4.hi]
abbrev IH(x:IV):Int:=cI x 0
def KG(x:IV):Bx:=⟨⟨cI x 1,cI x 2⟩,⟨cI x 3,cI x 4⟩,⟨cI x 5,cI x 6⟩,⟨cI x 7,cI x 8⟩,⟨cI x 9,cI x 10⟩⟩
theorem ZJ(a:Int)(b:Bx):IH (RM a b)=a:=rfl
theorem UI(a:Int)(b:Bx):KG (RM a b)=b:=rfl
structure En where
 todo:LI
 lo:Int
 hi:Int
 any:Bool
def FF(l:LI):IV:=l.getD (l.length-1) default
def FJ(l:LI)(e:En):Nd:=DT (l.getD (IH (FF e.todo)).toNat default).toInt
def hU(l:LI)(e:En):En:=
 cond (!(FQ (l.getD (IH (FF e.todo)).toNat default).toInt)||(KG (FF e.todo)).emp) ⟨F3 e.todo,e.lo,e.hi,e.any⟩
  (cond (!(FJ l e).lf)
   ⟨F3 e.todo++[RM (FJ l e).l ((KG (FF e.todo)).cutL (FJ l e).f (FJ l e).a),RM (FJ l e).r ((KG (FF e.todo)).cutH (FJ l e).f (FJ l e).a)],e.lo,e.hi,e.any⟩
   ⟨F3 e.todo,min (cond e.any e.lo (FJ l e).v) (FJ l e).v,max (cond e.any e.hi (FJ l e).v) (FJ l e).v,AC⟩)
def rA(b:Bx):En:=⟨[RM 0 b],0,0,AD⟩
structure EnI (l:LI) (b:Bx) (e:En):Prop where
 at_:∀(j:Nat) (x:IV),e.todo[j]?=AA x->(j:Int)<=IH x/\IH x<ic l.length
 ok:∀x∈e.todo,(KG x).ok
 val:∀x∈e.todo,∀p t,(KG x).has p t=AC->b.has p t=AC/\GW l p=RL l p (IH x).toNat
 all:∀p t,b.has p t=AC->(∃x∈e.todo,(KG x).has p t=AC)\/(e.any=AC/\e.lo<=GW l p/\GW l p<=e.hi)
 lo:e.any=AC->∃p t,b.has p t=AC/\GW l p=e.lo
 hi:e.any=AC->∃p t,b.has p t=AC/\GW l p=e.hi
theorem jD{l:LI}{j:Nat}{x:IV}(h:(F3 l)[j]?=AA x):l[j]?=AA x:=by
 unfold F3 at h;rw[C3]at h;split at h
 .exact h
 .cases h
theorem w9{l:LI}{x:IV}(hl:0<l.length)(h:x∈l):x∈F3 l\/x=FF l:=by
 obtain⟨j,hj⟩:=List.getElem?_of_mem h;have hjl:=(B4.1 hj).1;by_cases hc:j<l.length-1
 .refine .inl (vaa (i:=j) ?_);unfold F3;rw[C3,BX hc];exact hj
 .have:j=l.length-1:=by omega
  subst this;refine .inr ?_;unfold FF;rw[BY,hj];rfl
theorem UG{l:LI}(hl:0<l.length):FF l∈l/\l[l.length-1]?=AA (FF l):=by
 unfold FF;rw[BY,BD AG];exact⟨C0 _,rfl⟩
theorem V2(l:LI):(F3 l).length=l.length-1:=by
 unfold F3;rw[BL];omega
theorem fj{l:LI}(ht:TreeOK l){b:Bx}{e:En}(h:EnI l b e)(hl:0<e.todo.length):EnI l b (hU l e):=by
 obtain⟨hm,hg⟩:=UG hl;have ha:=h.at_ _ _ hg;have h31:=ht.len.2;have hpm:∀x∈F3 e.todo,x∈e.todo:=λx hx=>bK hx
 have e0:((IH (FF e.todo)).toNat:Int)=IH (FF e.todo):=by omega
 have hlt:(IH (FF e.todo)).toNat<l.length:=by have:=ha.2;simp only[ic]at this;omega
 have hn:=ht.node _ hlt;have hv:=h.val _ hm;have hok:=h.ok _ hm;unfold hU;rw[hn,A9,vaF];cases he:(KG (FF e.todo)).emp with
 |true=>
  rw[DQ];refine⟨λj x hj=>h.at_ j x (jD hj),λx hx=>h.ok x (hpm x hx),λx hx=>h.val x (hpm x hx),λp t hh=>?_,h.lo,h.hi⟩;rcases h.all p t hh with⟨x,hx,hxh⟩|hr
  .rcases w9 hl hx with hx|rfl
   .exact .inl ⟨x,hx,hxh⟩
   .have:=X3 hxh
    rw[he]at this;cases this
  .exact .inr hr
 |false=>
  rw[DR];cases hlf:(FJ l e).lf with
  |true=>
   rw[A9,DR];have hvl:∀p t,(KG (FF e.todo)).has p t=AC->b.has p t=AC/\GW l p=(FJ l e).v:=λp t hh=>by
    obtain⟨h1,h2⟩:=hv p t hh;exact⟨h1,h2.trans (Va ht p hlt hlf)⟩
   have hlow:=hvl _ _ (X2 _ he);refine⟨λj x hj=>h.at_ j x (jD hj),λx hx=>h.ok x (hpm x hx),λx hx=>h.val x (hpm x hx),λp t hh=>?_,λ_=>?_,λ_=>?_⟩
   .rcases h.all p t hh with⟨x,hx,hxh⟩|⟨h1,h2,h3⟩
    .rcases w9 hl hx with hx|rfl
     .exact .inl ⟨x,hx,hxh⟩
     .refine .inr ⟨rfl,?_,?_⟩
      .rw[(hvl p t hxh).2];show min _ _<=_;omega
      .rw[(hvl p t hxh).2];show _<=max _ _;omega
    .refine .inr ⟨rfl,?_,?_⟩
     .show min (cond e.any e.lo _) _<=_;rw[h1,DQ];omega
     .show _<=max (cond e.any e.hi _) _;rw[h1,DQ];omega
   .show∃p t,b.has p t=AC/\GW l p=min (cond e.any e.lo (FJ l e).v) (FJ l e).v;cases hany:e.any with
    |false=>exact⟨_,_,hlow.1,by rw[hlow.2,DR];omega⟩
    |true=>
     rw[DQ];by_cases hc:e.lo<=(FJ l e).v
     .obtain⟨p,t,h1,h2⟩:=h.lo hany;exact⟨p,t,h1,by omega⟩
     .exact⟨_,_,hlow.1,by rw[hlow.2];omega⟩
   .show∃p t,b.has p t=AC/\GW l p=max (cond e.any e.hi (FJ l e).v) (FJ l e).v;cases hany:e.any with
    |false=>exact⟨_,_,hlow.1,by rw[hlow.2,DR];omega⟩
    |true=>
     rw[DQ];by_cases hc:(FJ l e).v<=e.hi
     .obtain⟨p,t,h1,h2⟩:=h.hi hany;exact⟨p,t,h1,by omega⟩
     .exact⟨_,_,hlow.1,by rw[hlow.2];omega⟩
  |false=>
   rw[BF,DQ];obtain⟨⟨f0,f4⟩,fa,⟨l1,l2⟩,⟨r1,r2⟩,_⟩:=ht.fork _ hlt hlf;replace f0:0<=(FJ l e).f:=f0;replace f4:(FJ l e).f<4:=f4;replace l1:((IH (FF e.todo)).toNat:Int)<(FJ l e).l:=l1;replace l2:(FJ l e).l<ic l.length:=l2;replace r1:((IH (FF e.todo)).toNat:Int)<(FJ l e).r:=r1;replace r2:(FJ l e).r<ic l.length:=r2;have ef:(FJ l e).f=(((FJ l e).f.toNat:Nat):Int):=by omega
   have hfl:(FJ l e).f.toNat<5:=by omega
   have fa': -2147483648<=(FJ l e).a:=by
    have:E4 (FJ l e).a=AC:=fa
    unfold E4 at this;simp only[AQ,AZ]at this;exact this.1
   have vf:∀p:Pt,RL l p (IH (FF e.todo)).toNat=RL l p (cond (AE (p.g (FJ l e).f.toNat<=(FJ l e).a)) (FJ l e).l.toNat (FJ l e).r.toNat):=λp=>Uz ht p hlt hlf
   have hL:∀p t,((KG (FF e.todo)).cutL (FJ l e).f (FJ l e).a).has p t=AC↔(KG (FF e.todo)).has p t=AC/\co p t (FJ l e).f.toNat<=(FJ l e).a:=λp t=>by
    have:=gZ (b:=KG (FF e.todo)) hfl (a:=(FJ l e).a) (p:=p) (t:=t)
    rwa [<-ef]at this
   have hH:∀p t,((KG (FF e.todo)).cutH (FJ l e).f (FJ l e).a).has p t=AC↔(KG (FF e.todo)).has p t=AC/\(FJ l e).a<co p t (FJ l e).f.toNat:=λp t=>by
    have:=gY hok hfl fa' (p:=p) (t:=t)
    rwa [<-ef]at this
   have okL:((KG (FF e.todo)).cutL (FJ l e).f (FJ l e).a).ok:=by
    have:=Ei hok hfl (FJ l e).a
    rwa [<-ef]at this
   have okH:((KG (FF e.todo)).cutH (FJ l e).f (FJ l e).a).ok:=by
    have:=Eh hok hfl (FJ l e).a
    rwa [<-ef]at this
   have hco:∀p t,co p t (FJ l e).f.toNat=p.g (FJ l e).f.toNat:=λp t=>gX p t AG
   refine⟨λj x hj=>?_,λx hx=>?_,λx hx=>?_,λp t hh=>?_,h.lo,h.hi⟩
   .rw[vah,V2]at hj;split at hj
    .exact h.at_ j x (jD hj)
    .rename_i hc;have h1:=ha.1;rcases DN (j-(e.todo.length-1)) 1 with h0|h0
     .have:j-(e.todo.length-1)=0:=by omega
      rw[this]at hj;simp only[CA,AK]at hj;subst hj;rw[ZJ];omega
     .rcases DN (j-(e.todo.length-1)) 2 with h2|h2
      .have:j-(e.todo.length-1)=1:=by omega
       rw[this]at hj;simp only[C5,CA,AK]at hj;subst hj;rw[ZJ];omega
      .rw[B8 (by simpa using h2)]at hj;cases hj
   .rcases A5.1 hx with hx|hx
    .exact h.ok x (hpm x hx)
    .rcases AW.1 hx with rfl|hx
     .rw[UI];exact okL
     .obtain rfl:=BZ.1 hx;rw[UI];exact okH
   .rcases A5.1 hx with hx|hx
    .exact h.val x (hpm x hx)
    .rcases AW.1 hx with rfl|hx
     .intro p t hh;rw[UI]at hh;obtain⟨h1,h2⟩:=(hL p t).1 hh;obtain⟨h3,h4⟩:=hv p t h1;rw[hco]at h2;rw[ZJ];exact⟨h3,by rw[h4,vf,AL h2,DQ]⟩
     .obtain rfl:=BZ.1 hx;intro p t hh;rw[UI]at hh;obtain⟨h1,h2⟩:=(hH p t).1 hh;obtain⟨h3,h4⟩:=hv p t h1;rw[hco]at h2;rw[ZJ];exact⟨h3,by rw[h4,vf,AS AG,DR]⟩
   .rcases h.all p t hh with⟨x,hx,hxh⟩|hr
    .rcases w9 hl hx with hx|rfl
     .exact .inl ⟨x,A5.2 (.inl hx),hxh⟩
     .by_cases hc:co p t (FJ l e).f.toNat<=(FJ l e).a
      .exact .inl ⟨_,A5.2 (.inr (AY ..)),by rw[UI];exact(hL p t).2 ⟨hxh,hc⟩⟩
      .exact .inl ⟨_,A5.2 (.inr (A6 _ (AY ..))),by rw[UI];exact(hH p t).2 ⟨hxh,by omega⟩⟩
    .exact .inr hr
theorem fi{l:LI}(ht:TreeOK l){b:Bx}(hb:b.ok):EnI l b (rA b):=by
 have h1:=ht.len.1;refine⟨λj x hj=>?_,λx hx=>?_,λx hx=>?_,λp t hh=>.inl ⟨_,AY ..,by rw[UI];exact hh⟩,(λh=>by cases h),(λh=>by cases h)⟩
 .match j,hj with
  |0,hj=>
   obtain rfl:RM 0 b=x:=by simpa[rA]using hj
   rw[ZJ];simp only[ic];omega
  |j+1,hj=>simp[rA]at hj
 .obtain rfl:=BZ.1 hx;rw[UI];exact hb
 .obtain rfl:=BZ.1 hx;intro p t hh;rw[UI]at hh;exact⟨hh,rfl⟩
def Q5(l:LI):Nat:=(l.map λx=>3^(31-(IH x).toNat)).sum
theorem EnI.depth{l:LI}(ht:TreeOK l){b:Bx}{e:En}(h:EnI l b e):e.todo.length<=31:=by
 by_cases hc:e.todo.length<=31
 .exact hc
 .obtain⟨x,hx⟩:∃x,e.todo[31]?=AA x:=⟨_,BD AG⟩
  have:=h.at_ 31 x hx
  have h2:=ht.len.2;simp only[ic]at this;omega
theorem ff{l:LI}(hl:0<l.length):Q5 l=Q5 (F3 l)+3^(31-(IH (FF l)).toNat):=by
 have e:l=F3 l++[FF l]:=by
  have h2:=(UG hl).2;have h3:l[l.length-1]=FF l:=CB ((BD AG).symm.trans h2);unfold F3;rw[<-h3,List.take_append_getElem,C2 AG]
 unfold Q5
 conv=>lhs;rw[e]
 rw[List.map_append,List.sum_append];simp
theorem zft{a b c:Nat}(h1:a<b)(h2:a<c)(ha:a<31):3^(31-b)+3^(31-c)+1<=3^(31-a):=by
 have e:3^(31-a)=3*3^(30-a):=by
  rw[show 31-a=(30-a)+1 by omega,Nat.pow_succ];omega
 have e1:3^(31-b)<=3^(30-a):=vaV AG AG;have e2:3^(31-c)<=3^(30-a):=vaV AG AG;have e3:0<3^(30-a):=Nat.pow_pos AG;omega
theorem fh{l:LI}(ht:TreeOK l){b:Bx}{e:En}(h:EnI l b e)(hl:0<e.todo.length):Q5 (hU l e).todo+1<=Q5 e.todo:=by
 obtain⟨hm,hg⟩:=UG hl;have ha:=h.at_ _ _ hg;have h31:=ht.len.2;have hlt:(IH (FF e.todo)).toNat<l.length:=by have:=ha.2;simp only[ic]at this;omega
 have hpos:0<3^(31-(IH (FF e.todo)).toNat):=Nat.pow_pos AG;rw[ff hl];unfold hU;cases !FQ (l.getD (IH (FF e.todo)).toNat default).toInt||(KG (FF e.todo)).emp with
 |true=>rw[DQ];show Q5 (F3 e.todo)+1<=_;omega
 |false=>
  rw[DR];cases hlf:(FJ l e).lf with
  |true=>rw[A9,DR];show Q5 (F3 e.todo)+1<=_;omega
  |false=>
   rw[BF,DQ];obtain⟨_,_,⟨l1,l2⟩,⟨r1,r2⟩,_⟩:=ht.fork _ hlt hlf;replace l1:((IH (FF e.todo)).toNat:Int)<(FJ l e).l:=l1;replace r1:((IH (FF e.todo)).toNat:Int)<(FJ l e).r:=r1
   have:=zft (a:=(IH (FF e.todo)).toNat) (b:=(FJ l e).l.toNat) (c:=(FJ l e).r.toNat) AG AG AG
   unfold Q5 at*;rw[List.map_append,List.sum_append];simp only[A8,CN,vbb,List.sum_nil,ZJ];omega
theorem fg{l:LI}(hT:GP l 4=AC){b:Bx}(hb:b.emp=AD)(hok:b.ok){e:En}(h:EnI l b e)(hl:e.todo=[]):e.lo=IT l b/\e.hi=IS l b:=by
 obtain⟨t1,⟨p1,u1,q1,q2⟩,⟨p2,u2,q3,q4⟩⟩:=ZE hT hb hok;have hall:∀p t,b.has p t=AC->e.any=AC/\e.lo<=GW l p/\GW l p<=e.hi:=λp t hh=>by
  rcases h.all p t hh with⟨x,hx,_⟩|hr
  .rw[hl]at hx;cases hx
  .exact hr
 have hany:=(hall _ _ q1).1;obtain⟨p3,u3,q5,q6⟩:=h.lo hany;obtain⟨p4,u4,q7,q8⟩:=h.hi hany;have a1:=hall _ _ q1;have a2:=hall _ _ q3;have a3:=t1 _ _ q5;have a4:=t1 _ _ q7;omega
theorem zfl{l:LI}(hT:GP l 4=AC){b c:Bx}(hb:b.emp=AD)(hok:b.ok)(hc:c.emp=AD)(hokc:c.ok)(h:∀p,(∃t,b.has p t=AC)↔∃t,c.has p t=AC):IT l b=IT l c/\IS l b=IS l c:=by
 obtain⟨t1,⟨p1,u1,q1,q2⟩,⟨p2,u2,q3,q4⟩⟩:=ZE hT hb hok;obtain⟨s1,⟨p3,u3,q5,q6⟩,⟨p4,u4,q7,q8⟩⟩:=ZE hT hc hokc;obtain⟨v1,w1⟩:=(h p1).1 ⟨u1,q1⟩;obtain⟨v2,w2⟩:=(h p2).1 ⟨u2,q3⟩;obtain⟨v3,w3⟩:=(h p3).2 ⟨u3,q5⟩;obtain⟨v4,w4⟩:=(h p4).2 ⟨u4,q7⟩;have a1:=s1 _ _ w1;have a2:=s1 _ _ w2;have a3:=t1 _ _ w3;have a4:=t1 _ _ w4;omega
open Go
theorem vF:∀{l:LI} {st st':LI×LI} {x:IV},I7 l st=AA st'->I7 (l++[x]) st=MY st' x
 |[],st,st',x,h=>by
  obtain rfl:=CB h;rw[vac,I7];cases MY st x<;>rfl
 |y::r,st,st',x,h=>by
  rw[C9,I7];rw[I7]at h;cases hs:MY st y with
  |none=>rw[hs]at h;cases h
  |some s1=>rw[hs]at h;exact vF h
theorem qZ:∀{l:LI} {st st':Int×Int} {x:IV},J6 l st=AA st'->J6 (l++[x]) st=NJ st' x
 |[],st,st',x,h=>by
  obtain rfl:=CB h;rw[vac,J6];cases NJ st x<;>rfl
 |y::r,st,st',x,h=>by
  rw[C9,J6];rw[J6]at h;cases hs:NJ st y with
  |none=>rw[hs]at h;cases h
  |some s1=>rw[hs]at h;exact qZ h
def NR(m:Md)(q:Qy)(b:Bx):Nat:=(EM m q b 0).length+(EM m q b 1).length+(EM m q b 2).length+(EM m q b 3).length+(EM m q b 4).length
theorem Fx{α:Type}{p q:α->Bool}:∀{l:List α},(∀x∈l,p x=AC->q x=AC)->(l.filter p).length<=(l.filter q).length
 |[],_=>A4 _
 |x::l,h=>by
  have ih:=Fx (l:=l) (p:=p) (q:=q) λy hy=>h y (A6 _ hy)
  have hx:=h x (AY ..);rw[va9,va9];cases hp:p x with
  |true=>rw[hx hp,BX rfl,BX rfl];simp only[AV];omega
  |false=>
   rw[BO (by decide)];cases q x with
   |true=>rw[BX rfl];simp only[AV];omega
   |false=>rw[BO (by decide)];exact ih
theorem Fy{α:Type}{p q:α->Bool}{a:α}:∀{l:List α},a∈l->p a=AD->q a=AC->(∀x∈l,p x=AC->q x=AC)->(l.filter p).length<(l.filter q).length
 |[],h,_,_,_=>by cases h
 |x::l,hm,h1,h2,h=>by
  have hx:=h x (AY ..);have hr:=λy hy=>h y (A6 _ hy)
  rw[va9,va9];rcases AW.1 hm with rfl|hm
  .rw[h1,h2,BO (by decide),BX rfl]
   have:=Fx hr
   simp only[AV];omega
  .have ih:=Fy hm h1 h2 hr;cases hp:p x with
   |true=>rw[hx hp,BX rfl,BX rfl];simp only[AV];omega
   |false=>
    rw[BO (by decide)];cases q x with
    |true=>rw[BX rfl];simp only[AV];omega
    |false=>rw[BO (by decide)];exact ih
theorem Em{m:Md}{q:Qy}{b c:Bx}{i:Nat}(h:c.g i=b.g i):EM m q c i=EM m q b i:=by unfold EM;rw[h]
theorem Er{m:Md}{q:Qy}{b c:Bx}{i:Nat}{a:Int}(ha:a∈EM m q b i)(h1:(b.g i).lo<=(c.g i).lo)(h2:(c.g i).hi<=(b.g i).hi)(h3:a<(c.g i).lo\/(c.g i).hi<=a):(EM m q c i).length<(EM m q b i).length:=by
 obtain⟨hf,hm,hl,hh⟩:=O8.1 ha;unfold EM;rw[AS AG,DR,DR];unfold LN;refine Fy hm ?_ ?_ ?_
 .simp only[Bool.not_eq_false',vap,AZ];omega
 .simp only[CE,vag,B3];omega
 .intro x _;simp only[CE,vag,B3];omega
theorem Ln{m:Md}{q:Qy}{b c:Bx}{j:Nat}(hj:j<5)(h1:(EM m q c j).length<(EM m q b j).length)(h2:∀i,i<5->i≠j->c.g i=b.g i):NR m q c<NR m q b:=by
 have e:∀i,i<5->i≠j->(EM m q c i).length=(EM m q b i).length:=λi hi hn=>by rw[Em (h2 i hi hn)]
 unfold NR
 match j,hj with
 |0,_=>have:=e 1 AG AG;have:=e 2 AG AG;have:=e 3 AG AG;have:=e 4 AG AG;omega
 |1,_=>have:=e 0 AG AG;have:=e 2 AG AG;have:=e 3 AG AG;have:=e 4 AG AG;omega
 |2,_=>have:=e 0 AG AG;have:=e 1 AG AG;have:=e 3 AG AG;have:=e 4 AG AG;omega
 |3,_=>have:=e 0 AG AG;have:=e 1 AG AG;have:=e 2 AG AG;have:=e 4 AG AG;omega
 |4,_=>have:=e 0 AG AG;have:=e 1 AG AG;have:=e 2 AG AG;have:=e 3 AG AG;omega
 |n+5,h=>omega
theorem Qq{lo hi:Int}(h:lo<=hi):KE lo hi=⟨lo,hi⟩:=by unfold KE;rw[AS AG,DR]
theorem Lm{m:Md}{q:Qy}{b:Bx}{j:Nat}(hj:j<5){a:Int}(ha:a∈EM m q b j):NR m q (b.cutL (j:Int) a)<NR m q b:=by
 obtain⟨hf,hm,hl,hh⟩:=O8.1 ha;have e:∀i,i<5->(b.cutL (j:Int) a).g i=if i=j then⟨(b.g j).lo,a⟩else b.g i:=λi hi=>by
  unfold Bx.cutL;rw[BE,LG b _ hj hi];unfold Sp.cutL;rw[show min (b.g j).hi a=a by omega,Qq hl]
 refine Ln hj (Er ha ?_ ?_ ?_) λi hi hn=>by rw[e i hi,BO hn]
 .rw[e j hj,BX rfl];exact DH _
 .rw[e j hj,BX rfl];show a<=_;omega
 .rw[e j hj,BX rfl];exact .inr (DH _)
theorem zb1{m:Md}{q:Qy}{b:Bx}(hb:b.good){j:Nat}(hj:j<5){a:Int}(ha:a∈EM m q b j):NR m q (b.cutH (j:Int) a)<NR m q b:=by
 obtain⟨hf,hm,hl,hh⟩:=O8.1 ha;have hg:=hb j hj;have e:∀i,i<5->(b.cutH (j:Int) a).g i=if i=j then⟨a+1,(b.g j).hi⟩else b.g i:=λi hi=>by
  unfold Bx.cutH;rw[BE,LG b _ hj hi];unfold Sp.cutH;rw[AS AG,DR,show D7 (a+1)=a+1 from ER AG AG,show max (b.g j).lo (a+1)=a+1 by omega,Qq AG]
 refine Ln hj (Er ha ?_ ?_ ?_) λi hi hn=>by rw[e i hi,BO hn]
 .rw[e j hj,BX rfl];show _<=a+1;omega
 .rw[e j hj,BX rfl];exact DH _
 .rw[e j hj,BX rfl];exact .inl (by show a<a+1;omega)
structure Rp (m:Md) (q:Qy) (s:Sr):Prop where
 left:aZ s
 pt:∀(j:Nat) (x:IV),s.left[j]?=AA x->NR m q (EG x)+j<=NR m q (FG q)
 ps:∃outs,I7 s.proof ([(FG q).I],[])=AA (s.left,outs)/\∀x∈outs,G4 m q (EG x)=AC
 dp:∃most,J6 s.proof (1,1)=AA (ic s.left.length,most)/\1<=most/\most<=(NR m q (FG q):Int)+1
theorem zc3{m:Md}{q:Qy}(h:E8 m q=AC):Rp m q ⟨[(FG q).I],[],Vd.none,0⟩ where
 left:=wk h
 pt j x hj:=by
  match j,hj with
  |0,hj=>
   obtain rfl:(FG q).I=x:=by simpa using hj
   rw[HX];omega
  |j+1,hj=>simp at hj
 ps:=⟨[],rfl,λx hx=>by cases hx⟩
 dp:=⟨1,rfl,by omega,by omega⟩
theorem Oc{m:Md}{q:Qy}{s:Sr}(hr:E8 m q=AC)(h:Rp m q s)(hl:0<s.left.length)(hn:G4 m q (EC s.left)=AD->GH m q (EC s.left).low (EC s.left).s4.hi=AD):Rp m q (GO m q s):=by
 obtain⟨outs,hps,hout⟩:=h.ps;obtain⟨most,hdp,hm1,hm2⟩:=h.dp;have hg:=zfb (m:=m) (q:=q) h.left hl;have ht:=oV h.left hl;have htop:s.left[s.left.length-1]?=AA (FF s.left):=(UG hl).2;have ept:EC s.left=EG (FF s.left):=rfl;have hpt:=h.pt _ _ htop;rw[<-ept]at hpt;cases hc:G4 m q (EC s.left)with
 |true=>
  have e:(GO m q s).left=F3 s.left/\(GO m q s).proof=s.proof++[OP AC 0 0]:=by
   unfold GO;rw[hc,DQ];exact⟨rfl,rfl⟩
  refine⟨hg,λj x hj=>?_,⟨outs++[(EC s.left).I],?_,λx hx=>?_⟩,⟨most,?_,hm1,hm2⟩⟩
  .rw[e.1]at hj;exact h.pt j x (jD hj)
  .rw[e.2,vF hps,e.1];rfl
  .rcases A5.1 hx with hx|hx
   .exact hout x hx
   .obtain rfl:=BZ.1 hx;rw[HX];exact hc
  .rw[e.2,qZ hdp,e.1,V2];unfold NJ;have h1:(ic s.left.length==0)=AD:=BH.2 (by simp only[ic];omega);show cond ((ic s.left.length==0)||!true) AB (AA (ic s.left.length-1,most))=_;rw[h1];show AA (ic s.left.length-1,most)=_;rw[show ic s.left.length-1=ic (s.left.length-1) by simp only[ic];omega]
 |false=>
  have hb:=hn hc;have hs:=Tn hr h.left hl hc hb;obtain⟨j,hj,ei,_,_,hm⟩:=xB hs;have hcut:=O8.1 hm;have e:(GO m q s).left=F3 s.left++[((EC s.left).cutH (j:Int) (JM (FI m q (EC s.left)))).I,((EC s.left).cutL (j:Int) (JM (FI m q (EC s.left)))).I]/\(GO m q s).proof=s.proof++[OP AD (j:Int) (JM (FI m q (EC s.left)))]:=by
   unfold GO;rw[hc,DR,hb,DR,hs,DQ,ei];exact⟨rfl,rfl⟩
  generalize JM (FI m q (EC s.left))=a at hm hcut e;refine⟨hg,λk x hk=>?_,⟨outs,?_,hout⟩,⟨max most (ic s.left.length+1),?_,by omega,?_⟩⟩
  .rw[e.1,vah,V2]at hk;split at hk
   .exact h.pt k x (jD hk)
   .rcases DN (k-(s.left.length-1)) 1 with h0|h0
    .rw[show k-(s.left.length-1)=0 by omega]at hk;simp only[CA,AK]at hk;subst hk;rw[HX]
     have:=zb1 ht hj hm
     omega
    .rcases DN (k-(s.left.length-1)) 2 with h2|h2
     .rw[show k-(s.left.length-1)=1 by omega]at hk;simp only[C5,CA,AK]at hk;subst hk;rw[HX]
      have:=Lm (q:=q) hj hm
      omega
     .rw[B8 (by simpa using h2)]at hk;cases hk
  .rw[e.2,vF hps,e.1];unfold MY;show cond AD _ (cond (AE (a<((EC s.left).g ((j:Int)).toNat).lo)||decide (a>=((EC s.left).g ((j:Int)).toNat).hi)) AB _)=_;rw[DR,BE,AS AG,AS AG];rfl
  .rw[e.2,qZ hdp,e.1];unfold NJ;have h1:(ic s.left.length==0)=AD:=BH.2 (by simp only[ic];omega);have h2:K8 (OP AD (j:Int) a)=AC:=by
    show(AE ((0:Int)<=(j:Int))&&AE ((j:Int)<=4))=AC;rw[AL AG,AL AG];rfl
   show cond ((ic s.left.length==0)||!(K8 (OP AD (j:Int) a))) AB (AA (ic s.left.length+1,max most (ic s.left.length+1)))=_;rw[h1,h2];show AA (ic s.left.length+1,max most (ic s.left.length+1))=_;rw[A2,V2]
   have:ic (s.left.length-1+[((EC s.left).cutH (j:Int) a).I,((EC s.left).cutL (j:Int) a).I].length)=ic s.left.length+1:=by simp only[ic,AV,BN];omega
   rw[this]
  .have h3:0<NR m q (EC s.left):=vbn (CH _) (Lm (q:=q) hj hm);simp only[ic];omega
open Go
def SE(ts:LI):Nat:=(ts.map λt=>(E3 t).length).sum
theorem zfr(w:IV):(JO 0 w).length+(JO 1 w).length+(JO 2 w).length+(JO 3 w).length<=1:=by
 unfold JO;cases(DT w.toInt).lf with
 |true=>simp
 |false=>
  generalize(DT w.toInt).f=f;by_cases h0:f=0
  .subst h0;exact A4 _
  by_cases h1:f=1
  .subst h1;exact A4 _
  by_cases h2:f=2
  .subst h2;exact A4 _
  by_cases h3:f=3
  .subst h3;exact A4 _
  rw[BH.2 h0,BH.2 h1,BH.2 h2,BH.2 h3];simp
theorem zfq(f:Int)(w:IV):(JO f w).length<=1:=by
 unfold JO;cases(!(DT w.toInt).lf&&(DT w.toInt).f==f)<;>simp
theorem Kc:∀(l:LI),(l.flatMap (JO 0)).length+(l.flatMap (JO 1)).length+(l.flatMap (JO 2)).length+(l.flatMap (JO 3)).length<=l.length
 |[]=>A4 _
 |w::l=>by
  have:=Kc l
  have:=zfr w
  simp only[vaA,A2,AV];omega
theorem Ka(f:Int):∀(l:LI),(l.flatMap (JO f)).length<=l.length
 |[]=>A4 _
 |w::l=>by
  have:=Ka f l
  have:=zfq f w
  simp only[vaA,A2,AV];omega
theorem Mu:∀(ts:LI),(I9 ts 0).length+(I9 ts 1).length+(I9 ts 2).length+(I9 ts 3).length<=SE ts
 |[]=>A4 _
 |t::ts=>by
  have:=Mu ts
  have:=Kc (E3 t)
  unfold I9 SE at*;simp only[vaA,A2,A8,vbb];omega
theorem Mt(f:Int):∀(ts:LI),(I9 ts f).length<=SE ts
 |[]=>A4 _
 |t::ts=>by
  have:=Mt f ts
  have:=Ka f (E3 t)
  unfold I9 SE at*;simp only[vaA,A2,A8,vbb];omega
theorem g6(m:Md)(q:Qy)(b:Bx)(i:Nat):(EM m q b i).length<=(I9 m.ts (IA q (i:Int))).length:=by
 unfold EM;cases AE (IA q (i:Int)<0)with
 |true=>rw[DQ];exact CH _
 |false=>
  rw[DR];unfold LN JV;refine DD (List.length_filter_le ..) ?_;rw[<-(UD (I9 m.ts (IA q (i:Int)))).length_eq];exact lD _
theorem zb2(m:Md)(q:Qy)(b:Bx):NR m q b<=2*SE m.ts:=by
 have h0:=g6 m q b 0;have h1:=g6 m q b 1;have h2:=g6 m q b 2;have h3:=g6 m q b 3;have h4:=g6 m q b 4;have h5:=Mt (IA q ((4:Nat):Int)) m.ts;have h6:=Mu m.ts;rw[rN AG]at h0 h1 h2 h3;unfold NR;simp only[Int.natCast_zero]at*;have e1:((1:Nat):Int)=1:=rfl;have e2:((2:Nat):Int)=2:=rfl;have e3:((3:Nat):Int)=3:=rfl;rw[e1]at h1;rw[e2]at h2;rw[e3]at h3;omega
theorem lz(f:Ft):SE f.M.ts<=60:=by
 have hd:=aK f.d;have key:∀(l:LI),SE (l.map (cF f.d f.c))<=15*l.length:=by
  intro l
  induction l with
  |nil=>exact A4 _
  |cons t l ih=>
   obtain⟨i,hi,hn⟩:=Ki (t.cell 1).toList (t.cell 2).toList (t.cell 3).toList (t.cell 4).toList (dim:=O9 f.d) ⟨hd.1,by omega⟩;have e:(E3 (cF f.d f.c t)).length=2*i+1:=by
    show((QF (t.cell 1).toList (t.cell 2).toList (t.cell 3).toList (t.cell 4).toList (O9 f.d)).nodes.map T9).length=_;rw[BW,hn.len]
   unfold SE at*;simp only[A8,vbb,AV];rw[e];omega
 have h4:(f.ts.take 4).length<=4:=by rw[BL];omega
 have:=key (f.ts.take 4)
 show SE ((f.ts.take 4).map (cF f.d f.c))<=60;omega
open Go
def zfh(q:Qy)(s:Sr):Prop:=∀x∈s.left,∀p t,(EG x).has p t=AC->(FG q).has p t=AC
structure Ri (m:Md) (q:Qy) (s:Sr):Prop where
 sp:0<=s.spent/\s.spent<=q.bu
 opn:s.v.kind=0->Rp m q s/\0<s.left.length/\s.spent=ic s.proof.length/\s.v.proof=[]/\zfh q s
 holds:s.v.kind=1->Rp m q s/\s.left=[]/\s.spent=ic s.proof.length/\s.v.proof=s.proof
 fails:s.v.kind=2->s.v.proof=[]/\1<=s.spent/\(FG q).has ⟨s.v.w0,s.v.w1,s.v.w2,s.v.w3⟩ s.v.twin=AC/\GH m q ⟨s.v.w0,s.v.w1,s.v.w2,s.v.w3⟩ s.v.twin=AC
 kinds:s.v.kind=0\/s.v.kind=1\/s.v.kind=2
theorem zcP{m:Md}{q:Qy}(h:E8 m q=AC):Ri m q ⟨[(FG q).I],[],Vd.none,0⟩ where
 sp:=⟨DH _,(bT h).2.2.1.1⟩
 opn _:=⟨zc3 h,by simp,rfl,rfl,λx hx p t hh=>by
  obtain rfl:=BZ.1 hx;rw[HX]at hh;exact hh⟩
 holds h:=absurd (show(0:Int)=1 from h) (by decide)
 fails h:=absurd (show(0:Int)=2 from h) (by decide)
 kinds:=.inl rfl
theorem zcQ{m:Md}{q:Qy}{s:Sr}(hr:E8 m q=AC)(h:Ri m q s)(ho:KQ q s=AD):Ri m q (GO m q s):=by
 unfold KQ at ho;rw[vag]at ho;have hk:s.v.kind=0:=by simpa using ho.1
 have hs:¬s.spent>=q.bu:=BM ho.2;obtain⟨hrp,hl,hsp,hvp,hsub⟩:=h.opn hk;have hsp0:=h.sp;have ht:=oV hrp.left hl;have htm:FF s.left∈s.left:=(UG hl).1;have ept:EC s.left=EG (FF s.left):=rfl;cases hc:G4 m q (EC s.left)with
 |true=>
  have hrp':=Oc hr hrp hl (λh=>by rw[hc]at h;cases h);have e:GO m q s=⟨F3 s.left,s.proof++[OP AC 0 0],cond (ic (s.left.length-1)==0) ⟨1,s.proof++[OP AC 0 0],0,0,0,0,0,0⟩ s.v,s.spent+1⟩:=by
   unfold GO;rw[hc,DQ]
  rw[e]at hrp' ⊢;have hlen:s.spent+1=ic (s.proof++[OP AC 0 0]).length:=by
   rw[hsp];simp only[ic,A2,AV,BN];omega
  cases he:(ic (s.left.length-1)==0)with
  |true=>
   rw[he]at hrp';have h1:s.left.length=1:=by
    have:ic (s.left.length-1)=0:=by simpa using he
    simp only[ic]at this;omega
   have hnil:F3 s.left=[]:=List.length_eq_zero_iff.1 (by rw[V2];omega);exact⟨⟨by show 0<=s.spent+1;omega,by show s.spent+1<=_;omega⟩,λh=>absurd (show(1:Int)=0 from h) (by decide),λ_=>⟨hrp',hnil,hlen,rfl⟩,λh=>absurd (show(1:Int)=2 from h) (by decide),.inr (.inl rfl)⟩
  |false=>
   rw[he]at hrp';have h1:s.left.length-1≠0:=λh=>by rw[h]at he;exact absurd he (by decide)
   refine⟨⟨by show 0<=s.spent+1;omega,by show s.spent+1<=_;omega⟩,λ_=>⟨hrp',?_,hlen,hvp,λx hx=>hsub x (bK hx)⟩,λh=>?_,λh=>?_,.inl hk⟩
   .show 0<(F3 s.left).length;rw[V2];omega
   .replace h:s.v.kind=1:=h;omega
   .replace h:s.v.kind=2:=h;omega
 |false=>
  cases hb:GH m q (EC s.left).low (EC s.left).s4.hi with
  |true=>
   have e:GO m q s=⟨F3 s.left,s.proof,⟨2,[],(EC s.left).s0.lo,(EC s.left).s1.lo,(EC s.left).s2.lo,(EC s.left).s3.lo,(EC s.left).s4.hi,0⟩,s.spent+1⟩:=by
    unfold GO;rw[hc,DR,hb,DQ]
   rw[e];refine⟨⟨by show 0<=s.spent+1;omega,by show s.spent+1<=_;omega⟩,λh=>absurd (show(2:Int)=0 from h) (by decide),λh=>absurd (show(2:Int)=1 from h) (by decide),λ_=>⟨rfl,by show 1<=s.spent+1;omega,?_,hb⟩,.inr (.inr rfl)⟩;exact hsub _ htm _ _ (by rw[<-ept];exact X2 _ ht.emp)
  |false=>
   have hrp':=Oc hr hrp hl (λ_=>hb);have hs2:=Tn hr hrp.left hl hc hb;obtain⟨j,hj,ei,_,_,hm⟩:=xB hs2;have hcut:=O8.1 hm;have hg:=ht j hj;have e:GO m q s=⟨F3 s.left++[((EC s.left).cutH (j:Int) (JM (FI m q (EC s.left)))).I,((EC s.left).cutL (j:Int) (JM (FI m q (EC s.left)))).I],
     s.proof++[OP AD (j:Int) (JM (FI m q (EC s.left)))],s.v,s.spent+1⟩:=by
    unfold GO;rw[hc,DR,hb,DR,hs2,DQ,ei]
   rw[e]at hrp' ⊢;generalize JM (FI m q (EC s.left))=a at hm hcut hrp';refine⟨⟨by show 0<=s.spent+1;omega,by show s.spent+1<=_;omega⟩,λ_=>⟨hrp',by simp,?_,hvp,λx hx p t hh=>?_⟩,λh=>?_,λh=>?_,.inl hk⟩
   .show s.spent+1=_;rw[hsp];simp only[ic,A2,AV,BN];omega
   .rcases A5.1 hx with hx|hx
    .exact hsub x (bK hx) p t hh
    .rcases AW.1 hx with rfl|hx
     .rw[HX]at hh;exact hsub _ htm p t (by rw[<-ept];exact((gY ht.ok hj AG).1 hh).1)
     .obtain rfl:=BZ.1 hx;rw[HX]at hh;exact hsub _ htm p t (by rw[<-ept];exact((gZ hj).1 hh).1)
   .replace h:s.v.kind=1:=h;omega
   .replace h:s.v.kind=2:=h;omega
theorem Nr{m:Md}{q:Qy}(hr:E8 m q=AC):∀(d:Nat) (s:Sr),Ri m q s->q.bu<s.spent+d->Ri m q (M1 m q d s)/\KQ q (M1 m q d s)=AC
 |0,s,h,hd=>⟨h,by
  unfold KQ
  have:M1 m q 0 s=s:=rfl
  rw[this,AL (show s.spent>=q.bu by omega)];simp⟩
 |d+1,s,h,hd=>by
  rw[M1];cases ho:KQ q s with
  |true=>rw[DQ];exact⟨h,ho⟩
  |false=>
   rw[DR];refine Nr hr d (GO m q s) (zcQ hr h ho) ?_
   have:(GO m q s).spent=s.spent+1:=by
    unfold GO;cases G4 m _ _<;>cases GH m _ _ _<;>cases(FI m _ _).isSome<;>rfl
   omega
open Go
theorem mi{s:Sp}:YI s=AC↔s.good:=by
 unfold YI Sp.good;simp only[AQ,AZ]
theorem aQ{b:Bx}:goodB b=AC↔b.good:=by
 unfold goodB;simp only[AQ,mi];constructor
 .rintro⟨h0,h1,h2,h3,h4⟩ i hi
  match i,hi with
  |0,_=>exact h0
  |1,_=>exact h1
  |2,_=>exact h2
  |3,_=>exact h3
  |4,_=>exact h4
  |n+5,hi=>omega
 .intro h;exact⟨h 0 AG,h 1 AG,h 2 AG,h 3 AG,h 4 AG⟩
theorem zfJ{b:Bx}(h4:b.s4.lo<=b.s4.hi)(p:Pt):(∃t,(b.p ⟨0,0⟩ 4).has p t=AC)↔∃t,b.has p t=AC:=by
 constructor
 .rintro⟨t,h⟩;refine⟨b.s4.lo,?_⟩;unfold Bx.has at h ⊢;simp only[AQ]at h ⊢;exact⟨h.1,h.2.1,h.2.2.1,h.2.2.2.1,M2.2 ⟨DH _,h4⟩⟩
 .rintro⟨t,h⟩;refine⟨0,?_⟩;unfold Bx.has at h ⊢;simp only[AQ]at h ⊢;exact⟨h.1,h.2.1,h.2.2.1,h.2.2.2.1,M2.2 ⟨DH _,DH _⟩⟩
theorem xJ{g g':LI->Int}(k:Int):∀(ts:LI) (s:Int),(∀t∈ts,g (E3 t)=g' (E3 t))->JN g k ts s=JN g' k ts s
 |[],_,_=>rfl
 |t::ts,s,h=>by
  rw[JN,JN,h t (AY ..)];exact xJ k ts _ λu hu=>h u (A6 _ hu)
theorem Ok{m:Md}(hm:EU m=AC)(k:Int){b:Bx}(hb:b.good):EK m k (b.p ⟨0,0⟩ 4)=EK m k b/\EI m k (b.p ⟨0,0⟩ 4)=EI m k b:=by
 have hg:(b.p ⟨0,0⟩ 4).good:=V1 hb ⟨by decide,by decide,by decide⟩ AG;have ht:∀t∈m.ts,IT (E3 t) (b.p ⟨0,0⟩ 4)=IT (E3 t) b/\IS (E3 t) (b.p ⟨0,0⟩ 4)=IS (E3 t) b:=λt ht=>
  zfl (cG hm ht) hg.emp hg.ok hb.emp hb.ok (zfJ (hb 4 AG).2.1)
 have es:HG m k (b.p ⟨0,0⟩ 4)=HG m k b:=by unfold HG;rw[hg.emp,hb.emp]
 unfold EK EI;rw[es];cases HG m k b with
 |false=>exact⟨rfl,rfl⟩
 |true=>
  rw[DQ,DQ,DQ,DQ];exact⟨xJ k m.ts _ λt h=>(ht t h).1,xJ k m.ts _ λt h=>(ht t h).2⟩
def X1(m:Md)(q:Qy)(b:Bx):Nat->Nat->Bool
 |0,_=>AC
 |d+1,i=>cond (!((i:Int)==q.c)&&AE (EI m (i:Int) b>=EK m q.c b)) AD (X1 m q b d (i+1))
def LU(q:Qy)(b:Bx):Bx:=b.p b.s4 q.ft.toNat
def wF(m:Md)(q:Qy)(b:Bx):Bool:=
 cond b.emp AC
  (cond (q.k==1) (AE (q.lo<=EK m q.c b)&&AE (EI m q.c b<=q.hi))
   (cond (q.k==2) (X1 m q b m.c.toNat 0)
    (cond (AE ((b.g q.ft.toNat).lo>=b.s4.hi)) AC
     (cond q.fl (AE (EI m q.c (LU q b)<=EK m q.c b)) (AE (EK m q.c (LU q b)>=EI m q.c b))))))
theorem zR{m:Md}{q:Qy}{b:Bx}:∀(d i:Nat),X1 m q b d i=AC↔∀j:Nat,i<=j->j<i+d->(j:Int)≠q.c->EI m (j:Int) b<EK m q.c b
 |0,i=>⟨λ_ j h1 h2=>by omega,λ_=>rfl⟩
 |d+1,i=>by
  rw[X1];cases hc:(!((i:Int)==q.c)&&AE (EI m (i:Int) b>=EK m q.c b))with
  |true=>
   rw[DQ];simp only[AQ,CE,BH,AZ]at hc;refine⟨(λh=>by cases h),λh=>?_⟩
   have:=h i (A4 _) AG hc.1
   omega
  |false=>
   rw[DR,zR d (i+1)];rw[Bool.and_eq_false_iff,Bool.not_eq_false',CF,B3]at hc;constructor
   .intro h j h1 h2 hn;rcases DN i j with h3|h3
    .exact h j h3 AG hn
    .have:j=i:=by omega
     subst this;rcases hc with hc|hc
     .exact absurd hc hn
     .omega
   .intro h j h1 h2 hn;exact h j AG AG hn
theorem zdn{m:Md}{q:Qy}{b:Bx}(hr:E8 m q=AC)(hb:b.emp=AC\/b.good):wF m q b=G4 m q b:=by
 unfold wF G4;rw[hr,BI];cases he:b.emp with
 |true=>rfl
 |false=>
  rw[DR,DR];have hg:b.good:=by
   rcases hb with h|h
   .rw[he]at h;cases h
   .exact h
  obtain⟨hm,⟨c0,c1⟩,_,_,hk⟩:=bT hr;have hcl:=gW c0 c1;have hs:=RD hm hcl he;rcases aW hk with⟨e,_⟩|⟨e,h2,_⟩|⟨e,hf,_⟩
  .rw[e];show(AE (q.lo<=EK m q.c b)&&AE (EI m q.c b<=q.hi))=(HG m q.c b&&(AE (q.lo<=EK m q.c b)&&AE (EI m q.c b<=q.hi)));rw[hs,BI]
  .rw[e];show X1 m q b m.c.toNat 0=(NP m q.c b&&AE (T3 m q.c b>0));have hmg:NP m q.c b=AC:=by unfold NP;rw[hs,AL AG];rfl
   rw[hmg,BI,vaB,zR,AZ]
   have:=tK hmg
   constructor
   .intro h;exact this.2 λj hj hn=>h j (CH _) AG hn
   .intro h j _ h2 hn;exact this.1 h j AG hn
  .rw[e];have hp:=nS hm e hf;have h44:=hg 4 AG;have hg2:(LU q b).good:=V1 hg h44 (by have:=hf;have:=(bT hr).1;rcases QJ hp with e|e|e|e<;>rw[e]<;>decide);have s1:=Ok hm q.c hg;have s2:=Ok hm q.c hg2;have f1:KM q b=b.p ⟨0,0⟩ 4:=by unfold KM;rw[hp,DQ]
   have f2:KR q b=(LU q b).p ⟨0,0⟩ 4:=by unfold KR;rw[hp,DQ];rfl
   have hch:KW m q b=AC:=by
    unfold KW;rw[hp,f1,f2,RD hm hcl (V1 hg ⟨by decide,by decide,by decide⟩ AG).emp,RD hm hcl (V1 hg2 ⟨by decide,by decide,by decide⟩ AG).emp];rfl
   have e1:QZ m q b=EI m q.c (LU q b)-EK m q.c b:=by unfold QZ;rw[hch,DQ,f1,f2,s1.1,s2.2]
   have e2:Q0 m q b=EK m q.c (LU q b)-EI m q.c b:=by unfold Q0;rw[hch,DQ,f1,f2,s1.2,s2.1]
   have eo:OK q b=!decide ((b.g q.ft.toNat).lo>=b.s4.hi):=by
    unfold OK;rw[hp,he];by_cases h:(b.g q.ft.toNat).lo<b.s4.hi
    .rw[AL h,AS AG];rfl
    .rw[AS h,AL AG];rfl
   show cond (AE ((b.g q.ft.toNat).lo>=b.s4.hi)) AC _=cond (!(OK q b)) AC (cond q.fl (KW m q b&&AE (QZ m q b<=0)) (KW m q b&&AE (Q0 m q b>=0)));rw[eo,Bool.not_not,hch,BI,BI,e1,e2];have d1:AE (EI m q.c (LU q b)-EK m q.c b<=0)=AE (EI m q.c (LU q b)<=EK m q.c b):=by
    rw[vaB,AZ,AZ];omega
   have d2:AE (EK m q.c (LU q b)-EI m q.c b>=0)=AE (EK m q.c (LU q b)>=EI m q.c b):=by
    rw[vaB,AZ,AZ];omega
   rw[d1,d2]
open Go
theorem lM{x:IV}{left most:Int}{st:Int×Int}(h:NJ (left,most) x=AA st):left≠0/\K8 x=AC/\((I1 x=AC/\st=(left-1,most))\/(I1 x=AD/\st=(left+1,max most (left+1)))):=by
 unfold NJ at h;cases hz:(left==0)with
 |true=>simp only[hz,Bool.true_or,B5]at h;cases h
 |false=>
  have hne:left≠0:=by simpa using hz
  simp only[hz,vaF]at h;cases hr:K8 x with
  |false=>rw[hr]at h;cases h
  |true=>
   rw[hr]at h;simp only[A9,BK]at h;cases hs:I1 x with
   |true=>rw[hs]at h;exact⟨hne,rfl,.inl ⟨rfl,(CB h).symm⟩⟩
   |false=>rw[hs]at h;exact⟨hne,rfl,.inr ⟨rfl,(CB h).symm⟩⟩
theorem nZ{x:IV}(h:K8 x=AC)(hs:I1 x=AD):0<=FP x/\FP x<=4:=by
 unfold K8 at h;rw[hs,DR,AQ,AZ,AZ]at h;exact h
theorem vH{x:IV}{left out:LI}{most:Int}{st:Int×Int}{lo:LI×LI}(hl:∀y∈left,(EG y).good)(ho:∀y∈out,(EG y).good)(hd:NJ (ic left.length,most) x=AA st)(hp:MY (left,out) x=AA lo):
  (∀y∈lo.1,(EG y).good)/\(∀y∈lo.2,(EG y).good)/\st.1=ic lo.1.length:=by
 obtain⟨hne,hr,hd⟩:=lM hd;have hlen:0<left.length:=by simp only[ic]at hne;omega
 have ht:(EC left).good:=hl _ (UG hlen).1;unfold MY at hp;rcases hd with⟨hs,rfl⟩|⟨hs,rfl⟩
 .rw[hs]at hp;obtain rfl:=CB hp;refine⟨λy hy=>hl y (bK hy),λy hy=>?_,?_⟩
  .rcases A5.1 hy with hy|hy
   .exact ho y hy
   .obtain rfl:=BZ.1 hy;rw[HX];exact ht
  .show ic left.length-1=ic (F3 left).length;rw[V2];simp only[ic];omega
 .rw[hs]at hp;have hpl:=nZ hr hs;have ej:FP x=(((FP x).toNat:Nat):Int):=by omega
  cases hc:(AE (GE x<((EC left).g (FP x).toNat).lo)||decide (GE x>=((EC left).g (FP x).toNat).hi))with
  |true=>simp only[hc,BK,B5]at hp;cases hp
  |false=>
   simp only[hc,BK]at hp;obtain rfl:=CB hp;simp only[vag,B3]at hc;refine⟨λy hy=>?_,ho,?_⟩
   .rcases A5.1 hy with hy|hy
    .exact hl y (bK hy)
    .rcases AW.1 hy with rfl|hy
     .rw[HX,ej];exact lG ht AG AG AG
     .obtain rfl:=BZ.1 hy;rw[HX,ej];exact qQ ht AG AG AG
   .show ic left.length+1=ic (F3 left++[_,_]).length;rw[A2,V2];simp only[ic,AV,BN];omega
theorem Mf:∀{l:LI} {left out:LI} {most:Int} {st:Int×Int} {lo:LI×LI},(∀y∈left,(EG y).good)->(∀y∈out,(EG y).good)->J6 l (ic left.length,most)=AA st->I7 l (left,out)=AA lo->∀y∈lo.2,(EG y).good
 |[],left,out,most,st,lo,_,ho,_,hp=>by
  obtain rfl:=CB hp;exact ho
 |x::l,left,out,most,st,lo,hl,ho,hd,hp=>by
  rw[J6]at hd;rw[I7]at hp;cases h1:NJ (ic left.length,most) x with
  |none=>rw[h1]at hd;cases hd
  |some s1=>
   cases h2:MY (left,out) x with
   |none=>rw[h2]at hp;cases hp
   |some l1=>
    rw[h1]at hd;rw[h2]at hp;obtain⟨g1,g2,g3⟩:=vH hl ho h1 h2;obtain⟨a,b⟩:=l1;obtain⟨c,d⟩:=s1;obtain rfl:c=ic a.length:=g3;exact Mf g1 g2 hd hp
theorem qY{l:LI}(h:MP l>0):∃st,J6 l (1,1)=AA st:=by
 unfold MP at h;cases hc:AE (ic l.length>65536)with
 |true=>rw[hc,DQ]at h;omega
 |false=>
  rw[hc,DR]at h;cases hd:J6 l (1,1)with
  |none=>rw[hd]at h;exact absurd h (by decide)
  |some st=>exact⟨st,rfl⟩
theorem Mc{b:Bx}(hb:b.good){l outs:LI}(h:LQ b l=AA outs):∀y∈outs,(EG y).good:=by
 unfold LQ at h;cases hd:AE (MP l>0)with
 |false=>rw[hd,DR]at h;cases h
 |true=>
  rw[hd,DQ]at h;obtain⟨st,hst⟩:=qY (BB hd);cases hp:I7 l ([b.I],[])with
  |none=>rw[hp]at h;cases h
  |some lo=>
   rw[hp]at h;obtain rfl:=CB h;refine Mf (left:=[b.I]) (out:=[]) (most:=1) (λy hy=>?_) (λy hy=>by cases hy) hst hp;obtain rfl:=BZ.1 hy;rw[HX];exact hb
open Go
theorem uv{l:LI}(h:0<l.length):l=F3 l++[FF l]:=by
 unfold F3 FF;rw[BY,BD (show l.length-1<l.length by omega)]
 have:=List.take_succ_eq_append_getElem (l:=l) (i:=l.length-1) AG
 rw[show l.length-1+1=l.length by omega,BS]at this;exact this
theorem Ih{l:LI}{y:IV}(h:y∈l):y=FF l\/y∈F3 l:=by
 have hl:0<l.length:=List.length_pos_of_mem h;rw[uv hl]at h;rcases A5.1 h with h|h
 .exact .inr h
 .exact .inl (BZ.1 h)
def lZ(lo:LI×LI)(p:Pt)(t:Int):Prop:=∃y,(y∈lo.1\/y∈lo.2)/\(EG y).has p t=AC
theorem zcf{x:IV}{left out:LI}{most:Int}{st:Int×Int}{lo:LI×LI}(hl:∀y∈left,(EG y).good)(hd:NJ (ic left.length,most) x=AA st)(hp:MY (left,out) x=AA lo){p:Pt}{t:Int}
  (h:lZ (left,out) p t):lZ lo p t:=by
 obtain⟨hne,hr,hd⟩:=lM hd;have hlen:0<left.length:=by simp only[ic]at hne;omega
 have ht:(EC left).good:=hl _ (UG hlen).1;obtain⟨y,hy,hb⟩:=h;unfold MY at hp;rcases hd with⟨hs,_⟩|⟨hs,_⟩
 .rw[hs]at hp;obtain rfl:=CB hp;rcases hy with hy|hy
  .rcases Ih hy with rfl|hy
   .exact⟨(EC left).I,.inr (A5.2 (.inr (BZ.2 rfl))),by rw[HX];exact hb⟩
   .exact⟨y,.inl hy,hb⟩
  .exact⟨y,.inr (A5.2 (.inl hy)),hb⟩
 .rw[hs]at hp;have hpl:=nZ hr hs;have ej:FP x=(((FP x).toNat:Nat):Int):=by omega
  have hj:(FP x).toNat<5:=by omega
  cases hc:(AE (GE x<((EC left).g (FP x).toNat).lo)||decide (GE x>=((EC left).g (FP x).toNat).hi))with
  |true=>simp only[hc,BK,B5]at hp;cases hp
  |false=>
   simp only[hc,BK]at hp;obtain rfl:=CB hp;simp only[vag,B3]at hc;have hgj:=ht (FP x).toNat hj;rcases hy with hy|hy
   .rcases Ih hy with rfl|hy
    .have hb:(EC left).has p t=AC:=hb;by_cases hle:co p t (FP x).toNat<=GE x
     .refine⟨((EC left).cutL (FP x) (GE x)).I,.inl (A5.2 (.inr (by simp))),?_⟩;rw[HX,ej];exact(gZ hj).2 ⟨hb,hle⟩
     .refine⟨((EC left).cutH (FP x) (GE x)).I,.inl (A5.2 (.inr (by simp))),?_⟩;rw[HX,ej];exact(gY ht.ok hj AG).2 ⟨hb,by omega⟩
    .exact⟨y,.inl (A5.2 (.inl hy)),hb⟩
   .exact⟨y,.inr hy,hb⟩
theorem Me:∀{l:LI} {left out:LI} {most:Int} {st:Int×Int} {lo:LI×LI},(∀y∈left,(EG y).good)->(∀y∈out,(EG y).good)->J6 l (ic left.length,most)=AA st->I7 l (left,out)=AA lo->
  st.1=ic lo.1.length/\∀(p:Pt) (t:Int),lZ (left,out) p t->lZ lo p t
 |[],left,out,most,st,lo,_,_,hd,hp=>by
  obtain rfl:=CB hp;obtain rfl:=CB hd;exact⟨rfl,λp t h=>h⟩
 |x::l,left,out,most,st,lo,hl,ho,hd,hp=>by
  rw[J6]at hd;rw[I7]at hp;cases h1:NJ (ic left.length,most) x with
  |none=>rw[h1]at hd;cases hd
  |some s1=>
   cases h2:MY (left,out) x with
   |none=>rw[h2]at hp;cases hp
   |some l1=>
    rw[h1]at hd;rw[h2]at hp;obtain⟨g1,g2,g3⟩:=vH hl ho h1 h2;have hcov:=λp t h=>zcf (p:=p) (t:=t) hl h1 h2 h
    obtain⟨a,b⟩:=l1;obtain⟨c,d⟩:=s1;obtain rfl:c=ic a.length:=g3;obtain⟨e1,e2⟩:=Me g1 g2 hd hp;exact⟨e1,λp t h=>e2 p t (hcov p t h)⟩
theorem eu{l:LI}(h:MP l>0):∃most,J6 l (1,1)=AA (0,most):=by
 obtain⟨st,hst⟩:=qY h;unfold MP at h;cases hc:AE (ic l.length>65536)with
 |true=>rw[hc,DQ]at h;omega
 |false=>
  rw[hc,DR,hst]at h;replace h:cond (!(st.1==0)||decide (st.2>200)) 0 st.2>0:=h;cases hz:st.1==0 with
  |false=>rw[hz]at h;exact absurd h (by show¬(0:Int)>0;omega)
  |true=>
   have:st.1=0:=by simpa using hz
   obtain⟨a,b⟩:=st;obtain rfl:a=0:=this;exact⟨b,hst⟩
theorem zcc{b:Bx}(hb:b.good){l outs:LI}(h:LQ b l=AA outs){p:Pt}{t:Int}(hh:b.has p t=AC):∃y∈outs,(EG y).has p t=AC:=by
 unfold LQ at h;cases hd:AE (MP l>0)with
 |false=>rw[hd,DR]at h;cases h
 |true=>
  rw[hd,DQ]at h;obtain⟨most,hst⟩:=eu (BB hd);cases hp:I7 l ([b.I],[])with
  |none=>rw[hp]at h;cases h
  |some lo=>
   rw[hp]at h;obtain rfl:=CB h;obtain⟨e1,e2⟩:=Me (left:=[b.I]) (out:=[]) (most:=1) (λy hy=>by obtain rfl:=BZ.1 hy;rw[HX];exact hb) (λy hy=>by cases hy) hst hp;have e1:(0:Int)=ic lo.1.length:=e1;have hnil:lo.1=[]:=vav (by simp only[ic]at e1;omega);obtain⟨y,hy,hyb⟩:=e2 p t ⟨b.I,.inl (BZ.2 rfl),by rw[HX];exact hh⟩;rcases hy with hy|hy
   .rw[hnil]at hy;cases hy
   .exact⟨y,hy,hyb⟩
theorem zcb{m:Md}{q:Qy}{v:Vd}(h:NS m q v=AC)(hk:v.kind=1){p:Pt}{t:Int}(hh:(FG q).has p t=AC):GH m q p t=AD:=by
 unfold NS at h;rw[AQ]at h;obtain⟨hr,h⟩:=h;have hg:=WD hr;rw[show(v.kind==1)=AC by rw[hk];rfl,DQ]at h;cases hps:LQ (FG q) v.proof with
 |none=>rw[hps]at h;cases h
 |some outs=>
  rw[hps]at h;obtain⟨y,hy,hyb⟩:=zcc hg hps hh;exact Du (Mc hg hps y hy).ok (CZ.1 h y hy) hyb
theorem zca{m:Md}{q:Qy}{v:Vd}(h:NS m q v=AC)(hk:v.kind=2):E8 m q=AC/\(FG q).has v.p v.twin=AC/\GH m q v.p v.twin=AC:=by
 unfold NS at h;rw[AQ]at h;obtain⟨hr,h⟩:=h;rw[show(v.kind==1)=AD by rw[hk];rfl,DR,show(v.kind==2)=AC by rw[hk];rfl,DQ,AQ]at h;exact⟨hr,h.1,h.2⟩
open Go
theorem Dx:∀(l:List Int) (p:Int),(p::l).Pairwise (·<=·)->(KX p l).Pairwise (· < ·)/\∀y∈KX p l,p<y
 |[],p,_=>by simp[KX]
 |x::r,p,h=>by
  have hpx:p<=x:=vaw h (AY ..);have ih:=Dx r x (vau h);rw[KX];cases hx:x==p with
  |true=>
   have:x=p:=by simpa using hx
   subst this;exact ih
  |false=>
   have hne:x≠p:=by simpa using hx
   rw[DR];refine⟨List.Pairwise.cons (λy hy=>ih.2 y hy) ih.1,λy hy=>?_⟩;rcases AW.1 hy with rfl|hy
   .omega
   .have:=ih.2 y hy
    omega
theorem cv{l:List Int}(h:l.Pairwise (·<=·)):(JS l).Pairwise (· < ·):=by
 cases l with
 |nil=>simp[JS]
 |cons x r=>
  rw[JS]
  have:=Dx r x h
  exact List.Pairwise.cons (λy hy=>this.2 y hy) this.1
theorem lJ(m:Md)(q:Qy)(b:Bx)(i:Nat):(EM m q b i).Pairwise (· < ·):=by
 unfold EM;cases AE (IA q (i:Int)<0)with
 |true=>simp
 |false=>
  rw[DR];unfold LN JV;exact(cv (wZ _)).filter _
theorem dg{b:Bx}{j:Nat}(hj:j<5){a:Int}(h1:(b.g j).lo<=a)(h2:a<(b.g j).hi){k:Nat}(hk:k<5):(b.cutL (j:Int) a).g k=if k=j then⟨(b.g j).lo,a⟩else b.g k:=by
 unfold Bx.cutL;rw[BE,LG b _ hj hk];by_cases h:k=j
 .rw[BX h,BX h];unfold Sp.cutL KE;rw[show min (b.g j).hi a=a by omega,AS (show¬(b.g j).lo>a by omega),DR]
 .rw[BO h,BO h]
theorem Eg{b:Bx}(hb:b.good){j:Nat}(hj:j<5){a:Int}(h1:(b.g j).lo<=a)(h2:a<(b.g j).hi){k:Nat}(hk:k<5):(b.cutH (j:Int) a).g k=if k=j then⟨a+1,(b.g j).hi⟩else b.g k:=by
 have hg:=hb j hj;have e:D7 (a+1)=a+1:=ER AG AG;unfold Bx.cutH;rw[BE,LG b _ hj hk];by_cases h:k=j
 .rw[BX h,BX h];unfold Sp.cutH;rw[AS (show¬a>=(b.g j).hi by omega),DR,e];unfold KE;rw[show max (b.g j).lo (a+1)=a+1 by omega,AS (show¬a+1>(b.g j).hi by omega),DR]
 .rw[BO h,BO h]
theorem Ef{j:Nat}(hj:j<5):∀(L:List Int) (c:Bx),c.good->L.Pairwise (· < ·)->(∀a∈L,(c.g j).lo<=a/\a<(c.g j).hi)->∀d∈NI j c L,
  d.good/\(∀k,k<5->k≠j->d.g k=c.g k)/\(c.g j).lo<=(d.g j).lo/\(d.g j).hi<=(c.g j).hi/\∀a∈L,¬((d.g j).lo<=a/\a<(d.g j).hi)
 |[],c,hc,_,_,d,hd=>by
  obtain rfl:=BZ.1 hd;exact⟨hc,λ_ _ _=>rfl,DH _,DH _,λa ha=>by cases ha⟩
 |a::r,c,hc,hp,hin,d,hd=>by
  have ha:=hin a (AY ..);have hlt:∀x∈r,a<x:=λx hx=>vaw hp hx
  rcases AW.1 hd with rfl|hd
  .have e:=λ{k} hk=>dg (b:=c) hj ha.1 ha.2 (k:=k) hk
   refine⟨qQ hc hj ha.1 ha.2,λk hk hne=>by rw[e hk,BO hne],?_,?_,λx hx=>?_⟩
   .rw[e hj,BX rfl];exact DH _
   .rw[e hj,BX rfl];show a<=_;omega
   .rw[e hj,BX rfl];show¬(_/\x<a);rcases AW.1 hx with rfl|hx
    .omega
    .have:=hlt x hx;omega
  .have e:=λ{k} hk=>Eg (b:=c) hc hj ha.1 ha.2 (k:=k) hk
   have ej:(c.cutH (j:Int) a).g j=⟨a+1,(c.g j).hi⟩:=by rw[e hj,BX rfl]
   obtain⟨d1,d2,d3,d4,d5⟩:=Ef hj r _ (lG hc hj ha.1 ha.2) (vau hp) (λx hx=>by
    rw[ej];have h1:=hlt x hx;have h2:=hin x (A6 _ hx);exact⟨by show a+1<=x;omega,h2.2⟩) d hd
   rw[ej]at d3 d4;replace d3:a+1<=(d.g j).lo:=d3;replace d4:(d.g j).hi<=(c.g j).hi:=d4;refine⟨d1,λk hk hne=>by rw[d2 k hk hne,e hk,BO hne],by omega,d4,λx hx=>?_⟩;rcases AW.1 hx with rfl|hx
   .omega
   .exact d5 x hx
theorem Ee{j:Nat}(hj:j<5):∀(L:List Int) (c:Bx),c.good->L.Pairwise (· < ·)->(∀a∈L,(c.g j).lo<=a/\a<(c.g j).hi)->∀(p:Pt) (t:Int),c.has p t=AC->∃d∈NI j c L,d.has p t=AC
 |[],c,_,_,_,p,t,h=>⟨c,BZ.2 rfl,h⟩
 |a::r,c,hc,hp,hin,p,t,h=>by
  have ha:=hin a (AY ..);have hlt:∀x∈r,a<x:=λx hx=>vaw hp hx
  have hg:=hc j hj;by_cases hle:co p t j<=a
  .exact⟨_,AY ..,(gZ hj).2 ⟨h,hle⟩⟩
  .have ej:(c.cutH (j:Int) a).g j=⟨a+1,(c.g j).hi⟩:=by rw[Eg hc hj ha.1 ha.2 hj,BX rfl]
   obtain⟨d,hd,hb⟩:=Ee hj r _ (lG hc hj ha.1 ha.2) (vau hp) (λx hx=>by
    rw[ej];have h1:=hlt x hx;have h2:=hin x (A6 _ hx);exact⟨by show a+1<=x;omega,h2.2⟩) p t ((gY hc.ok hj AG).2 ⟨h,by omega⟩)
   exact⟨d,A6 _ hd,hb⟩
structure CellAt (m:Md) (q:Qy) (b:Bx) (j:Nat) (c:Bx):Prop where
 good:c.good
 sub:∀k,k<5->(b.g k).lo<=(c.g k).lo/\(c.g k).hi<=(b.g k).hi
 rest:∀k,k<5->j<=k->c.g k=b.g k
 done:∀k,k<j->EM m q c k=[]
theorem gT{m:Md}{q:Qy}{b:Bx}(hb:b.good):∀(j:Nat),j<=5->∀c∈JR m q b j,CellAt m q b j c
 |0,_,c,hc=>by
  obtain rfl:=BZ.1 hc;exact⟨hb,λ_ _=>⟨DH _,DH _⟩,λ_ _ _=>rfl,λk hk=>by omega⟩
 |j+1,hj5,d,hd=>by
  have hj:j<5:=by omega
  rw[JR]at hd;obtain⟨c,hc,hd⟩:=List.mem_flatMap.1 hd;have h:=gT hb j AG c hc;have hcj:c.g j=b.g j:=h.rest j hj (A4 _);obtain⟨d1,d2,d3,d4,d5⟩:=Ef hj (EM m q b j) c h.good (lJ m q b j) (λa ha=>by
   rw[hcj];exact(O8.1 ha).2.2) d hd
  rw[hcj]at d3 d4;refine⟨d1,λk hk=>?_,λk hk hjk=>?_,λk hk=>?_⟩
  .by_cases e:k=j
   .subst e;exact⟨d3,d4⟩
   .rw[d2 k hk e];exact h.sub k hk
  .rw[d2 k hk AG];exact h.rest k hk AG
  .by_cases e:k=j
   .subst e;cases hq:EM m q d k with
    |nil=>rfl
    |cons a r=>
     exfalso;have ha:a∈EM m q d k:=by rw[hq];exact AY ..
     obtain⟨f1,f2,f3,f4⟩:=O8.1 ha;exact d5 a (O8.2 ⟨f1,f2,by omega,by omega⟩) ⟨f3,f4⟩
   .rw[Em (m:=m) (q:=q) (d2 k AG e)];exact h.done k AG
theorem Dp{m:Md}{q:Qy}{b:Bx}(hb:b.good){p:Pt}{t:Int}(h:b.has p t=AC):∀(j:Nat),j<=5->∃c∈JR m q b j,c.has p t=AC
 |0,_=>⟨b,BZ.2 rfl,h⟩
 |j+1,hj5=>by
  have hj:j<5:=by omega
  obtain⟨c,hc,hcb⟩:=Dp hb h j AG;have hk:=gT (m:=m) (q:=q) hb j AG c hc;have hcj:c.g j=b.g j:=hk.rest j hj (A4 _);obtain⟨d,hd,hdb⟩:=Ee hj (EM m q b j) c hk.good (lJ m q b j) (λa ha=>by
   rw[hcj];exact(O8.1 ha).2.2) p t hcb
  exact⟨d,List.mem_flatMap.2 ⟨c,hc,hd⟩,hdb⟩
theorem ce{m:Md}{q:Qy}{b c:Bx}(h:CellAt m q b 5 c){p:Pt}{t:Int}(hc:c.has p t=AC):b.has p t=AC:=by
 rw[OY]at hc ⊢;intro i hi;have h1:=hc i hi;have h2:=h.sub i hi;rw[M2]at h1 ⊢;omega
theorem tj{m:Md}{q:Qy}(hr:E8 m q=AC)(h:∀p t,(FG q).has p t=AC->GH m q p t=AD):K0 m q=AC:=by
 unfold K0;rw[CZ];intro c hc;have hcell:=gT (m:=m) (q:=q) (WD hr) 5 (A4 _) c hc;rw[h c.low c.s4.hi (ce hcell (X2 c hcell.good.emp))];rfl
theorem tl{m:Md}{q:Qy}(hr:E8 m q=AC)(h:K0 m q=AC){p:Pt}{t:Int}(hb:(FG q).has p t=AC):GH m q p t=AD:=by
 obtain⟨c,hc,hcb⟩:=Dp (m:=m) (q:=q) (WD hr) hb 5 (A4 _);have hcell:=gT (m:=m) (q:=q) (WD hr) 5 (A4 _) c hc;have h1:=CZ.1 h c hc;rcases Dl hr hcell.good.emp hcell.good.ok (λi hi=>hcell.done i hi)with hcl|hbr
 .exact Du hcell.good.ok hcl hcb
 .rw[hbr]at h1;cases h1
theorem Ma{m:Md}{q:Qy}{v:Vd}(h:NS m q v=AC):(v.kind=1->K0 m q=AC)/\(v.kind=2->K0 m q=AD):=by
 refine⟨λhk=>?_,λhk=>?_⟩
 .have hr:E8 m q=AC:=by
   unfold NS at h;exact(AQ _ _▸h:_/\_).1
  exact tj hr λp t hh=>zcb h hk hh
 .obtain⟨hr,hh,hb⟩:=zca h hk;cases hc:K0 m q with
  |false=>rfl
  |true=>
   have:=tl hr hc hh
   rw[hb]at this;cases this
open Go
theorem iT(j:Int)(x:IV)(r:List (Int×IV))(k:Int):T1 ((j,x)::r) k=cond (j==k) (AA x) (T1 r k):=by
 unfold T1;rw[GC];cases j==k<;>rfl
theorem mZ(j:Int)(y:IV)(r:List (Int×IV))(k:Int)(x:IV):HZ ((j,y)::r) k x=cond (j==k) ((j,x)::r) ((j,y)::HZ r k x):=by
 unfold HZ;rw[GC];cases j==k with
 |true=>rfl
 |false=>
  have e:BV (GC r k+1) (((j,y)::r).length)=BV (GC r k) r.length:=by
   rw[AV,vaB,Nat.blt_eq,Nat.blt_eq];omega
  simp only[BK];rw[e];cases BV (GC r k) r.length<;>rfl
theorem Iy(k:Int)(x:IV)(j:Int):∀es:List (Int×IV),T1 (HZ es k x) j=cond (k==j) (AA x) (T1 es j)
 |[]=>by
  show T1 [(k,x)] j=_;rw[iT]
 |(i,y)::r=>by
  rw[mZ];by_cases hi:i=k
  .subst hi;rw[DF,B5,iT,iT];cases i==j<;>rfl
  .have e:(i==k)=AD:=by simpa using hi
   rw[e,BK,iT,Iy k x j r,iT];by_cases hj:i=j
   .subst hj;have e2:(k==i)=AD:=by simpa using λh:k=i=>hi h.symm
    rw[DF,B5,e2,BK,B5]
   .have e2:(i==j)=AD:=by simpa using hj
    rw[e2,BK,BK]
theorem tE(vk:Kd)(es:List (Int×IV))(k:Int)(x:IV)(j:Int):KB vk (HZ es k x) j=cond (k==j) x (KB vk es j):=by
 unfold KB;rw[Iy];cases k==j<;>rfl
theorem vq(vk:Kd)(j:Int):KB vk [] j=M6 vk:=rfl
def FY(es:List (Int×IV)):List Int:=es.map Prod.fst
theorem sO{k:Int}{x:IV}{j:Int}:∀{es:List (Int×IV)},j∈FY (HZ es k x)↔j=k\/j∈FY es
 |[]=>by simp[FY,HZ,GC,BV,CG]
 |(i,y)::r=>by
  rw[mZ];by_cases hi:i=k
  .subst hi;rw[DF,B5];simp only[FY,A8,AW];constructor
   .intro h;exact .inr h
   .rintro(h|h)
    .exact .inl h
    .exact h
  .have e:(i==k)=AD:=by simpa using hi
   have ih:=sO (k:=k) (x:=x) (j:=j) (es:=r);rw[e,BK];simp only[FY,A8,AW]at ih ⊢;rw[ih];constructor
   .rintro(h|h|h)
    .exact .inr (.inl h)
    .exact .inl h
    .exact .inr (.inr h)
   .rintro(h|h|h)
    .exact .inr (.inl h)
    .exact .inl h
    .exact .inr (.inr h)
theorem Hq{k:Int}{x:IV}:∀{es:List (Int×IV)},(FY es).Nodup->(FY (HZ es k x)).Nodup
 |[],_=>by
  have e:HZ [] k x=[(k,x)]:=rfl;rw[e];simp[FY]
 |(i,y)::r,h=>by
  have h':i∉FY r/\(FY r).Nodup:=by simpa[FY]using h
  rw[mZ];by_cases hi:i=k
  .subst hi;rw[DF,B5];exact h
  .have e:(i==k)=AD:=by simpa using hi
   rw[e,BK];have hn:=Hq (k:=k) (x:=x) h'.2;have hm:i∉FY (HZ r k x):=λhh=>by
    rcases sO.1 hh with hh|hh
    .exact hi hh
    .exact h'.1 hh
   show(i::FY (HZ r k x)).Nodup;exact List.nodup_cons.2 ⟨hm,hn⟩
theorem Ez:∀(es:List (Int×IV)) (i:Nat),i<es.length->(∀j,j∈FY es↔j=(H0 es i).1\/j∈FY (J7 es i))/\((FY es).Nodup->(H0 es i).1∉FY (J7 es i)/\(FY (J7 es i)).Nodup)/\(J7 es i).length+1=es.length
 |[],i,h=>absurd h (Nat.not_lt_zero i)
 |(j,x)::r,0,_=>⟨λk=>by simp[FY,H0,J7],λh=>by
   have h':j∉FY r/\(FY r).Nodup:=by simpa[FY]using h
   exact h',rfl⟩
 |(j,x)::r,i+1,h=>by
  obtain⟨h1,h2,h3⟩:=Ez r i (by simpa using h);refine⟨λk=>?_,λhn=>?_,?_⟩
  .have:=h1 k
   simp only[FY,A8,AW,H0,J7]at this ⊢;rw[this];constructor
   .rintro(h|h|h)
    .exact .inr (.inl h)
    .exact .inl h
    .exact .inr (.inr h)
   .rintro(h|h|h)
    .exact .inr (.inl h)
    .exact .inl h
    .exact .inr (.inr h)
  .have hn:j∉FY r/\(FY r).Nodup:=by simpa[FY]using hn
   obtain⟨g1,g2⟩:=h2 hn.2;have hj:j∉FY (J7 r i):=λhh=>hn.1 ((h1 j).2 (.inr hh))
   have hne:(H0 r i).1≠j:=λhh=>hn.1 ((h1 j).2 (.inl hh.symm))
   refine⟨?_,?_⟩
   .show(H0 r i).1∉j::FY (J7 r i);rw[AW,not_or];exact⟨hne,g1⟩
   .show(j::FY (J7 r i)).Nodup;exact List.nodup_cons.2 ⟨hj,g2⟩
  .show((j,x)::J7 r i).length+1=_;rw[AV,AV,h3]
theorem Nt:∀{a b:List Int},a.Pairwise (· < ·)->b.Pairwise (· < ·)->(∀x,x∈a↔x∈b)->a=b
 |[],[],_,_,_=>rfl
 |[],y::s,_,_,h=>absurd ((h y).2 (AY ..)) (by simp)
 |x::r,[],_,_,h=>absurd ((h x).1 (AY ..)) (by simp)
 |x::r,y::s,ha,hb,h=>by
  have h1:∀z∈r,x<z:=λz hz=>vaw ha hz
  have h2:∀z∈s,y<z:=λz hz=>vaw hb hz
  have hx:=(h x).1 (AY ..);have hy:=(h y).2 (AY ..);have e:x=y:=by
   rcases AW.1 hx with hx|hx
   .exact hx
   .rcases AW.1 hy with hy|hy
    .exact hy.symm
    .have:=h1 y hy
     have:=h2 x hx
     omega
  subst e;rw[Nt (vau ha) (vau hb) λz=>?_];have hz:=h z;rw[AW,AW]at hz;constructor
  .intro hh
   have:=h1 z hh
   rcases hz.1 (.inr hh)with g|g
   .omega
   .exact g
  .intro hh
   have:=h2 z hh
   rcases hz.2 (.inr hh)with g|g
   .omega
   .exact g
theorem zcW{L:List Int}{t:Int}{k:Nat}(h:L.Pairwise (· < ·))(h1:∀x∈L.take k,x<t)(h2:∀x∈L.drop k,t<x):(L.take k++t::L.drop k).Pairwise (· < ·):=by
 rw[List.pairwise_append];refine⟨h.sublist (List.take_sublist ..),List.Pairwise.cons h2 (h.sublist (List.drop_sublist ..)),λa ha b hb=>?_⟩
 have:=h1 a ha
 rcases AW.1 hb with rfl|hb
 .exact this
 .have:=h2 b hb
  omega
theorem Hf{L:List Int}{t:Int}{k:Nat}(x:Int):x∈L.take k++t::L.drop k↔x=t\/x∈L:=by
 have e:x∈L↔x∈L.take k\/x∈L.drop k:=by
  rw[<-A5,List.take_append_drop]
 rw[A5,AW,e];constructor
 .rintro(h|h|h)
  .exact .inr (.inl h)
  .exact .inl h
  .exact .inr (.inr h)
 .rintro(h|h|h)
  .exact .inr (.inl h)
  .exact .inl h
  .exact .inr (.inr h)
theorem lm(n k:Nat):((n:Int)).fdiv (k:Int)=((n/k:Nat):Int):=by
 rw[vaH _ AG];rfl
theorem zfy{w:Int}(h0:0<=w)(h1:w<18446744073709551616):(G6 w 63 1==0)=!(w.fdiv 9223372036854775808==1):=by
 obtain⟨n,rfl⟩:=Int.eq_ofNat_of_zero_le h0;have e:((n:Int)).fdiv 9223372036854775808=((n/9223372036854775808:Nat):Int):=lm n 9223372036854775808;have e1:G6 (n:Int) 63 1=GG ((n:Int).fdiv 9223372036854775808) 1:=rfl;rw[e1,e];have hlt:n/9223372036854775808<2:=by omega
 generalize n/9223372036854775808=d at hlt;have hd:d=0\/d=1:=by omega
 rcases hd with rfl|rfl<;>decide
theorem zf1{n:Int}(h0:0<=n)(h1:n<2147483648):KH n=n:=by
 unfold KH;rw[show D7 (n*2^32)=n*2^32 from ER AG AG,vaH _ AG];omega
theorem zf0{n:Int}(h0:2147483648<=n)(h1:n<=4294967295):KH n=n-4294967296:=by
 unfold KH;have e:D7 (n*2^32)=n*2^32-18446744073709551616:=by
  have key:∀z:Int,9223372036854775808<=z->z<18446744073709551616->AI AJ z=z-18446744073709551616:=λz h2 h3=>by
   have h4:z%2^AJ.bits=z:=by show z%2^64=z;omega
   unfold AI;simp only[h4];rw[show(AJ.signed&&AE (z>=2^(AJ.bits-1)))=AC by
    rw[AL (show z>=2^(AJ.bits-1) by show z>=2^63;omega)];rfl,BX rfl]
   rfl
  exact key _ AG AG
 rw[e,vaH _ AG];omega
theorem uV(b:Bx)(s u:Sp):∀i:Nat,(b.p s i).p u i=b.p u i
 |0=>rfl
 |1=>rfl
 |2=>rfl
 |3=>rfl
 |_+4=>rfl
theorem zbR(b:Bx):∀i:Nat,b.p (b.g i) i=b
 |0=>rfl
 |1=>rfl
 |2=>rfl
 |3=>rfl
 |_+4=>rfl
theorem Gj(b:Bx)(s:Sp):∀i:Nat,(b.p s i).g i=s
 |0=>rfl
 |1=>rfl
 |2=>rfl
 |3=>rfl
 |_+4=>rfl
def Y7(j:Nat)(hi:Int):Bx->Int->List Int->List Bx
 |x,lo,[]=>[x.p ⟨lo,hi⟩ j]
 |x,lo,a::r=>x.p ⟨lo,a⟩ j::Y7 j hi (x.p ⟨lo,a⟩ j) (a+1) r
theorem Nf(j:Nat){hi:Int}(hh:hi<=2147483647):∀(L:List Int) (x:Bx) (lo:Int),-2147483648<=lo->L.Pairwise (· < ·)->(∀a∈L,lo<=a/\a<hi)->Y7 j hi x lo L=NI j (x.p ⟨lo,hi⟩ j) L
 |[],x,lo,_,_,_=>rfl
 |a::r,x,lo,hl,hp,hin=>by
  have ha:=hin a (AY ..);have hlt:∀y∈r,a<y:=λy hy=>vaw hp hy
  have e1:(x.p ⟨lo,hi⟩ j).cutL (j:Int) a=x.p ⟨lo,a⟩ j:=by
   unfold Bx.cutL;rw[BE,Gj,uV];congr 1;show KE lo (min hi a)=_;unfold KE;rw[show min hi a=a by omega,AS AG,DR]
  have e2:(x.p ⟨lo,hi⟩ j).cutH (j:Int) a=x.p ⟨a+1,hi⟩ j:=by
   unfold Bx.cutH;rw[BE,Gj,uV];congr 1;show cond (AE (a>=hi)) ⟨1,0⟩ (KE (max lo (D7 (a+1))) hi)=_;have e:D7 (a+1)=a+1:=ER AG AG;rw[AS AG,DR,e];unfold KE;rw[show max lo (a+1)=a+1 by omega,AS AG,DR]
  rw[Y7,NI,e1,e2,Nf j hh r _ (a+1) AG (vau hp) (λy hy=>⟨by have:=hlt y hy;omega,(hin y (A6 _ hy)).2⟩),uV]
theorem mg{b:Bx}(h:b.goodB=AC):b.good:=by
 unfold Bx.goodB at h;simp only[AQ]at h;obtain⟨h0,h1,h2,h3,h4⟩:=h;have key:∀{s:Sp},s.goodB=AC-> -2147483648<=s.lo/\s.lo<=s.hi/\s.hi<=2147483647:=λ{s} h=>by
  unfold Sp.goodB at h;simpa only[AQ,AZ]using h
 intro i hi
 match i,hi with
 |0,_=>exact key h0
 |1,_=>exact key h1
 |2,_=>exact key h2
 |3,_=>exact key h3
 |4,_=>exact key h4
 |i+5,h=>exact absurd h AG
theorem mh{b:Bx}(h:b.good):b.goodB=AC:=by
 have key:∀i,i<5->(b.g i).goodB=AC:=λi hi=>by
  have:=h i hi
  unfold Sp.goodB;rw[AL this.1,AL this.2.1,AL this.2.2];rfl
 unfold Bx.goodB;rw[show b.s0=b.g 0 from rfl,show b.s1=b.g 1 from rfl,show b.s2=b.g 2 from rfl,show b.s3=b.g 3 from rfl,show b.s4=b.g 4 from rfl,key 0 AG,key 1 AG,key 2 AG,key 3 AG,key 4 AG];rfl
open Go Go.Proofs
def Wv(N:Nat):Env:=EE [] [] 31 N
theorem yq(N:Nat)(n w:Int):EA (Wv N) Be [.tmp 4] [[.z]] [.i n,.i w]=
 (cond (AE (w<1))
 (AA (.i n,[]))
 (cond (AE (w>63))
 (AA (.i n,[]))
 (cond (AE (w<0))
 AB
 (cond (AE (AI AJ (w-1)<0))
 AB
 (cond (C4 (AI AO (ic (B1 (A0 (AT AO) (AI AO n)&&&A0 (AT AO) (AI AO (AI AO (1*2^min (AM w) (AT AO))-1)))))) (2^min (AM (AI AJ (w-1))) (AT AO))==1)
 (cond (AE (w<0))
 AB
 (AA (.i (AI AJ (AI AJ (AI AO (ic (B1 (A0 (AT AO) (AI AO n)&&&A0 (AT AO) (AI AO (AI AO (1*2^min (AM w) (AT AO))-1))))))-AI AJ (1*2^min (AM w) (AT AJ)))),[])))
 (AA (.i (AI AJ (AI AO (ic (B1 (A0 (AT AO) (AI AO n)&&&A0 (AT AO) (AI AO (AI AO (1*2^min (AM w) (AT AO))-1))))))),[]))))))):=AF
def Wy(N:Nat):Env:=EE [(137,eE),(74,S9),(133,XD)] [] 42 N
theorem yy(N:Nat)(w:Int):EA (Wy N) Bh [.cell 2 108,.tmp 3] [[.bool,.z,.z,.z,.z,.z],[.bool]] [.int .u64 w]=
 (cond (C4 w (2^min (AM 63) (AT AO))==1)
 (cond (AE (32=32)&&(AE (0<=AI AJ (AI AO (ic (B1 (A0 (AT AO) w&&&A0 (AT AO) 4294967295)))))&&AE (AI AJ (AI AO (ic (B1 (A0 (AT AO) w&&&A0 (AT AO) 4294967295))))<=4294967295)))
 (cond (!RB AC (KH (AI AJ (AI AO (ic (B1 (A0 (AT AO) w&&&A0 (AT AO) 4294967295)))))) 0 0 0 0)
 (AA (.tup [.agg [.bool AD,.i 0,.i 0,.i 0,.i 0,.i 0],.bool AD],[]))
 (cond (HK AC (KH (AI AJ (AI AO (ic (B1 (A0 (AT AO) w&&&A0 (AT AO) 4294967295)))))) 0 0 0 0!=w)
 (AA (.tup [.agg [.bool AD,.i 0,.i 0,.i 0,.i 0,.i 0],.bool AD],[]))
 (AA (.tup [.agg [.bool AC,.i (KH (AI AJ (AI AO (ic (B1 (A0 (AT AO) w&&&A0 (AT AO) 4294967295)))))),.i 0,.i 0,.i 0,.i 0],.bool AC],[]))))
 AB)
 (cond (AE (32=32)&&(AE (0<=AI AJ (AI AO (ic (B1 (A0 (AT AO) w&&&A0 (AT AO) 4294967295)))))&&AE (AI AJ (AI AO (ic (B1 (A0 (AT AO) w&&&A0 (AT AO) 4294967295))))<=4294967295)))
 (cond (!RB AD 0 (AI AJ (AI AO (ic (B1 (A0 (AT AO) (C4 w (2^min (AM 32) (AT AO)))&&&A0 (AT AO) 15))))) (KH (AI AJ (AI AO (ic (B1 (A0 (AT AO) w&&&A0 (AT AO) 4294967295)))))) (AI AJ (AI AO (ic (B1 (A0 (AT AO) (C4 w (2^min (AM 40) (AT AO)))&&&A0 (AT AO) 255))))) (AI AJ (AI AO (ic (B1 (A0 (AT AO) (C4 w (2^min (AM 48) (AT AO)))&&&A0 (AT AO) 255))))))
 (AA (.tup [.agg [.bool AD,.i 0,.i 0,.i 0,.i 0,.i 0],.bool AD],[]))
 (cond (HK AD 0 (AI AJ (AI AO (ic (B1 (A0 (AT AO) (C4 w (2^min (AM 32) (AT AO)))&&&A0 (AT AO) 15))))) (KH (AI AJ (AI AO (ic (B1 (A0 (AT AO) w&&&A0 (AT AO) 4294967295)))))) (AI AJ (AI AO (ic (B1 (A0 (AT AO) (C4 w (2^min (AM 40) (AT AO)))&&&A0 (AT AO) 255))))) (AI AJ (AI AO (ic (B1 (A0 (AT AO) (C4 w (2^min (AM 48) (AT AO)))&&&A0 (AT AO) 255)))))!=w)
 (AA (.tup [.agg [.bool AD,.i 0,.i 0,.i 0,.i 0,.i 0],.bool AD],[]))
 (AA (.tup [.agg [.bool AD,.i 0,.i (AI AJ (AI AO (ic (B1 (A0 (AT AO) (C4 w (2^min (AM 32) (AT AO)))&&&A0 (AT AO) 15))))),.i (KH (AI AJ (AI AO (ic (B1 (A0 (AT AO) w&&&A0 (AT AO) 4294967295)))))),.i (AI AJ (AI AO (ic (B1 (A0 (AT AO) (C4 w (2^min (AM 40) (AT AO)))&&&A0 (AT AO) 255))))),.i (AI AJ (AI AO (ic (B1 (A0 (AT AO) (C4 w (2^min (AM 48) (AT AO)))&&&A0 (AT AO) 255)))))],.bool AC],[]))))
 AB)):=AF
def LC(N:Nat):Env:=EE [(78,QW)] [(3,⟨[0,3,4,5,8],[3],[]⟩)] 41 N
theorem za(N:Nat)(l:LI)(p:Pt):EA (LC N) O3 [.tmp 4] [[.z]] [.list AD [.int .u64] l,(Pt.V p)]=
 (D3 (LC N) (DS O3 [1,1,0,1,0,0]) ⟨[0,3,4,5,8],[3],[]⟩ N ⟨[(0,(.list AD [.int .u64] l)),(3,(.ptr 3 0 0)),(4,(.i 0)),(5,(.i 0)),(8,(.i 0))],[(3,(AA (.box (Pt.cs p))))]⟩ (DW 0 (DX (LC N) (DS O3 [1,1,1]) (D2 (LC N) AB [.tmp 4] [[.z]])))):=AF
theorem Si(N:Nat)(p:Pt)(l0:LI)(x4 x5 x8:Int)(again:St->DU)(k:Out->St->DU):EY (LC N) (DS O3 [1,1,0,1,0,0])
 ⟨[(0,(.list AD [.int .u64] l0)),(3,(.ptr 3 0 0)),(4,(.i x4)),(5,(.i x5)),(8,(.i x8))],[(3,(AA (.box (Pt.cs p))))]⟩
 (ES again ⟨[0,3,4,5,8],[3],[]⟩ k)=
 (cond (AE (x8<31))
 (cond (AE (x5>=ic (AN l0)))
 (k .ret ⟨[(0,(.list AD [.int .u64] l0)),(3,(.ptr 3 0 0)),(4,(.i (-1))),(5,(.i x5)),(8,(.i x8))],[(3,(AA (.box (Pt.cs p))))]⟩)
 (cond (AE (0<=x5)&&AE (x5<ic (AN l0)))
 (cond (!FQ (IV.toInt (AR l0 (AM x5) default)))
 (k .ret ⟨[(0,(.list AD [.int .u64] l0)),(3,(.ptr 3 0 0)),(4,(.i (-1))),(5,(.i x5)),(8,(.i x8))],[(3,(AA (.box (Pt.cs p))))]⟩)
 (cond (Nd.lf (DT (IV.toInt (AR l0 (AM x5) default))))
 (k .ret ⟨[(0,(.list AD [.int .u64] l0)),(3,(.ptr 3 0 0)),(4,(.i x5)),(5,(.i x5)),(8,(.i x8))],[(3,(AA (.box (Pt.cs p))))]⟩)
 (cond (AE (Nd.f (DT (IV.toInt (AR l0 (AM x5) default)))=ic 0))
 (cond (AE (Pt.p0 p<=Nd.a (DT (IV.toInt (AR l0 (AM x5) default)))))
 (again ⟨[(0,(.list AD [.int .u64] l0)),(3,(.ptr 3 0 0)),(4,(.i x4)),(5,(.i (Nd.l (DT (IV.toInt (AR l0 (AM x5) default)))))),(8,(.i (AI AJ (x8+1))))],[(3,(AA (.box (Pt.cs p))))]⟩)
 (again ⟨[(0,(.list AD [.int .u64] l0)),(3,(.ptr 3 0 0)),(4,(.i x4)),(5,(.i (Nd.r (DT (IV.toInt (AR l0 (AM x5) default)))))),(8,(.i (AI AJ (x8+1))))],[(3,(AA (.box (Pt.cs p))))]⟩))
 (cond (AE (Nd.f (DT (IV.toInt (AR l0 (AM x5) default)))=ic 1))
 (cond (AE (Pt.p1 p<=Nd.a (DT (IV.toInt (AR l0 (AM x5) default)))))
 (again ⟨[(0,(.list AD [.int .u64] l0)),(3,(.ptr 3 0 0)),(4,(.i x4)),(5,(.i (Nd.l (DT (IV.toInt (AR l0 (AM x5) default)))))),(8,(.i (AI AJ (x8+1))))],[(3,(AA (.box (Pt.cs p))))]⟩)
 (again ⟨[(0,(.list AD [.int .u64] l0)),(3,(.ptr 3 0 0)),(4,(.i x4)),(5,(.i (Nd.r (DT (IV.toInt (AR l0 (AM x5) default)))))),(8,(.i (AI AJ (x8+1))))],[(3,(AA (.box (Pt.cs p))))]⟩))
 (cond (AE (Nd.f (DT (IV.toInt (AR l0 (AM x5) default)))=ic 2))
 (cond (AE (Pt.p2 p<=Nd.a (DT (IV.toInt (AR l0 (AM x5) default)))))
 (again ⟨[(0,(.list AD [.int .u64] l0)),(3,(.ptr 3 0 0)),(4,(.i x4)),(5,(.i (Nd.l (DT (IV.toInt (AR l0 (AM x5) default)))))),(8,(.i (AI AJ (x8+1))))],[(3,(AA (.box (Pt.cs p))))]⟩)
 (again ⟨[(0,(.list AD [.int .u64] l0)),(3,(.ptr 3 0 0)),(4,(.i x4)),(5,(.i (Nd.r (DT (IV.toInt (AR l0 (AM x5) default)))))),(8,(.i (AI AJ (x8+1))))],[(3,(AA (.box (Pt.cs p))))]⟩))
 (cond (AE (Nd.f (DT (IV.toInt (AR l0 (AM x5) default)))=ic 3))
 (cond (AE (Pt.p3 p<=Nd.a (DT (IV.toInt (AR l0 (AM x5) default)))))
 (again ⟨[(0,(.list AD [.int .u64] l0)),(3,(.ptr 3 0 0)),(4,(.i x4)),(5,(.i (Nd.l (DT (IV.toInt (AR l0 (AM x5) default)))))),(8,(.i (AI AJ (x8+1))))],[(3,(AA (.box (Pt.cs p))))]⟩)
 (again ⟨[(0,(.list AD [.int .u64] l0)),(3,(.ptr 3 0 0)),(4,(.i x4)),(5,(.i (Nd.r (DT (IV.toInt (AR l0 (AM x5) default)))))),(8,(.i (AI AJ (x8+1))))],[(3,(AA (.box (Pt.cs p))))]⟩))
 AB))))))
 AB))
 (k (.exit 0) ⟨[(0,(.list AD [.int .u64] l0)),(3,(.ptr 3 0 0)),(4,(.i x4)),(5,(.i x5)),(8,(.i x8))],[(3,(AA (.box (Pt.cs p))))]⟩)):=AF
theorem jc(N:Nat)(p:Pt)(l0:LI)(x4 x5 x8:Int):(DW 0 (DX (LC N) (DS O3 [1,1,1]) (D2 (LC N) AB [.tmp 4] [[.z]]))) (.exit 0)
 ⟨[(0,(.list AD [.int .u64] l0)),(3,(.ptr 3 0 0)),(4,(.i x4)),(5,(.i x5)),(8,(.i x8))],[(3,(AA (.box (Pt.cs p))))]⟩=
 (AA (.i (-1),[])):=AF
theorem rL(N:Nat)(p:Pt)(l0:LI)(x4 x5 x8:Int):(DW 0 (DX (LC N) (DS O3 [1,1,1]) (D2 (LC N) AB [.tmp 4] [[.z]]))) .ret
 ⟨[(0,(.list AD [.int .u64] l0)),(3,(.ptr 3 0 0)),(4,(.i x4)),(5,(.i x5)),(8,(.i x8))],[(3,(AA (.box (Pt.cs p))))]⟩=
 (AA (.i x4,[])):=AF
def Wz(N:Nat):Env:=EE [(78,QW),(230,eO)] [] 23 N
theorem yz(N:Nat)(l:LI)(p:Pt):EA (Wz N) Bi [.tmp 4] [[.z]] [.list AD [.int .u64] l,(Pt.V p)]=
 (cond (AE (YG l p<0))
 (AA (.i 0,[]))
 (cond (AE (0<=YG l p)&&AE (YG l p<ic (AN l)))
 (AA (.i (Nd.v (DT (IV.toInt (AR l (AM (YG l p)) default)))),[]))
 AB)):=AF
def JZ(N:Nat):Env:=EE [(134,S8),(135,eH)] [(4,⟨[1,2,32,33],[1],[]⟩),(10,⟨[1,2,52,53,54],[1],[]⟩)] 77 N
theorem yu(N:Nat)(m:Md):EA (JZ N) NF [.tmp 2] [[.bool]] [(Md.V m)]=
 (cond (AE (Md.d m<1))
 (AA (.bool AD,[]))
 (cond (AE (Md.d m>4))
 (AA (.bool AD,[]))
 (cond (AE (Md.c m<1))
 (AA (.bool AD,[]))
 (cond (AE (Md.c m>3))
 (AA (.bool AD,[]))
 (cond (AE (ic (AN (Md.ts m))>8))
 (AA (.bool AD,[]))
 (D3 (JZ N) (DS NF [1,1,0,1,0,0]) ⟨[1,2,32,33],[1],[]⟩ N ⟨[(1,(.ptr 1 0 0)),(2,(.bool AD)),(32,(.agg [.i (Md.b0 m),.i (Md.b1 m),.i (Md.b2 m)])),(33,(.i 0))],[(1,(AA (.box (Md.cs m))))]⟩ (DW 0 (DX (JZ N) (DS NF [1,1,1]) (D2 (JZ N) AB [.tmp 2] [[.bool]]))))))))):=AF
theorem oN(N:Nat)(m:Md)(b2:Bool)(u00 u01 u02 x33:Int)(again:St->DU)(k:Out->St->DU):EY (JZ N) (DS NF [1,1,0,1,0,0])
 ⟨[(1,(.ptr 1 0 0)),(2,(.bool b2)),(32,(.agg [.i u00,.i u01,.i u02])),(33,(.i x33))],[(1,(AA (.box (Md.cs m))))]⟩
 (ES again ⟨[1,2,32,33],[1],[]⟩ k)=
 (cond (AE (x33<3))
 (cond (AE (x33=ic 0))
 (cond (!E4 u00)
 (k .ret ⟨[(1,(.ptr 1 0 0)),(2,(.bool AD)),(32,(.agg [.i u00,.i u01,.i u02])),(33,(.i x33))],[(1,(AA (.box (Md.cs m))))]⟩)
 (cond (AE (x33>=Md.c m))
 (cond (u00 !=0)
 (k .ret ⟨[(1,(.ptr 1 0 0)),(2,(.bool AD)),(32,(.agg [.i u00,.i u01,.i u02])),(33,(.i x33))],[(1,(AA (.box (Md.cs m))))]⟩)
 (again ⟨[(1,(.ptr 1 0 0)),(2,(.bool b2)),(32,(.agg [.i u00,.i u01,.i u02])),(33,(.i (AI AJ (x33+1))))],[(1,(AA (.box (Md.cs m))))]⟩))
 (again ⟨[(1,(.ptr 1 0 0)),(2,(.bool b2)),(32,(.agg [.i u00,.i u01,.i u02])),(33,(.i (AI AJ (x33+1))))],[(1,(AA (.box (Md.cs m))))]⟩)))
 (cond (AE (x33=ic 1))
 (cond (!E4 u01)
 (k .ret ⟨[(1,(.ptr 1 0 0)),(2,(.bool AD)),(32,(.agg [.i u00,.i u01,.i u02])),(33,(.i x33))],[(1,(AA (.box (Md.cs m))))]⟩)
 (cond (AE (x33>=Md.c m))
 (cond (u01 !=0)
 (k .ret ⟨[(1,(.ptr 1 0 0)),(2,(.bool AD)),(32,(.agg [.i u00,.i u01,.i u02])),(33,(.i x33))],[(1,(AA (.box (Md.cs m))))]⟩)
 (again ⟨[(1,(.ptr 1 0 0)),(2,(.bool b2)),(32,(.agg [.i u00,.i u01,.i u02])),(33,(.i (AI AJ (x33+1))))],[(1,(AA (.box (Md.cs m))))]⟩))
 (again ⟨[(1,(.ptr 1 0 0)),(2,(.bool b2)),(32,(.agg [.i u00,.i u01,.i u02])),(33,(.i (AI AJ (x33+1))))],[(1,(AA (.box (Md.cs m))))]⟩)))
 (cond (AE (x33=ic 2))
 (cond (!E4 u02)
 (k .ret ⟨[(1,(.ptr 1 0 0)),(2,(.bool AD)),(32,(.agg [.i u00,.i u01,.i u02])),(33,(.i x33))],[(1,(AA (.box (Md.cs m))))]⟩)
 (cond (AE (x33>=Md.c m))
 (cond (u02 !=0)
 (k .ret ⟨[(1,(.ptr 1 0 0)),(2,(.bool AD)),(32,(.agg [.i u00,.i u01,.i u02])),(33,(.i x33))],[(1,(AA (.box (Md.cs m))))]⟩)
 (again ⟨[(1,(.ptr 1 0 0)),(2,(.bool b2)),(32,(.agg [.i u00,.i u01,.i u02])),(33,(.i (AI AJ (x33+1))))],[(1,(AA (.box (Md.cs m))))]⟩))
 (again ⟨[(1,(.ptr 1 0 0)),(2,(.bool b2)),(32,(.agg [.i u00,.i u01,.i u02])),(33,(.i (AI AJ (x33+1))))],[(1,(AA (.box (Md.cs m))))]⟩)))
 AB)))
 (k (.exit 0) ⟨[(1,(.ptr 1 0 0)),(2,(.bool b2)),(32,(.agg [.i u00,.i u01,.i u02])),(33,(.i x33))],[(1,(AA (.box (Md.cs m))))]⟩)):=AF
theorem it(N:Nat)(m:Md)(b2:Bool)(u00 u01 u02 x33:Int):(DW 0 (DX (JZ N) (DS NF [1,1,1]) (D2 (JZ N) AB [.tmp 2] [[.bool]]))) (.exit 0)
 ⟨[(1,(.ptr 1 0 0)),(2,(.bool b2)),(32,(.agg [.i u00,.i u01,.i u02])),(33,(.i x33))],[(1,(AA (.box (Md.cs m))))]⟩=
 (D3 (JZ N) (DS NF [1,1,1,0,1,0,0]) ⟨[1,2,52,53,54],[1],[]⟩ N ⟨[(1,(.ptr 1 0 0)),(2,(.bool b2)),(52,(.list AC G7 (Md.ts m))),(53,(.i (ic (AN (Md.ts m))))),(54,(.i 0))],[(1,(AA (.box (Md.cs m))))]⟩ (DW 2 (DX (JZ N) (DS NF [1,1,1,1]) (D2 (JZ N) AB [.tmp 2] [[.bool]])))):=AF
theorem iv(N:Nat)(m:Md)(b2:Bool)(u00 u01 u02 x33:Int):(DW 0 (DX (JZ N) (DS NF [1,1,1]) (D2 (JZ N) AB [.tmp 2] [[.bool]]))) .ret
 ⟨[(1,(.ptr 1 0 0)),(2,(.bool b2)),(32,(.agg [.i u00,.i u01,.i u02])),(33,(.i x33))],[(1,(AA (.box (Md.cs m))))]⟩=
 (AA (.bool b2,[])):=AF
theorem Sf(N:Nat)(m:Md)(b2:Bool)(l52:LI)(x53 x54:Int)(again:St->DU)(k:Out->St->DU):EY (JZ N) (DS NF [1,1,1,0,1,0,0])
 ⟨[(1,(.ptr 1 0 0)),(2,(.bool b2)),(52,(.list AC G7 l52)),(53,(.i x53)),(54,(.i x54))],[(1,(AA (.box (Md.cs m))))]⟩
 (ES again ⟨[1,2,52,53,54],[1],[]⟩ k)=
 (cond (AE (x54<x53))
 (cond (AE (0<=x54)&&AE (x54<ic (AN l52)))
 (cond (AE (IV.toInt (IV.cell (AR l52 (AM x54) default) 0)<0))
 (k .ret ⟨[(1,(.ptr 1 0 0)),(2,(.bool AD)),(52,(.list AC G7 l52)),(53,(.i x53)),(54,(.i x54))],[(1,(AA (.box (Md.cs m))))]⟩)
 (cond (AE (IV.toInt (IV.cell (AR l52 (AM x54) default) 0)>=Md.c m))
 (k .ret ⟨[(1,(.ptr 1 0 0)),(2,(.bool AD)),(52,(.list AC G7 l52)),(53,(.i x53)),(54,(.i x54))],[(1,(AA (.box (Md.cs m))))]⟩)
 (cond (!GP (IV.toList (IV.cell (AR l52 (AM x54) default) 1)) (Md.d m))
 (k .ret ⟨[(1,(.ptr 1 0 0)),(2,(.bool AD)),(52,(.list AC G7 l52)),(53,(.i x53)),(54,(.i x54))],[(1,(AA (.box (Md.cs m))))]⟩)
 (again ⟨[(1,(.ptr 1 0 0)),(2,(.bool b2)),(52,(.list AC G7 l52)),(53,(.i x53)),(54,(.i (AI AJ (x54+1))))],[(1,(AA (.box (Md.cs m))))]⟩))))
 AB)
 (k (.exit 2) ⟨[(1,(.ptr 1 0 0)),(2,(.bool b2)),(52,(.list AC G7 l52)),(53,(.i x53)),(54,(.i x54))],[(1,(AA (.box (Md.cs m))))]⟩)):=AF
theorem iw(N:Nat)(m:Md)(b2:Bool)(l52:LI)(x53 x54:Int):(DW 2 (DX (JZ N) (DS NF [1,1,1,1]) (D2 (JZ N) AB [.tmp 2] [[.bool]]))) (.exit 2)
 ⟨[(1,(.ptr 1 0 0)),(2,(.bool b2)),(52,(.list AC G7 l52)),(53,(.i x53)),(54,(.i x54))],[(1,(AA (.box (Md.cs m))))]⟩=
 (AA (.bool AC,[])):=AF
theorem rK(N:Nat)(m:Md)(b2:Bool)(l52:LI)(x53 x54:Int):(DW 2 (DX (JZ N) (DS NF [1,1,1,1]) (D2 (JZ N) AB [.tmp 2] [[.bool]]))) .ret
 ⟨[(1,(.ptr 1 0 0)),(2,(.bool b2)),(52,(.list AC G7 l52)),(53,(.i x53)),(54,(.i x54))],[(1,(AA (.box (Md.cs m))))]⟩=
 (AA (.bool b2,[])):=AF
def MH(N:Nat):Env:=EE [(75,XC),(190,eJ)] [(5,⟨[1,5,6,7,28,29,30],[5],[]⟩)] 46 N
theorem yr(N:Nat)(m:Md)(u00:Int)(p:Pt):EA (MH N) P2 [.tmp 6] [[.z]] [(Md.V m),.i u00,(Pt.V p)]=
 (cond (!EU m)
 (AA (.i 0,[]))
 (cond (AE (u00<0))
 (AA (.i 0,[]))
 (cond (AE (u00>=Md.c m))
 (AA (.i 0,[]))
 (cond (AE (u00=ic 0))
 (D3 (MH N) (DS P2 [1,1,1,0,1,0,0]) ⟨[1,5,6,7,28,29,30],[5],[]⟩ N ⟨[(1,(.i u00)),(5,(.ptr 5 0 0)),(6,(.i 0)),(7,(.i (Md.b0 m))),(28,(.list AC G7 (Md.ts m))),(29,(.i (ic (AN (Md.ts m))))),(30,(.i 0))],[(5,(AA (.box (Pt.cs p))))]⟩ (DW 0 (DX (MH N) (DS P2 [1,1,1,1]) (D2 (MH N) AB [.tmp 6] [[.z]]))))
 (cond (AE (u00=ic 1))
 (D3 (MH N) (DS P2 [1,1,1,0,1,0,0]) ⟨[1,5,6,7,28,29,30],[5],[]⟩ N ⟨[(1,(.i u00)),(5,(.ptr 5 0 0)),(6,(.i 0)),(7,(.i (Md.b1 m))),(28,(.list AC G7 (Md.ts m))),(29,(.i (ic (AN (Md.ts m))))),(30,(.i 0))],[(5,(AA (.box (Pt.cs p))))]⟩ (DW 0 (DX (MH N) (DS P2 [1,1,1,1]) (D2 (MH N) AB [.tmp 6] [[.z]]))))
 (cond (AE (u00=ic 2))
 (D3 (MH N) (DS P2 [1,1,1,0,1,0,0]) ⟨[1,5,6,7,28,29,30],[5],[]⟩ N ⟨[(1,(.i u00)),(5,(.ptr 5 0 0)),(6,(.i 0)),(7,(.i (Md.b2 m))),(28,(.list AC G7 (Md.ts m))),(29,(.i (ic (AN (Md.ts m))))),(30,(.i 0))],[(5,(AA (.box (Pt.cs p))))]⟩ (DW 0 (DX (MH N) (DS P2 [1,1,1,1]) (D2 (MH N) AB [.tmp 6] [[.z]]))))
 AB)))))):=AF
theorem Se(N:Nat)(p:Pt)(x1 x6 x7:Int)(l28:LI)(x29 x30:Int)(again:St->DU)(k:Out->St->DU):EY (MH N) (DS P2 [1,1,1,0,1,0,0])
 ⟨[(1,(.i x1)),(5,(.ptr 5 0 0)),(6,(.i x6)),(7,(.i x7)),(28,(.list AC G7 l28)),(29,(.i x29)),(30,(.i x30))],[(5,(AA (.box (Pt.cs p))))]⟩
 (ES again ⟨[1,5,6,7,28,29,30],[5],[]⟩ k)=
 (cond (AE (x30<x29))
 (cond (AE (0<=x30)&&AE (x30<ic (AN l28)))
 (cond (IV.toInt (IV.cell (AR l28 (AM x30) default) 0)==x1)
 (again ⟨[(1,(.i x1)),(5,(.ptr 5 0 0)),(6,(.i x6)),(7,(.i (AI AJ (x7+GW (IV.toList (IV.cell (AR l28 (AM x30) default) 1)) p)))),(28,(.list AC G7 l28)),(29,(.i x29)),(30,(.i (AI AJ (x30+1))))],[(5,(AA (.box (Pt.cs p))))]⟩)
 (again ⟨[(1,(.i x1)),(5,(.ptr 5 0 0)),(6,(.i x6)),(7,(.i x7)),(28,(.list AC G7 l28)),(29,(.i x29)),(30,(.i (AI AJ (x30+1))))],[(5,(AA (.box (Pt.cs p))))]⟩))
 AB)
 (k (.exit 0) ⟨[(1,(.i x1)),(5,(.ptr 5 0 0)),(6,(.i x6)),(7,(.i x7)),(28,(.list AC G7 l28)),(29,(.i x29)),(30,(.i x30))],[(5,(AA (.box (Pt.cs p))))]⟩)):=AF
theorem ir(N:Nat)(p:Pt)(x1 x6 x7:Int)(l28:LI)(x29 x30:Int):(DW 0 (DX (MH N) (DS P2 [1,1,1,1]) (D2 (MH N) AB [.tmp 6] [[.z]]))) (.exit 0)
 ⟨[(1,(.i x1)),(5,(.ptr 5 0 0)),(6,(.i x6)),(7,(.i x7)),(28,(.list AC G7 l28)),(29,(.i x29)),(30,(.i x30))],[(5,(AA (.box (Pt.cs p))))]⟩=
 (AA (.i x7,[])):=AF
open Go Go.Proofs
def J0(N:Nat):Env:=EE [(78,QW)] [(5,⟨[0,1,4,5,20,21,22],[19],[]⟩),(17,⟨[0,4,5,10],[19],[]⟩)] 94 N
theorem yx(N:Nat)(l:LI)(a1:Int):EA (J0 N) NG [.tmp 4] [[.bool]] [(.list AD [.int .u64] l),(.i a1)]=
 (cond (AE (ic (AN l)<1))
 (AA (.bool AD,[]))
 (cond (AE (ic (AN l)>31))
 (AA (.bool AD,[]))
 (D3 (J0 N) (DS NG [1,1,1,0,1,0,0]) ⟨[0,1,4,5,20,21,22],[19],[]⟩ N ⟨[(0,(.list AD [(.int .u64)] l)),(1,(.i a1)),(4,(.bool AD)),(5,(.ptr 19 0 0)),(20,(.list AD [(.int .u64)] l)),(21,(.i (ic (AN l)))),(22,(.i 0))],[(19,(AA (.map .z [])))]⟩ (DW 0 (DX (J0 N) (DS NG [1,1,1,1]) (D2 (J0 N) AB [(B7 4)] [[.bool]])))))):=AF
theorem Sg(N:Nat)(l0:LI)(x1:Int)(b4:Bool)(l20:LI)(x21 x22:Int)(mo19:List (Int×IV))(again:St->DU)(k:Out->St->DU):EY (J0 N) (DS NG [1,1,1,0,1,0,0])
 ⟨[(0,(.list AD [(.int .u64)] l0)),(1,(.i x1)),(4,(.bool b4)),(5,(.ptr 19 0 0)),(20,(.list AD [(.int .u64)] l20)),(21,(.i x21)),(22,(.i x22))],[(19,(AA (.map .z mo19)))]⟩
 (ES again ⟨[0,1,4,5,20,21,22],[19],[]⟩ k)=
 (cond (AE (x22<x21))
 (cond (AE (0<=x22)&&AE (x22<ic (AN l20)))
 (cond (!FQ (IV.toInt (AR l20 (AM x22) default)))
 (k .ret ⟨[(0,(.list AD [(.int .u64)] l0)),(1,(.i x1)),(4,(.bool AD)),(5,(.ptr 19 0 0)),(20,(.list AD [(.int .u64)] l20)),(21,(.i x21)),(22,(.i x22))],[(19,(AA (.map .z mo19)))]⟩)
 (cond (Nd.lf (DT (IV.toInt (AR l20 (AM x22) default))))
 (again ⟨[(0,(.list AD [(.int .u64)] l0)),(1,(.i x1)),(4,(.bool b4)),(5,(.ptr 19 0 0)),(20,(.list AD [(.int .u64)] l20)),(21,(.i x21)),(22,(.i (AI AJ (x22+1))))],[(19,(AA (.map .z mo19)))]⟩)
 (cond (AE (Nd.f (DT (IV.toInt (AR l20 (AM x22) default)))>=x1))
 (k .ret ⟨[(0,(.list AD [(.int .u64)] l0)),(1,(.i x1)),(4,(.bool AD)),(5,(.ptr 19 0 0)),(20,(.list AD [(.int .u64)] l20)),(21,(.i x21)),(22,(.i x22))],[(19,(AA (.map .z mo19)))]⟩)
 (cond (AE (Nd.l (DT (IV.toInt (AR l20 (AM x22) default)))<=x22))
 (k .ret ⟨[(0,(.list AD [(.int .u64)] l0)),(1,(.i x1)),(4,(.bool AD)),(5,(.ptr 19 0 0)),(20,(.list AD [(.int .u64)] l20)),(21,(.i x21)),(22,(.i x22))],[(19,(AA (.map .z mo19)))]⟩)
 (cond (AE (Nd.r (DT (IV.toInt (AR l20 (AM x22) default)))<=x22))
 (k .ret ⟨[(0,(.list AD [(.int .u64)] l0)),(1,(.i x1)),(4,(.bool AD)),(5,(.ptr 19 0 0)),(20,(.list AD [(.int .u64)] l20)),(21,(.i x21)),(22,(.i x22))],[(19,(AA (.map .z mo19)))]⟩)
 (cond (AE (Nd.l (DT (IV.toInt (AR l20 (AM x22) default)))>=ic (AN l0)))
 (k .ret ⟨[(0,(.list AD [(.int .u64)] l0)),(1,(.i x1)),(4,(.bool AD)),(5,(.ptr 19 0 0)),(20,(.list AD [(.int .u64)] l20)),(21,(.i x21)),(22,(.i x22))],[(19,(AA (.map .z mo19)))]⟩)
 (cond (AE (Nd.r (DT (IV.toInt (AR l20 (AM x22) default)))>=ic (AN l0)))
 (k .ret ⟨[(0,(.list AD [(.int .u64)] l0)),(1,(.i x1)),(4,(.bool AD)),(5,(.ptr 19 0 0)),(20,(.list AD [(.int .u64)] l20)),(21,(.i x21)),(22,(.i x22))],[(19,(AA (.map .z mo19)))]⟩)
 (cond (Nd.l (DT (IV.toInt (AR l20 (AM x22) default)))==Nd.r (DT (IV.toInt (AR l20 (AM x22) default))))
 (k .ret ⟨[(0,(.list AD [(.int .u64)] l0)),(1,(.i x1)),(4,(.bool AD)),(5,(.ptr 19 0 0)),(20,(.list AD [(.int .u64)] l20)),(21,(.i x21)),(22,(.i x22))],[(19,(AA (.map .z mo19)))]⟩)
 (again ⟨[(0,(.list AD [(.int .u64)] l0)),(1,(.i x1)),(4,(.bool b4)),(5,(.ptr 19 0 0)),(20,(.list AD [(.int .u64)] l20)),(21,(.i x21)),(22,(.i (AI AJ (x22+1))))],[(19,(AA (.map .z (HZ (HZ mo19 (Nd.l (DT (IV.toInt (AR l20 (AM x22) default)))) (IV.int (AI AJ (IV.toInt (KB (Kd.int AJ) mo19 (Nd.l (DT (IV.toInt (AR l20 (AM x22) default)))))+1)))) (Nd.r (DT (IV.toInt (AR l20 (AM x22) default)))) (IV.int (AI AJ (IV.toInt (KB (Kd.int AJ) (HZ mo19 (Nd.l (DT (IV.toInt (AR l20 (AM x22) default)))) (IV.int (AI AJ (IV.toInt (KB (Kd.int AJ) mo19 (Nd.l (DT (IV.toInt (AR l20 (AM x22) default)))))+1)))) (Nd.r (DT (IV.toInt (AR l20 (AM x22) default)))))+1)))))))]⟩)))))))))
 AB)
 (k (.exit 0) ⟨[(0,(.list AD [(.int .u64)] l0)),(1,(.i x1)),(4,(.bool b4)),(5,(.ptr 19 0 0)),(20,(.list AD [(.int .u64)] l20)),(21,(.i x21)),(22,(.i x22))],[(19,(AA (.map .z mo19)))]⟩)):=AF
theorem iy(N:Nat)(l0:LI)(x1:Int)(b4:Bool)(l20:LI)(x21 x22:Int)(mo19:List (Int×IV)):(DW 0 (DX (J0 N) (DS NG [1,1,1,1]) (D2 (J0 N) AB [(B7 4)] [[.bool]]))) (.exit 0)
 ⟨[(0,(.list AD [(.int .u64)] l0)),(1,(.i x1)),(4,(.bool b4)),(5,(.ptr 19 0 0)),(20,(.list AD [(.int .u64)] l20)),(21,(.i x21)),(22,(.i x22))],[(19,(AA (.map .z mo19)))]⟩=
 (D3 (J0 N) (DS NG [1,1,1,1,0,1,0,0]) ⟨[0,4,5,10],[19],[]⟩ N ⟨[(0,(.list AD [(.int .u64)] l0)),(4,(.bool b4)),(5,(.ptr 19 0 0)),(10,(.i 1))],[(19,(AA (.map .z mo19)))]⟩ (DW 2 (DX (J0 N) (DS NG [1,1,1,1,1]) (D2 (J0 N) AB [(B7 4)] [[.bool]])))):=AF
theorem iz(N:Nat)(l0:LI)(x1:Int)(b4:Bool)(l20:LI)(x21 x22:Int)(mo19:List (Int×IV)):(DW 0 (DX (J0 N) (DS NG [1,1,1,1]) (D2 (J0 N) AB [(B7 4)] [[.bool]]))) .ret
 ⟨[(0,(.list AD [(.int .u64)] l0)),(1,(.i x1)),(4,(.bool b4)),(5,(.ptr 19 0 0)),(20,(.list AD [(.int .u64)] l20)),(21,(.i x21)),(22,(.i x22))],[(19,(AA (.map .z mo19)))]⟩=
 (AA (.bool b4,[])):=AF
theorem Sh(N:Nat)(l0:LI)(b4:Bool)(x10:Int)(mo19:List (Int×IV))(again:St->DU)(k:Out->St->DU):EY (J0 N) (DS NG [1,1,1,1,0,1,0,0])
 ⟨[(0,(.list AD [(.int .u64)] l0)),(4,(.bool b4)),(5,(.ptr 19 0 0)),(10,(.i x10))],[(19,(AA (.map .z mo19)))]⟩
 (ES again ⟨[0,4,5,10],[19],[]⟩ k)=
 (cond (AE (x10<ic (AN l0)))
 (cond (IV.toInt (KB (Kd.int AJ) mo19 x10)!=1)
 (k .ret ⟨[(0,(.list AD [(.int .u64)] l0)),(4,(.bool AD)),(5,(.ptr 19 0 0)),(10,(.i x10))],[(19,(AA (.map .z mo19)))]⟩)
 (again ⟨[(0,(.list AD [(.int .u64)] l0)),(4,(.bool b4)),(5,(.ptr 19 0 0)),(10,(.i (AI AJ (x10+1))))],[(19,(AA (.map .z mo19)))]⟩))
 (k (.exit 2) ⟨[(0,(.list AD [(.int .u64)] l0)),(4,(.bool b4)),(5,(.ptr 19 0 0)),(10,(.i x10))],[(19,(AA (.map .z mo19)))]⟩)):=AF
theorem ja(N:Nat)(l0:LI)(b4:Bool)(x10:Int)(mo19:List (Int×IV)):(DW 2 (DX (J0 N) (DS NG [1,1,1,1,1]) (D2 (J0 N) AB [(B7 4)] [[.bool]]))) (.exit 2)
 ⟨[(0,(.list AD [(.int .u64)] l0)),(4,(.bool b4)),(5,(.ptr 19 0 0)),(10,(.i x10))],[(19,(AA (.map .z mo19)))]⟩=
 (AA (.bool AC,[])):=AF
theorem jb(N:Nat)(l0:LI)(b4:Bool)(x10:Int)(mo19:List (Int×IV)):(DW 2 (DX (J0 N) (DS NG [1,1,1,1,1]) (D2 (J0 N) AB [(B7 4)] [[.bool]]))) .ret
 ⟨[(0,(.list AD [(.int .u64)] l0)),(4,(.bool b4)),(5,(.ptr 19 0 0)),(10,(.i x10))],[(19,(AA (.map .z mo19)))]⟩=
 (AA (.bool b4,[])):=AF
open Go Go.Proofs
set_option maxRecDepth 100000
theorem Iv{w:Int}(h0:0<=w)(h1:w<18446744073709551616):∃n:Nat,n<4294967296/\GG w 4294967295=(n:Int)/\(w<4294967296->(n:Int)=w):=by
 obtain⟨k,rfl⟩:=Int.eq_ofNat_of_zero_le h0;refine⟨k&&&4294967295,?_,?_,λhk=>?_⟩
 .exact vbn Nat.and_le_right (by decide)
 .exact pJ (x:=k) (y:=4294967295) AG (by decide)
 .have:k&&&(2^32-1)=k:=by rw[Nat.and_two_pow_sub_one_eq_mod];exact Nat.mod_eq_of_lt AG
  exact congrArg Int.ofNat this
theorem zd2:D6 PR B0 137 eE:=by
 refine EF [] [] eE [[.z]] Tryz.func137 pl trivial ?_;intro vs r hwf h;unfold eE at h;split at h
 .rename_i n w;cases hg:(AE (w=32)&&(AE (0<=n)&&AE (n<=4294967295)))with
  |false=>rw[hg]at h;simp[R.get]at h
  |true=>
  rw[hg,R.get_br,DQ,R.get_ok]at h;simp only[AQ,AZ]at hg;obtain⟨rfl,h0,h1⟩:=hg;refine⟨0,(yq 0 n 32).trans ?_⟩;rw[<-h];have e0:GQ n=n:=by
   unfold GQ;rw[RK];omega
  obtain⟨k,hk,e1,e2⟩:=Iv (w:=GQ n) AG AG;have e3:(k:Int)=n:=by rw[e2 AG,e0]
  show cond (C4 (GG (GQ n) 4294967295) 2147483648==1) (AA (V.int .i64 (D7 (D7 (GG (GQ n) 4294967295)-4294967296)),[])) (AA (V.int .i64 (D7 (GG (GQ n) 4294967295)),[]))=_;rw[e1,e3];have e4:D7 n=n:=ER AG AG;rw[e4];by_cases hn:n<2147483648
  .have e5:(C4 n 2147483648==1)=AD:=by
    rw[vaH _ AG];exact BH.2 AG
   rw[e5,DR,zf1 h0 hn]
  .have e5:(C4 n 2147483648==1)=AC:=by
    rw[vaH _ AG];exact CF.2 AG
   rw[e5,DQ,zf0 AG h1];rw[show D7 (n-4294967296)=n-4294967296 from ER AG AG]
 .simp[R.get]at h
theorem md(w:Int):G6 w 0 32=GG w 4294967295:=by
 unfold G6;rw[show PF 32=4294967295 by decide,show(2:Int)^AM 0=1 from rfl,vaH _ AG,Int.ediv_one]
def cU:V:=.agg [.bool AD,.i 0,.i 0,.i 0,.i 0,.i 0]
def oY(x:Nd)(w:Int):DU:=cond (!IQ x) (AA (.tup [cU,.bool AD],[])) (cond (G9 x !=w) (AA (.tup [cU,.bool AD],[])) (AA (.tup [x.V,.bool AC],[])))
theorem Uv{x:Nd}{w:Int}(hx:L9 w=x):oY x w=AA (.tup [.agg [.bool (DT w).lf,.i (DT w).v,.i (DT w).f,.i (DT w).a,.i (DT w).l,.i (DT w).r],.bool (FQ w)],[]):=by
 have e:FQ w=(IQ x&&(G9 x==w)):=by
  rw[<-wh];unfold vO;rw[hx]
 unfold oY DT;rw[e,hx];show cond (!IQ x) _ (cond (!(G9 x==w)) _ _)=_;cases IQ x<;>cases G9 x==w<;>rfl
theorem oF:D6 PR B0 78 QW:=by
 refine EF [(137,eE),(74,S9),(133,XD)] [] QW [[.bool,.z,.z,.z,.z,.z],[.bool]] Tryz.func78 pw ⟨zd2,wR,Pr,trivial⟩ ?_;intro vs r hwf h;unfold QW at h;split at h
 .rename_i w;rw[R.get_ok]at h;refine⟨0,(yy 0 w).trans ?_⟩;rw[<-h];have hb:=(hwf (by simp[MX])).1;simp only[SU,wfL]at hb;obtain⟨h0,h1⟩:=hb;have e0:AO.min=0:=rfl;have e1:AO.max=18446744073709551615:=rfl;rw[e0]at h0;rw[e1]at h1;obtain⟨k,hk,ek,_⟩:=Iv h0 AG;have es:KH (D7 (GG w 4294967295))=MB w:=by unfold MB;rw[md]
  have ew:D7 (GG w 4294967295)=(k:Int):=by rw[ek];exact ER AG AG
  have g:(AE ((32:Int)=32)&&(AE (0<=D7 (GG w 4294967295))&&AE (D7 (GG w 4294967295)<=4294967295)))=AC:=by
   rw[ew,AL (show(0:Int)<=(k:Int) by omega),AL (show(k:Int)<=4294967295 by omega)];rfl
  have ht:=zfy h0 AG;show cond (C4 w 9223372036854775808==1)
   (cond (AE ((32:Int)=32)&&(AE (0<=D7 (GG w 4294967295))&&AE (D7 (GG w 4294967295)<=4294967295)))
    (cond (!RB AC (KH (D7 (GG w 4294967295))) 0 0 0 0) (AA (V.tup [cU,V.bool AD],[])) (cond (HK AC (KH (D7 (GG w 4294967295))) 0 0 0 0!=w) (AA (V.tup [cU,V.bool AD],[])) (AA (V.tup [(Nd.mk AC (KH (D7 (GG w 4294967295))) 0 0 0 0).V,.bool AC],[])))) AB)
   (cond (AE ((32:Int)=32)&&(AE (0<=D7 (GG w 4294967295))&&AE (D7 (GG w 4294967295)<=4294967295)))
    (cond (!RB AD 0 (D7 (GG (C4 w 4294967296) 15)) (KH (D7 (GG w 4294967295))) (D7 (GG (C4 w 1099511627776) 255)) (D7 (GG (C4 w 281474976710656) 255))) (AA (V.tup [cU,V.bool AD],[]))
     (cond (HK AD 0 (D7 (GG (C4 w 4294967296) 15)) (KH (D7 (GG w 4294967295))) (D7 (GG (C4 w 1099511627776) 255)) (D7 (GG (C4 w 281474976710656) 255))!=w) (AA (V.tup [cU,V.bool AD],[]))
      (AA (V.tup [(Nd.mk AD 0 (D7 (GG (C4 w 4294967296) 15)) (KH (D7 (GG w 4294967295))) (D7 (GG (C4 w 1099511627776) 255)) (D7 (GG (C4 w 281474976710656) 255))).V,.bool AC],[])))) AB)=_
  rw[g,DQ,DQ,es];cases hw:C4 w 9223372036854775808==1 with
  |true=>
   rw[hw]at ht;have rd:L9 w=⟨AC,MB w,0,0,0,0⟩:=by unfold L9;rw[ht];rfl
   rw[DQ,<-Uv rd];unfold oY;rw[<-nE,<-uW]
  |false=>
   rw[hw]at ht;have m4:PF 4=15:=by decide
   have m8:PF 8=255:=by decide
   have r4:G6 w 32 4=GG (C4 w 4294967296) 15:=by unfold G6;rw[m4];rfl
   have r5:G6 w 40 8=GG (C4 w 1099511627776) 255:=by unfold G6;rw[m8];rfl
   have r6:G6 w 48 8=GG (C4 w 281474976710656) 255:=by unfold G6;rw[m8];rfl
   have rd:L9 w=⟨AD,0,D7 (GG (C4 w 4294967296) 15),MB w,D7 (GG (C4 w 1099511627776) 255),D7 (GG (C4 w 281474976710656) 255)⟩:=by unfold L9;rw[ht,r4,r5,r6];rfl
   rw[DR,<-Uv rd];unfold oY;rw[<-nE,<-uW]
 .simp[R.get]at h
def X9(l:LI)(i:Nat)(es:List (Int×IV)):Prop:=∀j:Nat,(KB .z es (j:Int)).toInt=((G0 (l.take i) j:Nat):Int)
theorem cy{l:LI}{i:Nat}{w:IV}{es:List (Int×IV)}(h:l[i]?=AA w)(hl:(DT w.toInt).lf=AC)(hc:X9 l i es):X9 l (i+1) es:=λj=>by
 rw[hc j,nD h];unfold KO;rw[hl];rfl
theorem cx{l:LI}{i:Nat}{w:IV}{es:List (Int×IV)}(h:l[i]?=AA w)(hl:(DT w.toInt).lf=AD)(hn:l.length<=31){a b:Nat}(ha:(DT w.toInt).l=(a:Int))(hb:(DT w.toInt).r=(b:Int))(hab:a≠b)(hc:X9 l i es):
  X9 l (i+1) (HZ (HZ es (a:Int) (IV.int (AI AJ (IV.toInt (KB (Kd.int AJ) es (a:Int))+1)))) (b:Int) (IV.int (AI AJ (IV.toInt (KB (Kd.int AJ) (HZ es (a:Int) (IV.int (AI AJ (IV.toInt (KB (Kd.int AJ) es (a:Int))+1)))) (b:Int))+1)))):=λj=>by
 have hsm:∀j,G0 (l.take i) j<=62:=λj=>by
  have:=tR (l.take i) j
  rw[BL]at this;omega
 have eab:((a:Int)==(b:Int))=AD:=BH.2 AG;have wa:AI AJ (((G0 (l.take i) a:Nat):Int)+1)=((G0 (l.take i) a:Nat):Int)+1:=ER AG (by have:=hsm a;omega);have wb:AI AJ (((G0 (l.take i) b:Nat):Int)+1)=((G0 (l.take i) b:Nat):Int)+1:=ER AG (by have:=hsm b;omega);rw[tE,tE,tE,eab,BK,hc a,hc b,wa,wb,nD h];have e:KO (DT w.toInt) j=(if a=j then 1 else 0)+(if b=j then 1 else 0):=by
  unfold KO;rw[hl,ha,hb,BK];have e1:((a:Int)=(j:Int))↔a=j:=by omega
  have e2:((b:Int)=(j:Int))↔b=j:=by omega
  simp only[e1,e2]
 rw[e];by_cases h1:b=j
 .subst h1;rw[DF,B5,BO hab,BX rfl];show((G0 (l.take i) b:Nat):Int)+1=_;omega
 .have e1:((b:Int)==(j:Int))=AD:=BH.2 AG;rw[e1,BK,BO h1];by_cases h2:a=j
  .subst h2;rw[DF,B5,BX rfl];show((G0 (l.take i) a:Nat):Int)+1=_;omega
  .have e2:((a:Int)==(j:Int))=AD:=BH.2 AG;rw[e2,BK,BO h2,hc j];omega
abbrev yM(l:LI)(dim:Int)(b:Bool)(i:Int)(es:List (Int×IV)):St:=
 ⟨[(0,(.list AD [(.int .u64)] l)),(1,(.i dim)),(4,(.bool b)),(5,(.ptr 19 0 0)),(20,(.list AD [(.int .u64)] l)),(21,(.i (ic (AN l)))),(22,(.i i))],[(19,(AA (.map .z es)))]⟩
theorem v7(N:Nat)(l:LI)(dim:Int)(hl:l.length<=31)(K:Out->St->DU)(R:DU)(hK:∀i es,K .ret (yM l dim AD i es)=AA (.bool AD,[]))(hx:∀es,X9 l l.length es->K (.exit 0) (yM l dim AD (ic l.length) es)=R):∀(d i n:Nat) (es:List (Int×IV)),X9 l i es->i+d=l.length->d<n->
  D3 (J0 N) (DS NG [1,1,1,0,1,0,0]) ⟨[0,1,4,5,20,21,22],[19],[]⟩ n (yM l dim AD (i:Int) es) K=
   cond (JH dim (ic l.length) i (l.drop i)) R (AA (.bool AD,[]))
 |d,i,0,_,_,_,h=>absurd h AG
 |0,i,n+1,es,hc,hd,_=>by
  have hi:i=l.length:=by omega
  subst hi;rw[D8,Sg];rw[AS (show¬((l.length:Nat):Int)<ic l.length by simp only[ic];omega),DR,C8];exact hx es hc
 |d+1,i,n+1,es,hc,hd,hn=>by
  have hil:i<l.length:=by omega
  have hw:l[i]?=AA l[i]:=BD hil;rw[D8,Sg,BJ hil];have hg:l.getD (AM (i:Int)) default=l[i]:=by
   rw[BE,BY,hw];rfl
  rw[hg];generalize l[i]=w at hw ⊢;have ei:AI AJ ((i:Int)+1)=((i+1:Nat):Int):=by
   rw[ER AG AG];omega
  rw[ei,AL (show(i:Int)<ic l.length by simp only[ic];omega),DQ,AL (show(0:Int)<=(i:Int) by omega),BR,DQ];unfold JH;cases hb:FQ w.toInt with
  |false=>
   simp only[BF,DQ,BP,DR];exact hK (i:Int) es
  |true=>
   simp only[A9,DR,BI];unfold OD;cases hlf:(DT w.toInt).lf with
   |true=>
    simp only[DQ,BI];exact v7 N l dim hl K R hK hx d (i+1) n es (cy hw hlf hc) AG AG
   |false=>
    simp only[DR];cases h1:AE ((DT w.toInt).f>=dim)with
    |true=>
     simp only[DQ,A9,BP,DR];exact hK (i:Int) es
    |false=>
    cases h3:AE (min (DT w.toInt).l (DT w.toInt).r<=(i:Int))with
    |true=>
     have g3:=BB h3;simp only[A9,BP,DE,DR];by_cases h5:(DT w.toInt).l<=(i:Int)
     .rw[AL h5,DQ];exact hK (i:Int) es
     .rw[AS h5,DR,AL (show(DT w.toInt).r<=(i:Int) by omega),DQ];exact hK (i:Int) es
    |false=>
     have g3:=BM h3;rw[DR,AS (show¬(DT w.toInt).l<=(i:Int) by omega),DR,AS (show¬(DT w.toInt).r<=(i:Int) by omega),DR];cases h4:AE (max (DT w.toInt).l (DT w.toInt).r>=ic l.length)with
     |true=>
      have g4:=BB h4;simp only[A9,BP,DE,DR];by_cases h5:(DT w.toInt).l>=ic l.length
      .rw[AL h5,DQ];exact hK (i:Int) es
      .rw[AS h5,DR,AL (show(DT w.toInt).r>=ic l.length by omega),DQ];exact hK (i:Int) es
     |false=>
      have g4:=BM h4;rw[AS (show¬(DT w.toInt).l>=ic l.length by omega),DR,AS (show¬(DT w.toInt).r>=ic l.length by omega),DR];cases h2:((DT w.toInt).l==(DT w.toInt).r)with
      |true=>
       simp only[DQ,DR,A9,BF,BP,DE];exact hK (i:Int) es
      |false=>
       have g2:(DT w.toInt).l≠(DT w.toInt).r:=BH.1 h2;simp only[ic]at g4;obtain⟨a,ha⟩:∃a:Nat,(DT w.toInt).l=(a:Int):=⟨(DT w.toInt).l.toNat,by omega⟩;obtain⟨b,hb'⟩:∃b:Nat,(DT w.toInt).r=(b:Int):=⟨(DT w.toInt).r.toNat,by omega⟩;have hab:a≠b:=λe=>g2 (by rw[ha,hb',e])
       have hN:=cx hw hlf hl ha hb' hab hc;rw[DR,ha,hb'];simp only[BF,BR,BI];exact v7 N l dim hl K R hK hx d (i+1) n _ hN AG AG
abbrev zga(l:LI)(b:Bool)(j:Int)(es:List (Int×IV)):St:=
 ⟨[(0,(.list AD [(.int .u64)] l)),(4,(.bool b)),(5,(.ptr 19 0 0)),(10,(.i j))],[(19,(AA (.map .z es)))]⟩
theorem Nu(N:Nat)(l:LI)(es:List (Int×IV))(hl:l.length<=31)(hc:X9 l l.length es):∀(d j n:Nat),j+1+d=l.length->d<n->
  D3 (J0 N) (DS NG [1,1,1,1,0,1,0,0]) ⟨[0,4,5,10],[19],[]⟩ n (zga l AD ((j+1:Nat):Int) es) (DW 2 (DX (J0 N) (DS NG [1,1,1,1,1]) (D2 (J0 N) AB [(B7 4)] [[.bool]])))=
   AA (.bool ((vbh j d).all λj=>G0 l (j+1)==1),[])
 |d,j,0,_,h=>absurd h AG
 |0,j,n+1,hd,_=>by
  rw[D8,Sh,AS (show¬((j+1:Nat):Int)<ic l.length by simp only[ic];omega),DR];exact ja N l AD _ es
 |d+1,j,n+1,hd,hn=>by
  have ej:AI AJ (((j+1:Nat):Int)+1)=((j+1+1:Nat):Int):=by
   rw[ER AG AG];omega
  have hg:=hc (j+1);rw[BS]at hg;rw[D8,Sh,ej,AL (show((j+1:Nat):Int)<ic l.length by simp only[ic];omega),DQ,hg,List.range'_succ,van];have e:(((G0 l (j+1):Nat):Int)!=1)=!(G0 l (j+1)==1):=by
   show(!(((G0 l (j+1):Nat):Int)==1))=_;congr 1;rw[vaB,CF,CF];omega
  rw[e];cases(G0 l (j+1)==1)with
  |false=>
   rw[BF,DQ];exact jb N l AD _ es
  |true=>
   rw[A9,DR,BI];exact Nu N l es hl hc d (j+1) n AG AG
theorem zd4:D6 PR B0 135 eH:=by
 refine EF [(78,QW)] [(5,⟨[0,1,4,5,20,21,22],[19],[]⟩),(17,⟨[0,4,5,10],[19],[]⟩)] eH [[.bool]] Tryz.func135 pu ⟨oF,trivial⟩ ?_;intro vs r hwf h;unfold eH at h;split at h
 .rename_i l dim;rw[R.get_ok]at h;refine⟨40,(yx 40 l dim).trans ?_⟩;rw[<-h];unfold GP;by_cases h1:1<=l.length
  .by_cases h2:l.length<=31
   .rw[AS (show¬ic l.length<1 by simp only[ic];omega),AS (show¬ic l.length>31 by simp only[ic];omega),DR,DR,CV h1,CV h2];refine(v7 40 l dim h2 _ (AA (.bool (V0 l),[])) (λi es=>?_) (λes hc=>?_) l.length 0 40 [] (λj=>?_) AG AG).trans ?_
    .exact iz 40 l dim AD l (ic l.length) i es
    .refine(iy 40 l dim AD l (ic l.length) (ic l.length) es).trans ?_;refine(Nu 40 l es h2 hc (l.length-1) 0 40 AG AG).trans ?_;unfold V0;rw[List.range_eq_range']
    .rw[vq,List.take_zero];rfl
    .rw[CD];cases JH dim (ic l.length) 0 l<;>rfl
   .have e:CG l.length 31=AD:=by
     cases hb:CG l.length 31 with
     |false=>rfl
     |true=>exact absurd (AX hb) h2
    rw[AS (show¬ic l.length<1 by simp only[ic];omega),AL (show ic l.length>31 by simp only[ic];omega),DR,DQ,e,DE,BP]
  .have e:CG 1 l.length=AD:=by
    cases hb:CG 1 l.length with
    |false=>rfl
    |true=>exact absurd (AX hb) h1
   rw[AL (show ic l.length<1 by simp only[ic];omega),DQ,e,BP,BP]
 .simp[R.get]at h
abbrev yO(l:LI)(p:Pt)(x4 a j:Int):St:=
 ⟨[(0,(.list AD [(.int .u64)] l)),(3,(.ptr 3 0 0)),(4,(.i x4)),(5,(.i a)),(8,(.i j))],[(3,(AA (.box (Pt.cs p))))]⟩
theorem yF(N:Nat)(l:LI)(p:Pt):∀(m j n:Nat) (a:Int),0<=a->j+m=31->m<n->
  D3 (LC N) (DS O3 [1,1,0,1,0,0]) ⟨[0,3,4,5,8],[3],[]⟩ n (yO l p 0 a (j:Int)) (DW 0 (DX (LC N) (DS O3 [1,1,1]) (D2 (LC N) AB [(B7 4)] [[.z]])))=
   AA (.i (G5 l p m a).1,[])
 |m,j,0,a,_,_,h=>absurd h AG
 |0,j,n+1,a,ha,hd,_=>by
  have hj:j=31:=by omega
  subst hj;rw[D8,Si,AS (show¬((31:Nat):Int)<31 by omega),DR];exact jc N p l _ _ _
 |m+1,j,n+1,a,ha,hd,hn=>by
  have ej:AI AJ ((j:Int)+1)=((j+1:Nat):Int):=GM AG;rw[D8,Si,AL (show(j:Int)<31 by omega),DQ,G5,ej];cases hge:AE (a>=ic l.length)with
  |true=>
   rw[DQ,DQ];exact rL N p l _ _ _
  |false=>
   have hge:=BM hge;rw[DR,DR,AL ha,AL (show a<ic l.length by omega),BR,DQ];generalize(l.getD a.toNat default).toInt=w;cases hb:FQ w with
   |false=>
    rw[BF,DQ,DQ];exact rL N p l _ _ _
   |true=>
    rw[A9,DR,DR];cases hl:(DT w).lf with
    |true=>
     rw[DQ,DQ];exact rL N p l _ _ _
    |false=>
     obtain⟨⟨f0,f4⟩,⟨l1,l31⟩,⟨r1,r31⟩,_⟩:=bA hb hl;rw[DR,DR];have step:∀c:Bool,(cond c (D3 (LC N) (DS O3 [1,1,0,1,0,0]) ⟨[0,3,4,5,8],[3],[]⟩ n (yO l p 0 (DT w).l ((j+1:Nat):Int)) (DW 0 (DX (LC N) (DS O3 [1,1,1]) (D2 (LC N) AB [(B7 4)] [[.z]]))))
       (D3 (LC N) (DS O3 [1,1,0,1,0,0]) ⟨[0,3,4,5,8],[3],[]⟩ n (yO l p 0 (DT w).r ((j+1:Nat):Int)) (DW 0 (DX (LC N) (DS O3 [1,1,1]) (D2 (LC N) AB [(B7 4)] [[.z]])))))=
       AA (.i (cond c (G5 l p m (DT w).l) (G5 l p m (DT w).r)).1,[]):=λc=>by
      cases c with
      |true=>exact yF N l p m (j+1) n (DT w).l AG AG AG
      |false=>exact yF N l p m (j+1) n (DT w).r AG AG AG
     obtain e|e|e|e:(DT w).f=0\/(DT w).f=1\/(DT w).f=2\/(DT w).f=3:=by omega
     all_goals
      rw[e];exact step _
theorem zd6:D6 PR B0 230 eO:=by
 refine EF [(78,QW)] [(3,⟨[0,3,4,5,8],[3],[]⟩)] eO [[.z]] Tryz.func230 py ⟨oF,trivial⟩ ?_;intro vs r hwf h;unfold eO at h;split at h
 .rename_i l p;replace h:=RN h;obtain⟨p,rfl,h⟩:=h;rw[R.get_ok]at h;refine⟨32,?_⟩;rw[<-h];exact(za 32 l p).trans (yF 32 l p 31 0 32 0 AG rfl AG)
 .simp[R.get]at h
theorem rC(l:LI)(p:Pt):∀(n:Nat) (a:Int),0<=a->((G5 l p n a).1= -1/\(G5 l p n a).2=Nd.zero)\/(0<=(G5 l p n a).1/\(G5 l p n a).1<ic l.length/\(G5 l p n a).2=DT (l.getD (G5 l p n a).1.toNat default).toInt)
 |0,_,_=>.inl ⟨rfl,rfl⟩
 |n+1,a,ha=>by
  rw[G5];cases hge:AE (a>=ic l.length)with
  |true=>exact .inl ⟨rfl,rfl⟩
  |false=>
   have hge:=BM hge;rw[DR];generalize hw:(l.getD a.toNat default).toInt=w;cases hb:FQ w with
   |false=>exact .inl ⟨rfl,rfl⟩
   |true=>
    rw[A9,DR];cases hl:(DT w).lf with
    |true=>
     right;rw[DQ];exact⟨ha,by show a<_;omega,by rw[hw]⟩
    |false=>
     obtain⟨_,⟨l1,_⟩,⟨r1,_⟩,_⟩:=bA hb hl;rw[DR];cases AE (p.g (DT w).f.toNat<=(DT w).a)with
     |true=>exact rC l p n _ AG
     |false=>exact rC l p n _ AG
theorem zd5:D6 PR B0 190 eJ:=by
 refine EF [(78,QW),(230,eO)] [] eJ [[.z]] Tryz.func190 px ⟨oF,zd6,trivial⟩ ?_;intro vs r hwf h;unfold eJ at h;split at h
 .rename_i l p;replace h:=RN h;obtain⟨p,rfl,h⟩:=h;rw[R.get_ok]at h;refine⟨0,(yz 0 l p).trans ?_⟩;rw[<-h];unfold GW hZ YG;rcases rC l p 31 0 AG with⟨e1,e2⟩|⟨e1,e2,e3⟩
  .rw[e1,e2];rfl
  .rw[AS (show¬(G5 l p 31 0).1<0 by omega),DR,AL e1,AL e2,BR,DQ,e3]
 .simp[R.get]at h
theorem zdf(N:Nat)(m:Md)(K:Out->St->DU)(R:DU)(hr:∀i,K .ret ⟨[(1,(.ptr 1 0 0)),(2,(.bool AD)),(32,(.agg [(.i m.b0),(.i m.b1),(.i m.b2)])),(33,(.i i))],[(1,(AA (.box (Md.cs m))))]⟩=AA (.bool AD,[]))
  (hx:K (.exit 0) ⟨[(1,(.ptr 1 0 0)),(2,(.bool AD)),(32,(.agg [(.i m.b0),(.i m.b1),(.i m.b2)])),(33,(.i 3))],[(1,(AA (.box (Md.cs m))))]⟩=R):
  D3 (JZ N) (DS NF [1,1,0,1,0,0]) ⟨[1,2,32,33],[1],[]⟩ 10 ⟨[(1,(.ptr 1 0 0)),(2,(.bool AD)),(32,(.agg [(.i m.b0),(.i m.b1),(.i m.b2)])),(33,(.i 0))],[(1,(AA (.box (Md.cs m))))]⟩ K=
   cond (GR m.c 0 m.b0&&(GR m.c 1 m.b1&&GR m.c 2 m.b2)) R (AA (.bool AD,[])):=by
 have key:∀(n:Nat) (i:Int) (b:Int) (X:DU),(cond (!E4 b) (AA (V.bool AD,[])) (cond (AE (i>=m.c)) (cond (b !=0) (AA (V.bool AD,[])) X) X):DU)=cond (GR m.c i b) X (AA (V.bool AD,[])):=λn i b X=>by
  unfold GR;show(cond (!E4 b) _ (cond (AE (i>=m.c)) (cond (!(b==0)) _ X) X))=_;cases E4 b<;>cases AE (i>=m.c)<;>cases b==0<;>rfl
 have w1:AI AJ (0+1)=1:=rfl;have w2:AI AJ (1+1)=2:=rfl;have w3:AI AJ (2+1)=3:=rfl;rw[show(10:Nat)=9+1 from rfl,D8,oN];rw[show AE ((0:Int)<3)=AC from rfl,DQ,show AE ((0:Int)=ic 0)=AC from rfl,DQ,hr,w1,key 0];rw[show(9:Nat)=8+1 from rfl,D8,oN];rw[show AE ((1:Int)<3)=AC from rfl,DQ,show AE ((1:Int)=ic 0)=AD from rfl,DR,show AE ((1:Int)=ic 1)=AC from rfl,DQ,hr,w2,key 0];rw[show(8:Nat)=7+1 from rfl,D8,oN];rw[show AE ((2:Int)<3)=AC from rfl,DQ,show AE ((2:Int)=ic 0)=AD from rfl,DR,show AE ((2:Int)=ic 1)=AD from rfl,DR,show AE ((2:Int)=ic 2)=AC from rfl,DQ,hr,w3,key 0];rw[show(7:Nat)=6+1 from rfl,D8,oN];rw[show AE ((3:Int)<3)=AD from rfl,DR,hx];cases GR m.c 0 m.b0<;>cases GR m.c 1 m.b1<;>cases GR m.c 2 m.b2<;>rfl
abbrev zf9(m:Md)(i:Int):St:=⟨[(1,(.ptr 1 0 0)),(2,(.bool AD)),(52,(.list AC G7 m.ts)),(53,(.i (ic m.ts.length))),(54,(.i i))],[(1,(AA (.box (Md.cs m))))]⟩
theorem Og(N:Nat)(m:Md)(hm:m.ts.length<=8):∀(d i n:Nat),i+d=m.ts.length->d<n->
  D3 (JZ N) (DS NF [1,1,1,0,1,0,0]) ⟨[1,2,52,53,54],[1],[]⟩ n (zf9 m (i:Int)) (DW 2 (DX (JZ N) (DS NF [1,1,1,1]) (D2 (JZ N) AB [(B7 2)] [[.bool]])))=
   AA (.bool ((m.ts.drop i).all (HH m.d m.c)),[])
 |d,i,0,_,h=>absurd h AG
 |0,i,n+1,hd,_=>by
  have hi:i=m.ts.length:=by omega
  subst hi;rw[D8,Sf,IZ (A4 _),DR,C8];exact iw N m AD _ _ _
 |d+1,i,n+1,hd,hn=>by
  have hi:i<m.ts.length:=by omega
  have ei:AI AJ ((i:Int)+1)=((i+1:Nat):Int):=GM AG;rw[D8,Sf,ei,HY hi,DQ,IM,BR,DQ,IX hi,BJ hi,van];have ih:=Og N m hm d (i+1) n AG AG;unfold HH;cases AE ((m.ts[i].cell 0).toInt<0)with
  |true=>
   rw[DQ];exact rK N m AD _ _ _
  |false=>
   cases AE ((m.ts[i].cell 0).toInt>=m.c)with
   |true=>
    rw[DR,DQ];exact rK N m AD _ _ _
   |false=>
    cases GP (m.ts[i].cell 1).toList m.d with
    |false=>
     rw[DR,DR,BF,DQ];exact rK N m AD _ _ _
    |true=>
     rw[DR,DR,A9,DR];exact ih
theorem Pq:D6 PR B0 75 XC:=by
 refine EF [(134,S8),(135,eH)] [(4,⟨[1,2,32,33],[1],[]⟩),(10,⟨[1,2,52,53,54],[1],[]⟩)] XC [[.bool]] Tryz.func75 pq ⟨wQ,zd4,trivial⟩ ?_;intro vs r hwf h;unfold XC at h;split at h
 .rename_i m;replace h:=II h;obtain⟨m,rfl,h⟩:=h;rw[R.get_ok]at h;refine⟨10,(yu 10 m).trans ?_⟩;rw[<-h];unfold EU;cases AE (m.d<1)with
  |true=>rfl
  |false=>
   cases AE (m.d>4)with
   |true=>rfl
   |false=>
    cases AE (m.c<1)with
    |true=>rfl
    |false=>
     cases AE (m.c>3)with
     |true=>rfl
     |false=>
      rw[DR,DR,DR,DR];by_cases h8:m.ts.length<=8
      .rw[AS (show¬ic m.ts.length>8 by simp only[ic];omega),DR,CV h8];refine(zdf 10 m _ (AA (.bool (m.ts.all (HH m.d m.c)),[])) (λi=>iv 10 m AD _ _ _ i) ?_).trans ?_
       .refine(it 10 m AD _ _ _ 3).trans ?_;exact Og 10 m h8 m.ts.length 0 10 AG AG
       .cases(GR m.c 0 m.b0&&(GR m.c 1 m.b1&&GR m.c 2 m.b2))<;>rfl
      .have e:CG m.ts.length 8=AD:=by
        cases hb:CG m.ts.length 8 with
        |false=>rfl
        |true=>exact absurd (AX hb) h8
       rw[AL (show ic m.ts.length>8 by simp only[ic];omega),DQ,e];rfl
 .simp[R.get]at h
abbrev zgb(ts:LI)(p:Pt)(k s i:Int):St:=
 ⟨[(1,(.i k)),(5,(.ptr 5 0 0)),(6,(.i 0)),(7,(.i s)),(28,(.list AC G7 ts)),(29,(.i (ic (AN ts)))),(30,(.i i))],[(5,(AA (.box (Pt.cs p))))]⟩
theorem vY(N:Nat)(ts:LI)(p:Pt)(k:Int)(hts:ts.length<=8):∀(m i n:Nat) (s:Int),i+m=ts.length->m<n-> -2147483648*(i+1)<=s/\s<=2147483648*(i+1)->
  D3 (MH N) (DS P2 [1,1,1,0,1,0,0]) ⟨[1,5,6,7,28,29,30],[5],[]⟩ n (zgb ts p k s (i:Int)) (DW 0 (DX (MH N) (DS P2 [1,1,1,1]) (D2 (MH N) AB [(B7 6)] [[.z]])))=
   AA (.i (PA k p (ts.drop i) s),[])
 |m,i,0,s,_,h,_=>absurd h AG
 |0,i,n+1,s,hd,_,_=>by
  have hi:i=ts.length:=by omega
  subst hi;rw[D8,Se,IZ (A4 _),DR,C8];exact ir N p _ _ _ _ _ _
 |m+1,i,n+1,s,hd,hn,hs=>by
  have hi:i<ts.length:=by omega
  have ei:AI AJ ((i:Int)+1)=((i+1:Nat):Int):=GM AG;rw[D8,Se,ei,HY hi,DQ,IM,BR,DQ,IX hi,BJ hi,PA];have hv:=Uy (E3 ts[i]) p;cases hc:((ts[i].cell 0).toInt==k)with
  |true=>
   rw[DQ,DQ];have ew:AI AJ (s+GW (E3 ts[i]) p)=s+GW (E3 ts[i]) p:=ER AG AG;have ih:=vY N ts p k hts m (i+1) n (s+GW (E3 ts[i]) p) AG AG AG;rw[<-ew]at ih;refine Eq.trans ih ?_;rw[ew]
  |false=>
   rw[DR,DR];exact vY N ts p k hts m (i+1) n s AG AG AG
theorem zd3:D6 PR B0 143 eG:=by
 refine EF [(75,XC),(190,eJ)] [(5,⟨[1,5,6,7,28,29,30],[5],[]⟩)] eG [[.z]] Tryz.func143 po ⟨Pq,zd5,trivial⟩ ?_;intro vs r hwf h;unfold eG at h;split at h
 .rename_i m k p;replace h:=II h;obtain⟨m,rfl,h⟩:=h;replace h:=RN h;obtain⟨p,rfl,h⟩:=h;rw[R.get_ok]at h;refine⟨10,(yr 10 m k p).trans ?_⟩;rw[<-h];unfold D1;cases hm:EU m with
  |false=>rfl
  |true=>
   rw[A9,DR,BI];cases h0:AE (k<0)with
   |true=>
    have:HQ m k=AD:=by unfold HQ;rw[AS (show¬ 0<=k by have:=BB h0;omega)];rfl
    rw[this];rfl
   |false=>
    have h0:=BM h0;cases h1:AE (k>=m.c)with
    |true=>
     have:HQ m k=AD:=by unfold HQ;rw[AS (show¬k<m.c by have:=BB h1;omega),DE]
     rw[this];rfl
    |false=>
     have h1:=BM h1;have hk:HQ m k=AC:=by unfold HQ;rw[AL (show 0<=k by omega),AL (show k<m.c by omega)];rfl
     have hb:=gO hm k;have run:=vY 10 m.ts p k (KC hm).2.2.1 m.ts.length 0 10 (L0 m k) AG (by have:=(KC hm).2.2.1;omega) AG;rw[hk,DR,DR];rcases lC hm hk with rfl|rfl|rfl<;>exact run
 .simp[R.get]at h
open Go
open Go Go.Proofs
open Go Go.Proofs
def Xy(N:Nat):Env:=EE [] [] 16 N
theorem zaq(N:Nat)(u01:Bool)(u00 s_At:Int):EA (Xy N) Cj [.tmp 2] [[.bool]] [.agg [.bool u01,.i u00,.i s_At]]=(cond u01 (AA (.bool (u01==AC&&(u00==0&&(s_At==0&&AC))),[])) (cond (AE (u00>=0)) (AA (.bool (AE (u00<=4)),[])) (AA (.bool AD,[])))):=AF
def Xx(N:Nat):Env:=EE [(211,fP)] [] 6 N
theorem zao(N:Nat)(l:LI):EA (Xx N) Ci [.tmp 2] [[.bool]] [.list AC [.bool,.z,.z] l]=(AA (.bool (AE (MP l>0)),[])):=AF
def Wi(N:Nat):Env:=EE [(127,XM)] [(2,⟨[2,3,6,9,10],[3],[]⟩)] 25 N
open Go Go.Proofs
def RY(N:Nat):Env:=EE [(244,fQ)] [(5,⟨[2,3,4,10,11,12],[],[]⟩)] 40 N
abbrev SY(x2 x3 x4:Int)(l10:LI)(x11 x12:Int):St:=⟨[(2,(.i x2)),(3,(.i x3)),(4,(.i x4)),(10,(.list AC EO l10)),(11,(.i x11)),(12,(.i x12))],[]⟩
theorem zap(N:Nat)(l:LI):EA (RY N) VJ [.tmp 2] [[.z]] [.list AC [.bool,.z,.z] l]=(cond (AE (ic (AN l)>65536)) (AA (.i 0,[])) (D3 (RY N) (DS VJ [1,1,1,0,1,0,0]) ⟨[2,3,4,10,11,12],[],[]⟩ N (SY 0 1 1 l (ic (AN l)) 0) (DW 0 (DX (RY N) (DS VJ [1,1,1,1]) (D2 (RY N) AB [.tmp 2] [[.z]]))))):=AF
theorem Su(N:Nat)(x2 x3 x4:Int)(l10:LI)(x11 x12:Int)(again:St->DU)(k:Out->St->DU):EY (RY N) (DS VJ [1,1,1,0,1,0,0]) (SY x2 x3 x4 l10 x11 x12) (ES again ⟨[2,3,4,10,11,12],[],[]⟩ k)=(cond (AE (x12<x11)) (cond (AE (0<=x12)&&AE (x12<ic (AN l10))) (cond (x3==0) (k .ret (SY 0 x3 x4 l10 x11 x12)) (cond (!K8 (OP (IV.toBool (IV.cell (AR l10 (AM x12) default) 0)) (IV.toInt (IV.cell (AR l10 (AM x12) default) 1)) (IV.toInt (IV.cell (AR l10 (AM x12) default) 2)))) (k .ret (SY 0 x3 x4 l10 x11 x12)) (cond (IV.toBool (IV.cell (AR l10 (AM x12) default) 0)) (again (SY x2 (AI AJ (x3-1)) x4 l10 x11 (AI AJ (x12+1)))) (again (SY x2 (AI AJ (x3+1)) (max x4 (AI AJ (x3+1))) l10 x11 (AI AJ (x12+1))))))) AB) (k (.exit 0) (SY x2 x3 x4 l10 x11 x12))):=AF
theorem jn(N:Nat)(x2 x3 x4:Int)(l10:LI)(x11 x12:Int):(DW 0 (DX (RY N) (DS VJ [1,1,1,1]) (D2 (RY N) AB [.tmp 2] [[.z]]))) (.exit 0) (SY x2 x3 x4 l10 x11 x12)=(cond (x3 !=0) (AA (.i 0,[])) (cond (AE (x4>200)) (AA (.i 0,[])) (AA (.i x4,[])))):=AF
theorem jo(N:Nat)(x2 x3 x4:Int)(l10:LI)(x11 x12:Int):(DW 0 (DX (RY N) (DS VJ [1,1,1,1]) (D2 (RY N) AB [.tmp 2] [[.z]]))) .ret (SY x2 x3 x4 l10 x11 x12)=(AA (.i x2,[])):=AF
def HB(N:Nat):Env:=EE [(174,LX),(212,dS),(49,M9)] [(5,⟨[1,5,6,7,8,9,40,41,42],[5],[]⟩)] 66 N
abbrev N5(a2:Bx)(x1 x6 x7 x8 x9:Int)(l40:LI)(x41 x42:Int):St:=⟨[(1,(.i x1)),(5,(.ptr 5 0 0)),(6,(.i x6)),(7,(.i x7)),(8,(.i x8)),(9,(.i x9)),(40,(.list AC G7 l40)),(41,(.i x41)),(42,(.i x42))],[(5,(AA (.box (Bx.cs a2))))]⟩
theorem xu(N:Nat)(m:Md)(a1:Int)(a2:Bx):EA (HB N) JD [.tmp 6,.tmp 7] [[.z],[.z]] [(Md.V m),.i a1,(Bx.V a2)]=(cond (!EU m) (AA (.tup [.i 0,.i 0],[])) (cond (AE (a1<0)) (AA (.tup [.i 0,.i 0],[])) (cond (AE (a1>=Md.c m)) (AA (.tup [.i 0,.i 0],[])) (cond (Bx.emp a2) (AA (.tup [.i 0,.i 0],[])) (cond (AE (a1=ic 0)) (cond (AE (a1=ic 0)) (D3 (HB N) (DS JD [1,1,1,0,1,0,0]) ⟨[1,5,6,7,8,9,40,41,42],[5],[]⟩ N (N5 a2 a1 0 0 (Md.b0 m) (Md.b0 m) (Md.ts m) (ic (AN (Md.ts m))) 0) (DW 0 (DX (HB N) (DS JD [1,1,1,1]) (D2 (HB N) AB [.tmp 6,.tmp 7] [[.z],[.z]])))) (cond (AE (a1=ic 1)) (D3 (HB N) (DS JD [1,1,1,0,1,0,0]) ⟨[1,5,6,7,8,9,40,41,42],[5],[]⟩ N (N5 a2 a1 0 0 (Md.b0 m) (Md.b1 m) (Md.ts m) (ic (AN (Md.ts m))) 0) (DW 0 (DX (HB N) (DS JD [1,1,1,1]) (D2 (HB N) AB [.tmp 6,.tmp 7] [[.z],[.z]])))) (cond (AE (a1=ic 2)) (D3 (HB N) (DS JD [1,1,1,0,1,0,0]) ⟨[1,5,6,7,8,9,40,41,42],[5],[]⟩ N (N5 a2 a1 0 0 (Md.b0 m) (Md.b2 m) (Md.ts m) (ic (AN (Md.ts m))) 0) (DW 0 (DX (HB N) (DS JD [1,1,1,1]) (D2 (HB N) AB [.tmp 6,.tmp 7] [[.z],[.z]])))) AB))) (cond (AE (a1=ic 1)) (cond (AE (a1=ic 0)) (D3 (HB N) (DS JD [1,1,1,0,1,0,0]) ⟨[1,5,6,7,8,9,40,41,42],[5],[]⟩ N (N5 a2 a1 0 0 (Md.b1 m) (Md.b0 m) (Md.ts m) (ic (AN (Md.ts m))) 0) (DW 0 (DX (HB N) (DS JD [1,1,1,1]) (D2 (HB N) AB [.tmp 6,.tmp 7] [[.z],[.z]])))) (cond (AE (a1=ic 1)) (D3 (HB N) (DS JD [1,1,1,0,1,0,0]) ⟨[1,5,6,7,8,9,40,41,42],[5],[]⟩ N (N5 a2 a1 0 0 (Md.b1 m) (Md.b1 m) (Md.ts m) (ic (AN (Md.ts m))) 0) (DW 0 (DX (HB N) (DS JD [1,1,1,1]) (D2 (HB N) AB [.tmp 6,.tmp 7] [[.z],[.z]])))) (cond (AE (a1=ic 2)) (D3 (HB N) (DS JD [1,1,1,0,1,0,0]) ⟨[1,5,6,7,8,9,40,41,42],[5],[]⟩ N (N5 a2 a1 0 0 (Md.b1 m) (Md.b2 m) (Md.ts m) (ic (AN (Md.ts m))) 0) (DW 0 (DX (HB N) (DS JD [1,1,1,1]) (D2 (HB N) AB [.tmp 6,.tmp 7] [[.z],[.z]])))) AB))) (cond (AE (a1=ic 2)) (cond (AE (a1=ic 0)) (D3 (HB N) (DS JD [1,1,1,0,1,0,0]) ⟨[1,5,6,7,8,9,40,41,42],[5],[]⟩ N (N5 a2 a1 0 0 (Md.b2 m) (Md.b0 m) (Md.ts m) (ic (AN (Md.ts m))) 0) (DW 0 (DX (HB N) (DS JD [1,1,1,1]) (D2 (HB N) AB [.tmp 6,.tmp 7] [[.z],[.z]])))) (cond (AE (a1=ic 1)) (D3 (HB N) (DS JD [1,1,1,0,1,0,0]) ⟨[1,5,6,7,8,9,40,41,42],[5],[]⟩ N (N5 a2 a1 0 0 (Md.b2 m) (Md.b1 m) (Md.ts m) (ic (AN (Md.ts m))) 0) (DW 0 (DX (HB N) (DS JD [1,1,1,1]) (D2 (HB N) AB [.tmp 6,.tmp 7] [[.z],[.z]])))) (cond (AE (a1=ic 2)) (D3 (HB N) (DS JD [1,1,1,0,1,0,0]) ⟨[1,5,6,7,8,9,40,41,42],[5],[]⟩ N (N5 a2 a1 0 0 (Md.b2 m) (Md.b2 m) (Md.ts m) (ic (AN (Md.ts m))) 0) (DW 0 (DX (HB N) (DS JD [1,1,1,1]) (D2 (HB N) AB [.tmp 6,.tmp 7] [[.z],[.z]])))) AB))) AB))))))):=AF
theorem Rv(N:Nat)(a2:Bx)(x1 x6 x7 x8 x9:Int)(l40:LI)(x41 x42:Int)(again:St->DU)(k:Out->St->DU):EY (HB N) (DS JD [1,1,1,0,1,0,0]) (N5 a2 x1 x6 x7 x8 x9 l40 x41 x42) (ES again ⟨[1,5,6,7,8,9,40,41,42],[5],[]⟩ k)=(cond (AE (x42<x41)) (cond (AE (0<=x42)&&AE (x42<ic (AN l40))) (cond (IV.toInt (IV.cell (AR l40 (AM x42) default) 0)==x1) (cond (GP (IV.toList (IV.cell (AR l40 (AM x42) default) 1)) 4&&goodB a2) (again (N5 a2 x1 x6 x7 (AI AJ (x8+IT (IV.toList (IV.cell (AR l40 (AM x42) default) 1)) a2)) (AI AJ (x9+IS (IV.toList (IV.cell (AR l40 (AM x42) default) 1)) a2)) l40 x41 (AI AJ (x42+1)))) AB) (again (N5 a2 x1 x6 x7 x8 x9 l40 x41 (AI AJ (x42+1))))) AB) (k (.exit 0) (N5 a2 x1 x6 x7 x8 x9 l40 x41 x42))):=AF
theorem gw(N:Nat)(a2:Bx)(x1 x6 x7 x8 x9:Int)(l40:LI)(x41 x42:Int):(DW 0 (DX (HB N) (DS JD [1,1,1,1]) (D2 (HB N) AB [.tmp 6,.tmp 7] [[.z],[.z]]))) (.exit 0) (N5 a2 x1 x6 x7 x8 x9 l40 x41 x42)=(AA (.tup [.i x8,.i x9],[])):=AF
def MF(N:Nat):Env:=EE [(174,LX),(175,dR)] [(9,⟨[3,4,5,6,7,42,43],[3,4,5],[]⟩)] 94 N
abbrev UQ(m:Md)(a1:Qy)(a2:Bx)(b6:Bool)(x7 x42 x43:Int):St:=⟨[(3,(.ptr 3 0 0)),(4,(.ptr 4 0 0)),(5,(.ptr 5 0 0)),(6,(.bool b6)),(7,(.i x7)),(42,(.i x42)),(43,(.i x43))],[(3,(AA (.box (Md.cs m)))),(4,(AA (.box (Qy.cs a1)))),(5,(AA (.box (Bx.cs a2))))]⟩
theorem xw(N:Nat)(m:Md)(a1:Qy)(a2:Bx):EA (MF N) OZ [.tmp 6] [[.bool]] [(Md.V m),(Qy.V a1),(Bx.V a2)]=(cond (Bx.emp a2) (AA (.bool AC,[])) (cond (Bx.emp a2||goodB a2) (cond (Qy.k a1==1) (cond (AE (Qy.lo a1<=EK m (Qy.c a1) a2)) (AA (.bool (AE (EI m (Qy.c a1) a2<=Qy.hi a1)),[])) (AA (.bool AD,[]))) (cond (Qy.k a1==2) (D3 (MF N) (DS OZ [1,1,1,0,1,0,1,1,1,0,0,1,0,0]) ⟨[3,4,5,6,7,42,43],[3,4,5],[]⟩ N (UQ m a1 a2 AD (EK m (Qy.c a1) a2) (Md.c m) 0) (DW 1 (DX (MF N) (DS OZ [1,1,1,0,1,0,1,1,1,0,1]) (DW 0 (DX (MF N) (DS OZ [1,1,1,1]) (D2 (MF N) AB [.tmp 6] [[.bool]])))))) (cond (AE (Qy.ft a1=ic 0)) (cond (AE (Sp.lo (Bx.s0 a2)>=Sp.hi (Bx.s4 a2))) (AA (.bool AC,[])) (cond (AE (Qy.ft a1=ic 0)) (cond (Bx.emp {a2 with s0:=(Bx.s4 a2)}||goodB {a2 with s0:=(Bx.s4 a2)}) (cond (Qy.fl a1) (AA ((.bool (AE (EI m (Qy.c a1) {a2 with s0:=(Bx.s4 a2)}<=EK m (Qy.c a1) a2))),[])) (AA ((.bool (AE (EK m (Qy.c a1) {a2 with s0:=(Bx.s4 a2)}>=EI m (Qy.c a1) a2))),[]))) AB) (cond (AE (Qy.ft a1=ic 1)) (cond (Bx.emp {a2 with s1:=(Bx.s4 a2)}||goodB {a2 with s1:=(Bx.s4 a2)}) (cond (Qy.fl a1) (AA ((.bool (AE (EI m (Qy.c a1) {a2 with s1:=(Bx.s4 a2)}<=EK m (Qy.c a1) a2))),[])) (AA ((.bool (AE (EK m (Qy.c a1) {a2 with s1:=(Bx.s4 a2)}>=EI m (Qy.c a1) a2))),[]))) AB) (cond (AE (Qy.ft a1=ic 2)) (cond (Bx.emp {a2 with s2:=(Bx.s4 a2)}||goodB {a2 with s2:=(Bx.s4 a2)}) (cond (Qy.fl a1) (AA ((.bool (AE (EI m (Qy.c a1) {a2 with s2:=(Bx.s4 a2)}<=EK m (Qy.c a1) a2))),[])) (AA ((.bool (AE (EK m (Qy.c a1) {a2 with s2:=(Bx.s4 a2)}>=EI m (Qy.c a1) a2))),[]))) AB) (cond (AE (Qy.ft a1=ic 3)) (cond (Bx.emp {a2 with s3:=(Bx.s4 a2)}||goodB {a2 with s3:=(Bx.s4 a2)}) (cond (Qy.fl a1) (AA ((.bool (AE (EI m (Qy.c a1) {a2 with s3:=(Bx.s4 a2)}<=EK m (Qy.c a1) a2))),[])) (AA ((.bool (AE (EK m (Qy.c a1) {a2 with s3:=(Bx.s4 a2)}>=EI m (Qy.c a1) a2))),[]))) AB) (cond (AE (Qy.ft a1=ic 4)) (cond (Bx.emp a2||goodB a2) (cond (Qy.fl a1) (AA (.bool (AE (EI m (Qy.c a1) a2<=EK m (Qy.c a1) a2)),[])) (AA (.bool (AE (EK m (Qy.c a1) a2>=EI m (Qy.c a1) a2)),[]))) AB) AB)))))) (cond (AE (Qy.ft a1=ic 1)) (cond (AE (Sp.lo (Bx.s1 a2)>=Sp.hi (Bx.s4 a2))) (AA (.bool AC,[])) (cond (AE (Qy.ft a1=ic 0)) (cond (Bx.emp {a2 with s0:=(Bx.s4 a2)}||goodB {a2 with s0:=(Bx.s4 a2)}) (cond (Qy.fl a1) (AA ((.bool (AE (EI m (Qy.c a1) {a2 with s0:=(Bx.s4 a2)}<=EK m (Qy.c a1) a2))),[])) (AA ((.bool (AE (EK m (Qy.c a1) {a2 with s0:=(Bx.s4 a2)}>=EI m (Qy.c a1) a2))),[]))) AB) (cond (AE (Qy.ft a1=ic 1)) (cond (Bx.emp {a2 with s1:=(Bx.s4 a2)}||goodB {a2 with s1:=(Bx.s4 a2)}) (cond (Qy.fl a1) (AA ((.bool (AE (EI m (Qy.c a1) {a2 with s1:=(Bx.s4 a2)}<=EK m (Qy.c a1) a2))),[])) (AA ((.bool (AE (EK m (Qy.c a1) {a2 with s1:=(Bx.s4 a2)}>=EI m (Qy.c a1) a2))),[]))) AB) (cond (AE (Qy.ft a1=ic 2)) (cond (Bx.emp {a2 with s2:=(Bx.s4 a2)}||goodB {a2 with s2:=(Bx.s4 a2)}) (cond (Qy.fl a1) (AA ((.bool (AE (EI m (Qy.c a1) {a2 with s2:=(Bx.s4 a2)}<=EK m (Qy.c a1) a2))),[])) (AA ((.bool (AE (EK m (Qy.c a1) {a2 with s2:=(Bx.s4 a2)}>=EI m (Qy.c a1) a2))),[]))) AB) (cond (AE (Qy.ft a1=ic 3)) (cond (Bx.emp {a2 with s3:=(Bx.s4 a2)}||goodB {a2 with s3:=(Bx.s4 a2)}) (cond (Qy.fl a1) (AA ((.bool (AE (EI m (Qy.c a1) {a2 with s3:=(Bx.s4 a2)}<=EK m (Qy.c a1) a2))),[])) (AA ((.bool (AE (EK m (Qy.c a1) {a2 with s3:=(Bx.s4 a2)}>=EI m (Qy.c a1) a2))),[]))) AB) (cond (AE (Qy.ft a1=ic 4)) (cond (Bx.emp a2||goodB a2) (cond (Qy.fl a1) (AA (.bool (AE (EI m (Qy.c a1) a2<=EK m (Qy.c a1) a2)),[])) (AA (.bool (AE (EK m (Qy.c a1) a2>=EI m (Qy.c a1) a2)),[]))) AB) AB)))))) (cond (AE (Qy.ft a1=ic 2)) (cond (AE (Sp.lo (Bx.s2 a2)>=Sp.hi (Bx.s4 a2))) (AA (.bool AC,[])) (cond (AE (Qy.ft a1=ic 0)) (cond (Bx.emp {a2 with s0:=(Bx.s4 a2)}||goodB {a2 with s0:=(Bx.s4 a2)}) (cond (Qy.fl a1) (AA ((.bool (AE (EI m (Qy.c a1) {a2 with s0:=(Bx.s4 a2)}<=EK m (Qy.c a1) a2))),[])) (AA ((.bool (AE (EK m (Qy.c a1) {a2 with s0:=(Bx.s4 a2)}>=EI m (Qy.c a1) a2))),[]))) AB) (cond (AE (Qy.ft a1=ic 1)) (cond (Bx.emp {a2 with s1:=(Bx.s4 a2)}||goodB {a2 with s1:=(Bx.s4 a2)}) (cond (Qy.fl a1) (AA ((.bool (AE (EI m (Qy.c a1) {a2 with s1:=(Bx.s4 a2)}<=EK m (Qy.c a1) a2))),[])) (AA ((.bool (AE (EK m (Qy.c a1) {a2 with s1:=(Bx.s4 a2)}>=EI m (Qy.c a1) a2))),[]))) AB) (cond (AE (Qy.ft a1=ic 2)) (cond (Bx.emp {a2 with s2:=(Bx.s4 a2)}||goodB {a2 with s2:=(Bx.s4 a2)}) (cond (Qy.fl a1) (AA ((.bool (AE (EI m (Qy.c a1) {a2 with s2:=(Bx.s4 a2)}<=EK m (Qy.c a1) a2))),[])) (AA ((.bool (AE (EK m (Qy.c a1) {a2 with s2:=(Bx.s4 a2)}>=EI m (Qy.c a1) a2))),[]))) AB) (cond (AE (Qy.ft a1=ic 3)) (cond (Bx.emp {a2 with s3:=(Bx.s4 a2)}||goodB {a2 with s3:=(Bx.s4 a2)}) (cond (Qy.fl a1) (AA ((.bool (AE (EI m (Qy.c a1) {a2 with s3:=(Bx.s4 a2)}<=EK m (Qy.c a1) a2))),[])) (AA ((.bool (AE (EK m (Qy.c a1) {a2 with s3:=(Bx.s4 a2)}>=EI m (Qy.c a1) a2))),[]))) AB) (cond (AE (Qy.ft a1=ic 4)) (cond (Bx.emp a2||goodB a2) (cond (Qy.fl a1) (AA (.bool (AE (EI m (Qy.c a1) a2<=EK m (Qy.c a1) a2)),[])) (AA (.bool (AE (EK m (Qy.c a1) a2>=EI m (Qy.c a1) a2)),[]))) AB) AB)))))) (cond (AE (Qy.ft a1=ic 3)) (cond (AE (Sp.lo (Bx.s3 a2)>=Sp.hi (Bx.s4 a2))) (AA (.bool AC,[])) (cond (AE (Qy.ft a1=ic 0)) (cond (Bx.emp {a2 with s0:=(Bx.s4 a2)}||goodB {a2 with s0:=(Bx.s4 a2)}) (cond (Qy.fl a1) (AA ((.bool (AE (EI m (Qy.c a1) {a2 with s0:=(Bx.s4 a2)}<=EK m (Qy.c a1) a2))),[])) (AA ((.bool (AE (EK m (Qy.c a1) {a2 with s0:=(Bx.s4 a2)}>=EI m (Qy.c a1) a2))),[]))) AB) (cond (AE (Qy.ft a1=ic 1)) (cond (Bx.emp {a2 with s1:=(Bx.s4 a2)}||goodB {a2 with s1:=(Bx.s4 a2)}) (cond (Qy.fl a1) (AA ((.bool (AE (EI m (Qy.c a1) {a2 with s1:=(Bx.s4 a2)}<=EK m (Qy.c a1) a2))),[])) (AA ((.bool (AE (EK m (Qy.c a1) {a2 with s1:=(Bx.s4 a2)}>=EI m (Qy.c a1) a2))),[]))) AB) (cond (AE (Qy.ft a1=ic 2)) (cond (Bx.emp {a2 with s2:=(Bx.s4 a2)}||goodB {a2 with s2:=(Bx.s4 a2)}) (cond (Qy.fl a1) (AA ((.bool (AE (EI m (Qy.c a1) {a2 with s2:=(Bx.s4 a2)}<=EK m (Qy.c a1) a2))),[])) (AA ((.bool (AE (EK m (Qy.c a1) {a2 with s2:=(Bx.s4 a2)}>=EI m (Qy.c a1) a2))),[]))) AB) (cond (AE (Qy.ft a1=ic 3)) (cond (Bx.emp {a2 with s3:=(Bx.s4 a2)}||goodB {a2 with s3:=(Bx.s4 a2)}) (cond (Qy.fl a1) (AA ((.bool (AE (EI m (Qy.c a1) {a2 with s3:=(Bx.s4 a2)}<=EK m (Qy.c a1) a2))),[])) (AA ((.bool (AE (EK m (Qy.c a1) {a2 with s3:=(Bx.s4 a2)}>=EI m (Qy.c a1) a2))),[]))) AB) (cond (AE (Qy.ft a1=ic 4)) (cond (Bx.emp a2||goodB a2) (cond (Qy.fl a1) (AA (.bool (AE (EI m (Qy.c a1) a2<=EK m (Qy.c a1) a2)),[])) (AA (.bool (AE (EK m (Qy.c a1) a2>=EI m (Qy.c a1) a2)),[]))) AB) AB)))))) (cond (AE (Qy.ft a1=ic 4)) (cond (AE (Sp.lo (Bx.s4 a2)>=Sp.hi (Bx.s4 a2))) (AA (.bool AC,[])) (cond (AE (Qy.ft a1=ic 0)) (cond (Bx.emp {a2 with s0:=(Bx.s4 a2)}||goodB {a2 with s0:=(Bx.s4 a2)}) (cond (Qy.fl a1) (AA ((.bool (AE (EI m (Qy.c a1) {a2 with s0:=(Bx.s4 a2)}<=EK m (Qy.c a1) a2))),[])) (AA ((.bool (AE (EK m (Qy.c a1) {a2 with s0:=(Bx.s4 a2)}>=EI m (Qy.c a1) a2))),[]))) AB) (cond (AE (Qy.ft a1=ic 1)) (cond (Bx.emp {a2 with s1:=(Bx.s4 a2)}||goodB {a2 with s1:=(Bx.s4 a2)}) (cond (Qy.fl a1) (AA ((.bool (AE (EI m (Qy.c a1) {a2 with s1:=(Bx.s4 a2)}<=EK m (Qy.c a1) a2))),[])) (AA ((.bool (AE (EK m (Qy.c a1) {a2 with s1:=(Bx.s4 a2)}>=EI m (Qy.c a1) a2))),[]))) AB) (cond (AE (Qy.ft a1=ic 2)) (cond (Bx.emp {a2 with s2:=(Bx.s4 a2)}||goodB {a2 with s2:=(Bx.s4 a2)}) (cond (Qy.fl a1) (AA ((.bool (AE (EI m (Qy.c a1) {a2 with s2:=(Bx.s4 a2)}<=EK m (Qy.c a1) a2))),[])) (AA ((.bool (AE (EK m (Qy.c a1) {a2 with s2:=(Bx.s4 a2)}>=EI m (Qy.c a1) a2))),[]))) AB) (cond (AE (Qy.ft a1=ic 3)) (cond (Bx.emp {a2 with s3:=(Bx.s4 a2)}||goodB {a2 with s3:=(Bx.s4 a2)}) (cond (Qy.fl a1) (AA ((.bool (AE (EI m (Qy.c a1) {a2 with s3:=(Bx.s4 a2)}<=EK m (Qy.c a1) a2))),[])) (AA ((.bool (AE (EK m (Qy.c a1) {a2 with s3:=(Bx.s4 a2)}>=EI m (Qy.c a1) a2))),[]))) AB) (cond (AE (Qy.ft a1=ic 4)) (cond (Bx.emp a2||goodB a2) (cond (Qy.fl a1) (AA (.bool (AE (EI m (Qy.c a1) a2<=EK m (Qy.c a1) a2)),[])) (AA (.bool (AE (EK m (Qy.c a1) a2>=EI m (Qy.c a1) a2)),[]))) AB) AB)))))) AB))))))) AB)):=AF
theorem Rw(N:Nat)(m:Md)(a1:Qy)(a2:Bx)(b6:Bool)(x7 x42 x43:Int)(again:St->DU)(k:Out->St->DU):EY (MF N) (DS OZ [1,1,1,0,1,0,1,1,1,0,0,1,0,0]) (UQ m a1 a2 b6 x7 x42 x43) (ES again ⟨[3,4,5,6,7,42,43],[3,4,5],[]⟩ k)=(cond (AE (x43<x42)) (cond (Bx.emp a2||goodB a2) (cond (x43 !=Qy.c a1) (cond (AE (EI m x43 a2>=x7)) (k .ret (UQ m a1 a2 AD x7 x42 x43)) (again (UQ m a1 a2 b6 x7 x42 (AI AJ (x43+1))))) (again (UQ m a1 a2 b6 x7 x42 (AI AJ (x43+1))))) AB) (k (.exit 1) (UQ m a1 a2 b6 x7 x42 x43))):=AF
theorem gx(N:Nat)(m:Md)(a1:Qy)(a2:Bx)(b6:Bool)(x7 x42 x43:Int):(DW 1 (DX (MF N) (DS OZ [1,1,1,0,1,0,1,1,1,0,1]) (DW 0 (DX (MF N) (DS OZ [1,1,1,1]) (D2 (MF N) AB [.tmp 6] [[.bool]]))))) (.exit 1) (UQ m a1 a2 b6 x7 x42 x43)=(AA (.bool AC,[])):=AF
theorem gy(N:Nat)(m:Md)(a1:Qy)(a2:Bx)(b6:Bool)(x7 x42 x43:Int):(DW 1 (DX (MF N) (DS OZ [1,1,1,0,1,0,1,1,1,0,1]) (DW 0 (DX (MF N) (DS OZ [1,1,1,1]) (D2 (MF N) AB [.tmp 6] [[.bool]]))))) .ret (UQ m a1 a2 b6 x7 x42 x43)=(AA (.bool b6,[])):=AF
def KI(N:Nat):Env:=EE [(119,dJ),(118,dT),(117,fO),(62,XI),(93,NB),(38,XJ)] [(8,⟨[3,4,6,9,29,30,31],[3,4],[]⟩)] 59 N
abbrev UP(m:Md)(q:Qy)(b6 b9:Bool)(l29:LI)(x30 x31:Int):St:=⟨[(3,(.ptr 3 0 0)),(4,(.ptr 4 0 0)),(6,(.bool b6)),(9,(.bool b9)),(29,(.list AC ET l29)),(30,(.i x30)),(31,(.i x31))],[(3,(AA (.box (Md.cs m)))),(4,(AA (.box (Qy.cs q))))]⟩
theorem xt(N:Nat)(m:Md)(q:Qy)(v:Vd):EA (KI N) MM [.tmp 6] [[.bool]] [(Md.V m),(Qy.V q),(Vd.V v)]=(cond (!E8 m q) (AA (.bool AD,[])) (cond (Vd.kind v==1) (cond (Option.isSome (LQ (FG q) (Vd.proof v))) (D3 (KI N) (DS MM [1,1,1,0,1,0,1,0,1,0,1,0,0]) ⟨[3,4,6,9,29,30,31],[3,4],[]⟩ N (UP m q AD AC (vbq (LQ (FG q) (Vd.proof v)) []) (ic (AN (vbq (LQ (FG q) (Vd.proof v)) []))) 0) (DW 1 (DX (KI N) (DS MM [1,1,1,0,1,0,1,0,1,1]) (DW 0 (DX (KI N) (DS MM [1,1,1,1]) (D2 (KI N) AB [.tmp 6] [[.bool]])))))) (D3 (KI N) (DS MM [1,1,1,0,1,0,1,0,1,0,1,0,0]) ⟨[3,4,6,9,29,30,31],[3,4],[]⟩ N (UP m q AD AD [] (ic 0) 0) (DW 1 (DX (KI N) (DS MM [1,1,1,0,1,0,1,0,1,1]) (DW 0 (DX (KI N) (DS MM [1,1,1,1]) (D2 (KI N) AB [.tmp 6] [[.bool]]))))))) (cond (Vd.kind v==2) (cond (Bx.has (FG q) {p0:=Vd.w0 v,p1:=Vd.w1 v,p2:=Vd.w2 v,p3:=Vd.w3 v} (Vd.twin v)) (AA ((.bool (GH m q {p0:=Vd.w0 v,p1:=Vd.w1 v,p2:=Vd.w2 v,p3:=Vd.w3 v} (Vd.twin v))),[])) (AA (.bool AD,[]))) (AA (.bool AD,[]))))):=AF
theorem xF(N:Nat)(m:Md)(q:Qy)(b6 b9:Bool)(l29:LI)(x30 x31:Int)(again:St->DU)(k:Out->St->DU):EY (KI N) (DS MM [1,1,1,0,1,0,1,0,1,0,1,0,0]) (UP m q b6 b9 l29 x30 x31) (ES again ⟨[3,4,6,9,29,30,31],[3,4],[]⟩ k)=(cond (AE (x31<x30)) (cond (AE (0<=x31)&&AE (x31<ic (AN l29))) (cond (E8 m q&&(Bx.emp (EG (AR l29 (AM x31) default))||goodB (EG (AR l29 (AM x31) default)))) (cond (!G4 m q (EG (AR l29 (AM x31) default))) (k .ret (UP m q AD b9 l29 x30 x31)) (again (UP m q b6 b9 l29 x30 (AI AJ (x31+1))))) AB) AB) (k (.exit 1) (UP m q b6 b9 l29 x30 x31))):=AF
theorem Fo(N:Nat)(m:Md)(q:Qy)(b6 b9:Bool)(l29:LI)(x30 x31:Int):(DW 1 (DX (KI N) (DS MM [1,1,1,0,1,0,1,0,1,1]) (DW 0 (DX (KI N) (DS MM [1,1,1,1]) (D2 (KI N) AB [.tmp 6] [[.bool]]))))) (.exit 1) (UP m q b6 b9 l29 x30 x31)=(AA (.bool b9,[])):=AF
theorem gv(N:Nat)(m:Md)(q:Qy)(b6 b9:Bool)(l29:LI)(x30 x31:Int):(DW 1 (DX (KI N) (DS MM [1,1,1,0,1,0,1,0,1,1]) (DW 0 (DX (KI N) (DS MM [1,1,1,1]) (D2 (KI N) AB [.tmp 6] [[.bool]]))))) .ret (UP m q b6 b9 l29 x30 x31)=(AA (.bool b6,[])):=AF
open Go Go.Proofs
theorem zey:D6 PR B0 244 fQ:=by
 refine EF [] [] fQ [[.bool]] Tryz.func244 rj trivial ?_;intro vs r hwf h;unfold fQ at h;split at h
 .rename_i s p a;rw[R.get_ok]at h;refine⟨0,(zaq 0 s p a).trans ?_⟩;rw[<-h];unfold K8;show _=AA (V.bool (cond s (p==0&&a==0) (AE (0<=p)&&AE (p<=4))),[]);cases s with
  |true=>
   simp only[B5,CK];rfl
  |false=>
   simp only[BK];by_cases hp:0<=p
   .rw[AL (show p>=0 from hp)];rfl
   .rw[AS (show¬p>=0 from hp)];rfl
 .simp[R.get]at h
def eh(o:Option (Int×Int)):Int:=match o with
 |some st=>cond (!(st.1==0)||decide (st.2>200)) 0 st.2
 |none=>0
theorem qX(N:Nat)(l:LI)(K:Out->St->DU)(hl:l.length<=65536)
  (hx:∀x2 x3 x4 x11 x12,K (.exit 0) ⟨[(2,(.i x2)),(3,(.i x3)),(4,(.i x4)),(10,(.list AC EO l)),(11,(.i x11)),(12,(.i x12))],[]⟩=cond (x3 !=0) (AA (.i 0,[])) (cond (AE (x4>200)) (AA (.i 0,[])) (AA (.i x4,[]))))
  (hr:∀x2 x3 x4 x11 x12,K .ret ⟨[(2,(.i x2)),(3,(.i x3)),(4,(.i x4)),(10,(.list AC EO l)),(11,(.i x11)),(12,(.i x12))],[]⟩=AA (.i x2,[])):
  ∀(d i n:Nat) (left most:Int),i+d=l.length->d<n->0<=left->left<=i+1->
   D3 (RY N) (DS VJ [1,1,1,0,1,0,0]) ⟨[2,3,4,10,11,12],[],[]⟩ n ⟨[(2,(.i 0)),(3,(.i left)),(4,(.i most)),(10,(.list AC EO l)),(11,(.i (ic l.length))),(12,(.i (i:Int)))],[]⟩ K=AA (.i (eh (J6 (l.drop i) (left,most))),[])
 |d,i,0,_,_,_,h,_,_=>absurd h AG
 |0,i,n+1,left,most,hd,_,_,_=>by
  rw[D8,Su,IZ AG,DR,hx,DC AG];show _=AA (V.int .i64 (cond (!(left==0)||decide (most>200)) 0 most),[])
  have:(left !=0)=!(left==0):=rfl
  rw[this];cases left==0<;>cases AE (most>200)<;>rfl
 |d+1,i,n+1,left,most,hd,hn,h0,h1=>by
  have hi:i<l.length:=by omega
  rw[D8,Su,HY hi,DQ,IM,BR,DQ,GM AG,IX hi,BJ hi,J6];unfold NJ;have er:K8 (OP (IV.toBool (IV.cell l[i] 0)) (IV.toInt (IV.cell l[i] 1)) (IV.toInt (IV.cell l[i] 2)))=K8 l[i]:=rfl;have es:IV.toBool (IV.cell l[i] 0)=I1 l[i]:=rfl;rw[er,es];generalize l[i]=x;cases hz:(left==0)with
  |true=>rw[DQ,hr];rfl
  |false=>
   have hne:left≠0:=by simpa using hz
   rw[DR];cases K8 x with
   |false=>rw[BF,DQ,hr];rfl
   |true=>
    rw[A9,DR,Bool.or_false,DR];cases I1 x with
    |true=>
     rw[DQ,DQ,show AI AJ (left-1)=left-1 from ER AG AG];exact qX N l K hl hx hr d (i+1) n (left-1) most AG AG AG AG
    |false=>
     rw[DR,DR,show AI AJ (left+1)=left+1 from ER AG AG];exact qX N l K hl hx hr d (i+1) n (left+1) _ AG AG AG AG
theorem zex:D6 PR B0 211 fP:=by
 refine EF [(244,fQ)] [(5,⟨[2,3,4,10,11,12],[],[]⟩)] fP [[.z]] Tryz.func211 ri ⟨zey,trivial⟩ ?_;intro vs r hwf h;unfold fP at h;split at h
 .rename_i l;rw[R.get_ok]at h;refine⟨l.length+1,(zap (l.length+1) l).trans ?_⟩;rw[<-h];unfold MP;by_cases hl:l.length<=65536
  .rw[AS (show¬ic l.length>65536 by simp only[ic];omega),DR,DR]
   have:=qX (l.length+1) l _ hl (λx2 x3 x4 x11 x12=>jn (l.length+1) x2 x3 x4 l x11 x12) (λx2 x3 x4 x11 x12=>jo (l.length+1) x2 x3 x4 l x11 x12) l.length 0 (l.length+1) 1 1 AG AG AG AG
   rw[CD]at this;exact this
  .rw[AL (show ic l.length>65536 by simp only[ic];omega)];rfl
 .simp[R.get]at h
theorem zev:D6 PR B0 173 fN:=by
 refine EF [(211,fP)] [] fN [[.bool]] Tryz.func173 rf ⟨zex,trivial⟩ ?_;intro vs r hwf h;unfold fN at h;split at h
 .rename_i l;rw[R.get_ok]at h;exact⟨0,(zao 0 l).trans h⟩
 .simp[R.get]at h
theorem zaa(b:Bx)(p:Pt)(t:Int):EA (Wi 6) Aq [.tmp 6] [[.bool]] [b.V,p.V,.i t]=
 cond (!b.s0.has p.p0) (AA (.bool AD,[])) (cond (!b.s1.has p.p1) (AA (.bool AD,[])) (cond (!b.s2.has p.p2) (AA (.bool AD,[])) (cond (!b.s3.has p.p3) (AA (.bool AD,[])) (AA (.bool (b.s4.has t),[]))))):=AF
theorem zdC:D6 PR B0 119 dJ:=by
 refine EF [(127,XM)] [(2,⟨[2,3,6,9,10],[3],[]⟩)] dJ [[.bool]] Tryz.func119 nv ⟨Qe,trivial⟩ ?_;intro vs r hwf h;unfold dJ at h;split at h
 .rename_i b p t;replace h:=JJ h;obtain⟨b,rfl,h⟩:=h;replace h:=RN h;obtain⟨p,rfl,h⟩:=h;rw[R.get_ok]at h;refine⟨6,(zaa b p t).trans ?_⟩;rw[<-h];unfold Bx.has;cases b.s0.has p.p0<;>cases b.s1.has p.p1<;>cases b.s2.has p.p2<;>cases b.s3.has p.p3<;>rfl
 .simp[R.get]at h
open Go Go.Proofs
theorem lE(m:Md)(q:Qy)(b:Bx):∀d j,IL m q b j<=IL m q b (j+d)
 |0,j=>A4 _
 |d+1,j=>by
  rw[<-vaJ,IL];exact DD (lE m q b d j) (vaN _ AG)
theorem Ha{j:Nat}(h:j<5):HC (j:Int)=AC:=by
 unfold HC;rw[AL AG,AL AG];rfl
theorem qN(j:Nat):∀(L:List Int) (c:Bx),(NI j c L).length=L.length+1
 |[],c=>rfl
 |a::r,c=>by rw[NI,AV,qN j r,AV]
theorem qG(m:Md)(q:Qy)(b:Bx):∀j,(JR m q b j).length=IL m q b j
 |0=>rfl
 |j+1=>by
  have key:∀(l:List Bx),(l.flatMap λc=>NI j c (EM m q b j)).length=l.length*(1+(EM m q b j).length):=by
   intro l
   induction l with
   |nil=>simp
   |cons c r ih=>
    rw[vaA,A2,ih,qN,AV,vaW];omega
  rw[JR,IL,key,qG m q b j]
open Go
open Go Go.Proofs
abbrev sW:KP:=⟨[3,4,5,6,8,9,10,20],[4,5,6],[]⟩
abbrev mO:KP:=⟨[4,5,6,8,9,12,38],[4,5,6,500],[⟨.tmp 12,500,37,AC,ET⟩]⟩
abbrev mP:KP:=⟨[4,5,6,8,9,13,14,38,41,42,43],[4,5,6,500,501],[⟨.tmp 14,501,37,AC,ET⟩]⟩
abbrev sX:KP:=⟨[4,5,6,8,9,13,14,16,17,38,41,42,43,55,56,57],[4,5,6,16,500,501],[⟨.tmp 14,501,37,AC,ET⟩]⟩
def JY(N:Nat):Env:=EE [(144,d8)] [(3,⟨[3,4,5,6,8,9,10,20],[4,5,6],[]⟩),(11,⟨[4,5,6,8,9,12,38],[4,5,6,500],[⟨.tmp 12,500,37,AC,ET⟩]⟩),(15,⟨[4,5,6,8,9,13,14,38,41,42,43],[4,5,6,500,501],[⟨.tmp 14,501,37,AC,ET⟩]⟩),(19,⟨[4,5,6,8,9,13,14,16,17,38,41,42,43,55,56,57],[4,5,6,16,500,501],[⟨.tmp 14,501,37,AC,ET⟩]⟩)] 89 N
abbrev nC(m:Md)(q:Qy)(b:Bx)(r:Store):Store:=(4,AA (.box m.cs))::(5,AA (.box q.cs))::(6,AA (.box b.cs))::r
abbrev jN(n:Nat)(P:LI):Nat×Option Ob:=(n,AA (.row AC 37 AC ET P))
abbrev RQ(m:Md)(q:Qy)(b:Bx)(most n i:Int):St:=⟨[(3,.i most),(4,.ptr 4 0 0),(5,.ptr 5 0 0),(6,.ptr 6 0 0),(8,.zs),(9,.bool AD),(10,.i n),(20,.i i)],nC m q b []⟩
abbrev WW(m:Md)(q:Qy)(b:Bx)(n:Nat)(i:Int)(P:LI):St:=⟨[(4,.ptr 4 0 0),(5,.ptr 5 0 0),(6,.ptr 6 0 0),(8,.zs),(9,.bool AD),(12,.row 500 0 n),(38,.i i)],nC m q b [jN 500 P]⟩
abbrev WX(m:Md)(q:Qy)(b:Bx)(i:Int)(n nP:Nat)(e k:Int)(P O:LI):St:=⟨[(4,.ptr 4 0 0),(5,.ptr 5 0 0),(6,.ptr 6 0 0),(8,.zs),(9,.bool AD),(13,.i i),(14,.row 501 0 n),(38,.i i),(41,.row 500 0 nP),(42,.i e),(43,.i k)],nC m q b [jN 500 P,jN 501 O]⟩
abbrev ZS(m:Md)(q:Qy)(b:Bx)(i:Int)(n:Nat)(lo:Int)(nP:Nat)(e k:Int)(L:LI)(f j:Int)(c:Bx)(P O:LI):St:=⟨[(4,.ptr 4 0 0),(5,.ptr 5 0 0),(6,.ptr 6 0 0),(8,.zs),(9,.bool AD),(13,.i i),(14,.row 501 0 n),(16,.ptr 16 0 0),(17,.i lo),(38,.i i),(41,.row 500 0 nP),(42,.i e),(43,.i k),(55,.list AD [.z] L),(56,.i f),(57,.i j)],nC m q b [(16,AA (.box c.cs)),jN 500 P,jN 501 O]⟩
abbrev uR:List Nat:=[1,1,0,1,0,0]
abbrev uS:List Nat:=[1,1,1,1,0,1,0,0]
abbrev uT:List Nat:=[1,1,1,1,0,1,0,0,1,1,0,0,1,1,0,1,0,0]
abbrev uU:List Nat:=[1,1,1,1,0,1,0,0,1,1,0,0,1,1,0,1,0,0,1,1,0,0,1,1,0,1,0,0]
noncomputable abbrev mK(N:Nat):Out->St->DU:=DW 0 (DX (JY N) (DS KJ [1,1,1]) (D2 (JY N) AB [.tmp 8,.tmp 9] [[.list AC ET],[.bool]]))
noncomputable abbrev sJ(N:Nat):Out->St->DU:=DW 2 (DX (JY N) (DS KJ [1,1,1,1,1]) (D2 (JY N) AB [.tmp 8,.tmp 9] [[.list AC ET],[.bool]]))
noncomputable abbrev sK(N:Nat)(again:St->DU)(k:Out->St->DU):Out->St->DU:=DW 4 (DX (JY N) (DS KJ [1,1,1,1,0,1,0,0,1,1,0,0,1,1,1]) (DW 3 (DX (JY N) (DS KJ [1,1,1,1,0,1,0,0,1,1,1]) (ES again mO k))))
noncomputable abbrev sL(N:Nat)(again:St->DU)(k:Out->St->DU):Out->St->DU:=DW 6 (DX (JY N) (DS KJ [1,1,1,1,0,1,0,0,1,1,0,0,1,1,0,1,0,0,1,1,0,0,1,1,1]) (DW 5 (DX (JY N) (DS KJ [1,1,1,1,0,1,0,0,1,1,0,0,1,1,0,1,0,0,1,1,1]) (ES again mP k))))
set_option maxRecDepth 100000
theorem yj(N:Nat)(m:Md)(q:Qy)(b:Bx)(most:Int):EA (JY N) KJ [.tmp 8,.tmp 9] [[.list AC ET],[.bool]] [m.V,q.V,b.V,.i most]=
 D3 (JY N) (DS KJ uR) sW N (RQ m q b most 1 0) (mK N):=AF
theorem Sx(N:Nat)(m:Md)(q:Qy)(b:Bx)(most n i:Int)(again:St->DU)(k:Out->St->DU):EY (JY N) (DS KJ uR) (RQ m q b most n i) (ES again sW k)=
 cond (AE (i<5)) (cond (EU m&&HC i) (cond (AE (D7 (n*D7 (1+ic (AN (iZ (EM m q b (AM i))))))>most))
 (k .ret (RQ m q b most (D7 (n*D7 (1+ic (AN (iZ (EM m q b (AM i))))))) i))
 (again (RQ m q b most (D7 (n*D7 (1+ic (AN (iZ (EM m q b (AM i))))))) (D7 (i+1))))) AB)
 (k (.exit 0) (RQ m q b most n i)):=AF
theorem js(N:Nat)(m:Md)(q:Qy)(b:Bx)(most n i:Int):mK N (.exit 0) (RQ m q b most n i)=D3 (JY N) (DS KJ uS) mO N (WW m q b 1 0 [b.I]) (sJ N):=AF
theorem jt(N:Nat)(m:Md)(q:Qy)(b:Bx)(most n i:Int):mK N .ret (RQ m q b most n i)=AA (.tup [.list AC ET [],.bool AD],[]):=AF
theorem Sy(N:Nat)(m:Md)(q:Qy)(b:Bx)(n:Nat)(i:Int)(P:LI)(again:St->DU)(k:Out->St->DU):EY (JY N) (DS KJ uS) (WW m q b n i P) (ES again mO k)=
 cond (AE (i<5)) (D3 (JY N) (DS KJ uT) mP N (WX m q b i 0 n (ic (n-0)) 0 P []) (sK N again k)) (k (.exit 2) (WW m q b n i P)):=AF
theorem ju(N:Nat)(m:Md)(q:Qy)(b:Bx)(n:Nat)(i:Int)(P:LI):sJ N (.exit 2) (WW m q b n i P)=AA (.tup [.list AC ET (A3 0 (AU n P)),.bool AC],[]):=AF
theorem Sz(N:Nat)(m:Md)(q:Qy)(b:Bx){j:Nat}(hj:j<5)(n nP:Nat)(e x:Int)(P O:LI)(again:St->DU)(k:Out->St->DU):EY (JY N) (DS KJ uT) (WX m q b (j:Int) n nP e x P O) (ES again mP k)=
 cond (AE (x<e)) (cond (AE (0<=x)&&AE (x<ic (nP-0))) (cond (EU m&&HC (j:Int))
 (D3 (JY N) (DS KJ uU) sX N (ZS m q b (j:Int) n (b.g j).lo nP e x (iZ (EM m q b (AM (j:Int)))) (ic (AN (iZ (EM m q b (AM (j:Int)))))) 0 (EG (AR P (0+AM x) default)) P O) (sL N again k)) AB) AB)
 (k (.exit 4) (WX m q b (j:Int) n nP e x P O)):=by
 obtain rfl|rfl|rfl|rfl|rfl:j=0\/j=1\/j=2\/j=3\/j=4:=by omega
 all_goals kernel_rfl
theorem jv(N:Nat)(m:Md)(q:Qy)(b:Bx)(i:Int)(n nP:Nat)(e x:Int)(P O:LI)(again:St->DU)(k:Out->St->DU):sK N again k (.exit 4) (WX m q b i n nP e x P O)=again (WW m q b n (D7 (i+1)) O):=AF
theorem Ta(N:Nat)(m:Md)(q:Qy)(b:Bx){j:Nat}(hj:j<5)(n:Nat)(lo:Int)(nP:Nat)(e x:Int)(L:LI)(f y:Int)(c:Bx)(P O:LI)(again:St->DU)(k:Out->St->DU):EY (JY N) (DS KJ uU) (ZS m q b (j:Int) n lo nP e x L f y c P O) (ES again sX k)=
 cond (AE (y<f)) (cond (AE (0<=y)&&AE (y<ic (AN L))) (cond (AE ((n+1)*80<=EL))
 (again (ZS m q b (j:Int) (n+1) (D7 (IV.toInt (AR L (AM y) default)+1)) nP e x L f (D7 (y+1)) (c.p ⟨lo,IV.toInt (AR L (AM y) default)⟩ j) P (AU n O++[(c.p ⟨lo,IV.toInt (AR L (AM y) default)⟩ j).I]))) AB) AB)
 (k (.exit 6) (ZS m q b (j:Int) n lo nP e x L f y c P O)):=by
 obtain rfl|rfl|rfl|rfl|rfl:j=0\/j=1\/j=2\/j=3\/j=4:=by omega
 all_goals kernel_rfl
theorem jw(N:Nat)(m:Md)(q:Qy)(b:Bx){j:Nat}(hj:j<5)(n:Nat)(lo:Int)(nP:Nat)(e x:Int)(L:LI)(f y:Int)(c:Bx)(P O:LI)(again:St->DU)(k:Out->St->DU):sL N again k (.exit 6) (ZS m q b (j:Int) n lo nP e x L f y c P O)=
 cond (AE ((n+1)*80<=EL)) (again (WX m q b (j:Int) (n+1) nP e (D7 (x+1)) P (AU n O++[(c.p ⟨lo,(b.g j).hi⟩ j).I]))) AB:=by
 obtain rfl|rfl|rfl|rfl|rfl:j=0\/j=1\/j=2\/j=3\/j=4:=by omega
 all_goals kernel_rfl
open Go Go.Proofs
def JQ(N:Nat):Env:=EE [(78,QW)] [(8,⟨[3,6,8,9,10,42,43,44],[6,40],[]⟩),(11,⟨[3,6,8,9,10,42,43,44,49,50,51],[6,40],[]⟩),(20,⟨[8,17,96],[96,500],[⟨.tmp 17,500,3,AD,[.z]⟩]⟩),(24,⟨[8,17,18,19,96],[96,500],[⟨.tmp 17,500,3,AD,[.z]⟩]⟩)] 133 N
abbrev aX:KP:=⟨[3,6,8,9,10,42,43,44],[6,40],[]⟩
abbrev sS:KP:=⟨[3,6,8,9,10,42,43,44,49,50,51],[6,40],[]⟩
abbrev iJ:KP:=⟨[8,17,96],[96,500],[⟨.tmp 17,500,3,AD,[.z]⟩]⟩
abbrev sT:KP:=⟨[8,17,18,19,96],[96,500],[⟨.tmp 17,500,3,AD,[.z]⟩]⟩
abbrev SZ(b:Bx)(j f:Int)(ts:LI)(e i:Int)(es:List (Int×IV)):St:=⟨[(3,.i j),(6,.ptr 6 0 0),(8,.zs),(9,.i f),(10,.ptr 40 0 0),(42,.list AC G7 ts),(43,.i e),(44,.i i)],[(6,AA (.box b.cs)),(40,AA (.map .bool es))]⟩
abbrev PS(b:Bx)(j f:Int)(ts:LI)(e i:Int)(l:LI)(g x:Int)(es:List (Int×IV)):St:=⟨[(3,.i j),(6,.ptr 6 0 0),(8,.zs),(9,.i f),(10,.ptr 40 0 0),(42,.list AC G7 ts),(43,.i e),(44,.i i),(49,.list AD [.int .u64] l),(50,.i g),(51,.i x)],[(6,AA (.box b.cs)),(40,AA (.map .bool es))]⟩
abbrev WY(n:Nat)(u:Option (Int×IV))(es:List (Int×IV))(L:LI):St:=⟨[(8,.zs),(17,.row 500 0 n),(96,.ptr 96 0 0)],[(96,AA (.iter .bool u es)),(500,AA (.row AC 3 AD [.z] L))]⟩
abbrev UU(n:Nat)(t k:Int)(u:Option (Int×IV))(es:List (Int×IV))(L:LI):St:=⟨[(8,.zs),(17,.row 500 0 n),(18,.i t),(19,.i k),(96,.ptr 96 0 0)],[(96,AA (.iter .bool u es)),(500,AA (.row AC 3 AD [.z] L))]⟩
abbrev i8:List Nat:=[1,1,1,1,1,0,1,0,0]
abbrev uP:List Nat:=[1,1,1,1,1,0,1,0,0,1,1,0,0,1,1,0,0]
abbrev nO:List Nat:=[1,1,1,1,1,1,1,0,1,0,0]
abbrev uQ:List Nat:=[1,1,1,1,1,1,1,0,1,0,0,1,1,0,1,1,1,0,0,0]
noncomputable abbrev mG(N:Nat):Out->St->DU:=DW 0 (DX (JQ N) (DS J3 [1,1,1,1,1,1]) (D2 (JQ N) AB [.tmp 8] [[.list AD [.z]]]))
noncomputable abbrev Hn(N:Nat)(again:St->DU)(k:Out->St->DU):Out->St->DU:=DW 2 (DW 1 (DX (JQ N) (DS J3 [1,1,1,1,1,0,1,0,0,1,1,1]) (ES again aX k)))
noncomputable abbrev aU(N:Nat):Out->St->DU:=DW 4 (DX (JQ N) (DS J3 [1,1,1,1,1,1,1,1]) (D2 (JQ N) AB [.tmp 8] [[.list AD [.z]]]))
noncomputable abbrev sI(N:Nat)(again:St->DU)(k:Out->St->DU):Out->St->DU:=DW 6 (DX (JQ N) (DS J3 [1,1,1,1,1,1,1,0,1,0,0,1,1,0,1,1,1,1]) (DW 5 (ES again iJ k)))
def fR(q:Qy)(j:Nat):Int:=cond (B2 j 4) q.ft (j:Int)
set_option maxRecDepth 100000
theorem yk(N:Nat)(m:Md)(q:Qy)(b:Bx){j:Nat}(hj:j<5):EA (JQ N) J3 [.tmp 8] [[.list AD [.z]]] [m.V,q.V,b.V,.i (j:Int)]=
 cond (B2 j 4) (cond (q.k !=3) (AA (.list AD [.z] [],[])) (D3 (JQ N) (DS J3 i8) aX N (SZ b (j:Int) (fR q j) m.ts (ic m.ts.length) 0 []) (mG N)))
 (D3 (JQ N) (DS J3 i8) aX N (SZ b (j:Int) (fR q j) m.ts (ic m.ts.length) 0 []) (mG N)):=by
 obtain rfl|rfl|rfl|rfl|rfl:j=0\/j=1\/j=2\/j=3\/j=4:=by omega
 all_goals kernel_rfl
theorem Tb(N:Nat)(b:Bx)(j f:Int)(ts:LI)(e i:Int)(es:List (Int×IV))(again:St->DU)(k:Out->St->DU):EY (JQ N) (DS J3 i8) (SZ b j f ts e i es) (ES again aX k)=
 cond (AE (i<e)) (cond (AE (0<=i)&&AE (i<ic (AN ts)))
 (D3 (JQ N) (DS J3 uP) sS N (PS b j f ts e i (IV.toList (IV.cell (AR ts (AM i) default) 1)) (ic (AN (IV.toList (IV.cell (AR ts (AM i) default) 1)))) 0 es) (Hn N again k)) AB)
 (k (.exit 0) (SZ b j f ts e i es)):=AF
theorem Tc(N:Nat)(b:Bx){j:Nat}(hj:j<5)(f:Int)(ts:LI)(e i:Int)(l:LI)(g x:Int)(es:List (Int×IV))(again:St->DU)(k:Out->St->DU):EY (JQ N) (DS J3 uP) (PS b (j:Int) f ts e i l g x es) (ES again sS k)=
 cond (AE (x<g)) (cond (AE (0<=x)&&AE (x<ic (AN l)))
 (cond (FQ (IV.toInt (AR l (AM x) default))) (cond (!(DT (IV.toInt (AR l (AM x) default))).lf) (cond ((DT (IV.toInt (AR l (AM x) default))).f==f)
 (cond (AE ((DT (IV.toInt (AR l (AM x) default))).a>=(b.g j).lo)) (cond (AE ((DT (IV.toInt (AR l (AM x) default))).a<(b.g j).hi))
 (again (PS b (j:Int) f ts e i l g (D7 (x+1)) (HZ es (DT (IV.toInt (AR l (AM x) default))).a (.bool AC))))
 (again (PS b (j:Int) f ts e i l g (D7 (x+1)) es))) (again (PS b (j:Int) f ts e i l g (D7 (x+1)) es))) (again (PS b (j:Int) f ts e i l g (D7 (x+1)) es)))
 (again (PS b (j:Int) f ts e i l g (D7 (x+1)) es))) (again (PS b (j:Int) f ts e i l g (D7 (x+1)) es))) AB)
 (k (.exit 2) (PS b (j:Int) f ts e i l g x es)):=by
 obtain rfl|rfl|rfl|rfl|rfl:j=0\/j=1\/j=2\/j=3\/j=4:=by omega
 all_goals kernel_rfl
theorem jy(N:Nat)(b:Bx)(j f:Int)(ts:LI)(e i:Int)(l:LI)(g x:Int)(es:List (Int×IV))(again:St->DU)(k:Out->St->DU):Hn N again k (.exit 2) (PS b j f ts e i l g x es)=again (SZ b j f ts e (D7 (i+1)) es):=AF
theorem jx(N:Nat)(b:Bx)(j f:Int)(ts:LI)(e i:Int)(es:List (Int×IV)):mG N (.exit 0) (SZ b j f ts e i es)=D3 (JQ N) (DS J3 nO) iJ N (WY 0 AB es []) (aU N):=AF
theorem Td(N n:Nat)(u:Option (Int×IV))(es:List (Int×IV))(L:LI)(again:St->DU)(k:Out->St->DU):EY (JQ N) (DS J3 nO) (WY n u es L) (ES again iJ k)=
 cond (B2 (AN es) 0) (k (.exit 4) (WY n u es L))
 (Z3 (AN es) λi=>cond (AE ((n+1)*8<=EL)) (D3 (JQ N) (DS J3 uQ) sT N (UU (n+1) (H0 es i).1 (ic (n-0)) (AA (H0 es i)) (J7 es i) (AU n L++[IV.int (H0 es i).1])) (sI N again k)) AB):=AF
theorem jz(N n:Nat)(u:Option (Int×IV))(es:List (Int×IV))(L:LI):aU N (.exit 4) (WY n u es L)=AA (.list AD [.z] (A3 0 (AU n L)),[]):=AF
theorem Te(N n:Nat)(t x:Int)(u:Option (Int×IV))(es:List (Int×IV))(L:LI)(again:St->DU)(k:Out->St->DU):EY (JQ N) (DS J3 uQ) (UU n t x u es L) (ES again sT k)=
 cond (AE (x>0)) (cond (AE (0<=D7 (x-1))&&AE (D7 (x-1)<ic (n-0)))
 (cond (AE (IV.toInt (AR L (0+AM (D7 (x-1))) default)>t))
 (cond (AE (0<=D7 (x-1))&&AE (D7 (x-1)<ic (n-0))) (cond (AE (0<=x)&&AE (x<ic (n-0)))
 (again (UU n t (D7 (x-1)) u es (List.set L (0+AM x) (IV.int (IV.toInt (AR L (0+AM (D7 (x-1))) default)))))) AB) AB)
 (k (.exit 6) (UU n t x u es L))) AB)
 (k (.exit 6) (UU n t x u es L)):=AF
theorem ka(N n:Nat)(t x:Int)(u:Option (Int×IV))(es:List (Int×IV))(L:LI)(again:St->DU)(k:Out->St->DU):sI N again k (.exit 6) (UU n t x u es L)=
 cond (AE (0<=x)&&AE (x<ic (n-0))) (again (WY n u es (List.set L (0+AM x) (IV.int t)))) AB:=AF
open Go Go.Proofs
set_option maxRecDepth 100000
def TY(f lo hi:Int)(w:IV):Bool:=FQ w.toInt&&(!(DT w.toInt).lf&&(((DT w.toInt).f==f)&&(AE ((DT w.toInt).a>=lo)&&AE ((DT w.toInt).a<hi))))
def NT(f lo hi:Int)(es:List (Int×IV))(w:IV):List (Int×IV):=cond (TY f lo hi w) (HZ es (DT w.toInt).a (.bool AC)) es
def SM(f lo hi:Int)(es:List (Int×IV))(t:IV):List (Int×IV):=(E3 t).foldl (NT f lo hi) es
theorem zck{f lo hi:Int}{w:IV}{es:List (Int×IV)}(a:Int):a∈FY (NT f lo hi es w)↔a∈FY es\/(TY f lo hi w=AC/\a=(DT w.toInt).a):=by
 unfold NT;cases TY f lo hi w with
 |true=>
  rw[DQ,sO];constructor
  .rintro(h|h)
   .exact .inr ⟨rfl,h⟩
   .exact .inl h
  .rintro(h|⟨_,h⟩)
   .exact .inr h
   .exact .inl h
 |false=>
  rw[DR];constructor
  .exact .inl
  .rintro(h|⟨h,_⟩)
   .exact h
   .cases h
theorem zcl{f lo hi:Int}{w:IV}{es:List (Int×IV)}(h:(FY es).Nodup):(FY (NT f lo hi es w)).Nodup:=by
 unfold NT;cases TY f lo hi w with
 |true=>exact Hq h
 |false=>exact h
theorem Mk{f lo hi:Int}(a:Int):∀(l:LI) (es:List (Int×IV)),a∈FY (l.foldl (NT f lo hi) es)↔a∈FY es\/∃w∈l,TY f lo hi w=AC/\a=(DT w.toInt).a
 |[],es=>by simp
 |w::r,es=>by
  rw[vax,Mk a r,zck];constructor
  .rintro((h|h)|⟨w',hw,h⟩)
   .exact .inl h
   .exact .inr ⟨w,AY ..,h⟩
   .exact .inr ⟨w',A6 _ hw,h⟩
  .rintro(h|⟨w',hw,h⟩)
   .exact .inl (.inl h)
   .rcases AW.1 hw with rfl|hw
    .exact .inl (.inr h)
    .exact .inr ⟨w',hw,h⟩
theorem Mm{f lo hi:Int}:∀(l:LI) (es:List (Int×IV)),(FY es).Nodup->(FY (l.foldl (NT f lo hi) es)).Nodup
 |[],_,h=>h
 |w::r,es,h=>by
  rw[vax];exact Mm r _ (zcl h)
theorem Mn{f lo hi:Int}(a:Int):∀(ts:LI) (es:List (Int×IV)),a∈FY (ts.foldl (SM f lo hi) es)↔a∈FY es\/∃t∈ts,∃w∈E3 t,TY f lo hi w=AC/\a=(DT w.toInt).a
 |[],es=>by simp
 |t::r,es=>by
  rw[vax,Mn a r];unfold SM;rw[Mk];constructor
  .rintro((h|h)|⟨w',hw,h⟩)
   .exact .inl h
   .exact .inr ⟨t,AY ..,h⟩
   .exact .inr ⟨w',A6 _ hw,h⟩
  .rintro(h|⟨w',hw,h⟩)
   .exact .inl (.inl h)
   .rcases AW.1 hw with rfl|hw
    .exact .inl (.inr h)
    .exact .inr ⟨w',hw,h⟩
theorem Mp{f lo hi:Int}:∀(ts:LI) (es:List (Int×IV)),(FY es).Nodup->(FY (ts.foldl (SM f lo hi) es)).Nodup
 |[],_,h=>h
 |t::r,es,h=>by
  rw[vax];exact Mp r _ (Mm _ _ h)
theorem vo(es:List (Int×IV))(k:Int)(x:IV):(HZ es k x).length<=es.length+1:=by
 induction es with
 |nil=>exact A4 _
 |cons e r ih=>
  obtain⟨j,y⟩:=e;rw[mZ];cases j==k with
  |true=>exact Nat.le_succ _
  |false=>
   rw[BK,AV,AV];omega
theorem Ml{f lo hi:Int}:∀(l:LI) (es:List (Int×IV)),(l.foldl (NT f lo hi) es).length<=es.length+l.length
 |[],_=>A4 _
 |w::r,es=>by
  rw[vax,AV];have h1:=Ml (f:=f) (lo:=lo) (hi:=hi) r (NT f lo hi es w);have h2:(NT f lo hi es w).length<=es.length+1:=by
   unfold NT;cases TY f lo hi w with
   |true=>exact vo ..
   |false=>exact Nat.le_succ _
  omega
theorem Mo{f lo hi:Int}:∀(ts:LI) (es:List (Int×IV)),(∀t∈ts,(E3 t).length<=31)->(ts.foldl (SM f lo hi) es).length<=es.length+31*ts.length
 |[],_,_=>A4 _
 |t::r,es,h=>by
  rw[vax,AV];have h1:=Mo (f:=f) (lo:=lo) (hi:=hi) r (SM f lo hi es t) λx hx=>h x (A6 _ hx)
  have h2:=Ml (f:=f) (lo:=lo) (hi:=hi) (E3 t) es;have h3:=h t (AY ..);have h4:(SM f lo hi es t).length=((E3 t).foldl (NT f lo hi) es).length:=rfl;omega
theorem Es(N:Nat)(b:Bx){j:Nat}(hj:j<5)(f:Int)(ts:LI)(e i:Int)(l:LI)(hl:l.length<=31)(K:Out->St->DU):∀(d x n:Nat) (es:List (Int×IV)),x+d=l.length->d<n->
  D3 (JQ N) (DS J3 uP) sS n (PS b (j:Int) f ts e i l (ic l.length) (x:Int) es) K=K (.exit 2) (PS b (j:Int) f ts e i l (ic l.length) (ic l.length) ((l.drop x).foldl (NT f (b.g j).lo (b.g j).hi) es))
 |0,x,n+1,es,hd,_=>by
  have hx:x=l.length:=by omega
  subst hx;rw[D8,Tc N b hj,IZ (A4 _),DR,C8];rfl
 |d+1,x,n+1,es,hd,hn=>by
  have hx:x<l.length:=by omega
  have ih:=Es N b hj f ts e i l hl K d (x+1) n (NT f (b.g j).lo (b.g j).hi es l[x]) AG AG;rw[D8,Tc N b hj,HY hx,DQ,IM,BR,DQ,IX hx,show D7 ((x:Int)+1)=((x+1:Nat):Int)from GM AG,BJ hx,vax,<-ih];unfold NT TY;cases FQ l[x].toInt<;>cases(DT l[x].toInt).lf<;>cases(DT l[x].toInt).f==f<;>cases AE ((DT l[x].toInt).a>=(b.g j).lo)<;>cases AE ((DT l[x].toInt).a<(b.g j).hi)<;>rfl
 |0,_,0,_,_,h=>by omega
 |_+1,_,0,_,_,h=>by omega
theorem Eu(N:Nat)(hN:40<=N)(b:Bx){j:Nat}(hj:j<5)(f:Int)(ts:LI)(hts:∀t∈ts,(E3 t).length<=31)(h8:ts.length<=8)(K:Out->St->DU):∀(d i n:Nat) (es:List (Int×IV)),i+d=ts.length->d<n->
  D3 (JQ N) (DS J3 i8) aX n (SZ b (j:Int) f ts (ic ts.length) (i:Int) es) K=K (.exit 0) (SZ b (j:Int) f ts (ic ts.length) (ic ts.length) ((ts.drop i).foldl (SM f (b.g j).lo (b.g j).hi) es))
 |0,i,n+1,es,hd,_=>by
  have hx:i=ts.length:=by omega
  subst hx;rw[D8,Tb,IZ (A4 _),DR,C8];rfl
 |d+1,i,n+1,es,hd,hn=>by
  have hi:i<ts.length:=by omega
  have hl:=hts _ (C0 hi);have ih:=Eu N hN b hj f ts hts h8 K d (i+1) n (SM f (b.g j).lo (b.g j).hi es ts[i]) AG AG;rw[D8,Tb,HY hi,DQ,IM,BR,DQ,IX hi,BJ hi,vax,<-ih];refine(Es N b hj f ts (ic ts.length) (i:Int) (E3 ts[i]) hl _ (E3 ts[i]).length 0 N es AG AG).trans ?_;rw[jy,show D7 ((i:Int)+1)=((i+1:Nat):Int)from GM AG,CD];rfl
 |0,_,0,_,_,h=>by omega
 |_+1,_,0,_,_,h=>by omega
theorem Gv(a b:List Int):iZ (a++b)=iZ a++iZ b:=List.map_append ..
def ON(L:List Int)(k:Nat)(x:Int):LI:=iZ (L.take k)++.int x::iZ (L.drop k)
theorem zcX{L:List Int}{k:Nat}(hk:k<L.length)(x:Int):((ON L (k+1) x).getD k default).toInt=L[k]:=by
 unfold ON;have h1:k<(iZ (L.take (k+1))).length:=by rw[LM,BL];omega
 rw[BY,List.getElem?_append_left h1];unfold iZ;rw[CJ,List.getElem?_take_of_lt AG,BD hk];rfl
theorem Nv{L:List Int}{k:Nat}(hk:k<=L.length)(x y:Int):(ON L k x).set k (.int y)=ON L k y:=by
 unfold ON;have h1:(iZ (L.take k)).length=k:=by rw[LM,BL];omega
 rw[List.set_append_right _ _ AG,h1,Nat.sub_self];rfl
theorem zcY{L:List Int}{k:Nat}(hk:k<L.length):ON L (k+1) L[k]=ON L k L[k]:=by
 have e1:L.take (k+1)=L.take k++[L[k]]:=by rw[List.take_add_one,BD hk];rfl
 have e2:L.drop k=L[k]::L.drop (k+1):=BJ hk;unfold ON;rw[e1,e2,Gv,vaz];rfl
theorem Hg(N:Nat)(t:Int)(u:Option (Int×IV))(es:List (Int×IV))(L:List Int)(hL:L.Pairwise (· < ·))(ht:t∉L)(hlen:L.length<=65536)(K:Out->St->DU):∀(k n:Nat) (x:Int),k<=L.length->k<n->(∀y∈L.drop k,t<y)->
  ∃(k':Nat) (x':Int),k'<=L.length/\(∀y∈L.drop k',t<y)/\(∀y∈L.take k',y<t)/\
   D3 (JQ N) (DS J3 uQ) sT n (UU (L.length+1) t (k:Int) u es (ON L k x)) K=K (.exit 6) (UU (L.length+1) t (k':Int) u es (ON L k' x'))
 |0,n+1,x,_,_,hd=>by
  refine⟨0,x,CH _,hd,λy hy=>by simp at hy,?_⟩;rw[D8,Te,AS (show¬((0:Nat):Int)>0 by omega),DR]
 |k+1,n+1,x,hk,hn,hd=>by
  have hk':k<L.length:=by omega
  have ek:D7 (((k+1:Nat):Int)-1)=(k:Int):=by
   rw[show((k+1:Nat):Int)-1=(k:Int) by omega];exact ER AG AG
  rw[D8,Te,AL (show((k+1:Nat):Int)>0 by omega),DQ,ek,AL (show(0:Int)<=(k:Int) by omega),AL (show(k:Int)<ic (L.length+1-0) by simp only[ic];omega),BR,DQ,BU,BE,zcX hk'];by_cases hgt:L[k]>t
  .rw[AL hgt,DQ,DQ,AL (show(0:Int)<=((k+1:Nat):Int) by omega),AL (show((k+1:Nat):Int)<ic (L.length+1-0) by simp only[ic];omega),BR,DQ,BU,BE,Nv hk,zcY hk'];exact Hg N t u es L hL ht hlen K k n L[k] AG AG λy hy=>by
    rw[BJ hk']at hy;rcases AW.1 hy with rfl|hy
    .exact hgt
    .exact hd y hy
  .rw[AS hgt,DR];refine⟨k+1,x,hk,hd,λy hy=>?_,rfl⟩;have hne:L[k]≠t:=λe=>ht (e▸C0 hk')
   obtain⟨i,hi,rfl⟩:=List.mem_iff_getElem.1 hy;rw[BL]at hi;rw[List.getElem_take];by_cases e:i=k
   .subst e;omega
   .have:=List.pairwise_iff_getElem.1 hL i k AG hk' AG
    omega
 |0,0,_,_,h,_=>by omega
 |_+1,0,_,_,h,_=>by omega
theorem Et(N:Nat)(hN:65537<N)(T:List Int)(hT:T.Pairwise (· < ·)):∀(d n:Nat) (L:List Int) (u:Option (Int×IV)) (es:List (Int×IV)),es.length=d->d<n->L.Pairwise (· < ·)->(FY es).Nodup->(∀x∈L,x∉FY es)->(∀x,x∈T↔x∈L\/x∈FY es)->L.length+d<=65536->
  D3 (JQ N) (DS J3 nO) iJ n (WY L.length u es (iZ L)) (aU N)=AA (.list AD [.z] (iZ T),[])
 |0,n+1,L,u,es,hes,_,hL,_,_,hm,_=>by
  have e0:es=[]:=vav hes;subst e0;rw[D8,Td];show aU N (.exit 4) (WY L.length u [] (iZ L))=_;rw[jz,CD];have e1:T=L:=Nt hT hL λx=>by rw[hm x];simp[FY]
  have e2:AU L.length (iZ L)=iZ L:=C2 (by rw[LM];exact A4 _);rw[e2,e1]
 |d+1,n+1,L,u,es,hes,hn,hL,hnd,hdj,hm,hsz=>by
  have e0:B2 es.length 0=AD:=by rw[hes];rfl
  rw[D8,Td,e0,DR];refine Zb AG λi hi=>?_
  obtain⟨k1,k2,k3⟩:=Ez es i hi;obtain⟨k4,k5⟩:=k2 hnd;have ht:(H0 es i).1∉L:=λh=>hdj _ h ((k1 _).2 (.inl rfl))
  rw[AL (show(L.length+1)*8<=EL by unfold EL;omega),DQ];have erow:AU L.length (iZ L)++[IV.int (H0 es i).1]=ON L L.length (H0 es i).1:=by
   unfold ON;rw[BS,C8,C2 (by rw[LM];exact A4 _)];rfl
  rw[erow,vas];obtain⟨k',x',h1,h2,h3,h4⟩:=Hg N (H0 es i).1 (AA (H0 es i)) (J7 es i) L hL ht AG (sI N (λs'=>D3 (JQ N) (DS J3 nO) iJ n s' (aU N)) (aU N)) L.length N (H0 es i).1 (A4 _) AG (λy hy=>by rw[C8]at hy;cases hy);refine h4.trans ?_;rw[ka,AL (show(0:Int)<=(k':Int) by omega),AL (show(k':Int)<ic (L.length+1-0) by simp only[ic];omega),BR,DQ,BU,BE,Nv h1];have er:ON L k' (H0 es i).1=iZ (L.take k'++(H0 es i).1::L.drop k'):=by
   unfold ON;rw[Gv];rfl
  have el:(L.take k'++(H0 es i).1::L.drop k').length=L.length+1:=by
   rw[A2,AV,BL,DA];omega
  rw[er,<-el];refine Et N hN T hT d n _ _ _ AG AG (zcW hL h3 h2) k5 (λx hx=>?_) (λx=>?_) (by rw[el];omega)
  .rcases(Hf x).1 hx with rfl|hx
   .exact k4
   .exact λh=>hdj x hx ((k1 x).2 (.inr h))
  .rw[hm x,k1 x,Hf];constructor
   .rintro(h|h|h)
    .exact .inl (.inr h)
    .exact .inl (.inl h)
    .exact .inr h
   .rintro((h|h)|h)
    .exact .inr (.inl h)
    .exact .inl h
    .exact .inr (.inr h)
 |0,0,_,_,_,_,h,_,_,_,_,_=>by omega
 |_+1,0,_,_,_,_,h,_,_,_,_,_=>by omega
theorem n7{m:Md}(hm:EU m=AC):∀t∈m.ts,(E3 t).length<=31/\∀w∈E3 t,FQ w.toInt=AC:=by
 intro t ht;have h:=CZ.1 (KC hm).2.2.2.2 t ht;unfold HH at h;simp only[AQ]at h;have h2:=h.2.2;unfold GP at h2;simp only[AQ]at h2;obtain⟨⟨_,h31⟩,hn,_⟩:=h2;refine⟨AX h31,?_⟩;have key:∀{dim n:Int} (l:LI) (i:Nat),JH dim n i l=AC->∀w∈l,FQ w.toInt=AC:=by
  intro dim n l
  induction l with
  |nil=>intro i _ w hw;cases hw
  |cons x r ih=>
   intro i h w hw;rw[JH]at h;simp only[AQ]at h;rcases AW.1 hw with rfl|hw
   .exact h.1.1
   .exact ih (i+1) h.2 w hw
 exact key _ 0 hn
theorem lq{m:Md}(hm:EU m=AC){t w:IV}(ht:t∈m.ts)(hw:w∈E3 t)(hl:(DT w.toInt).lf=AD):0<=(DT w.toInt).f:=
 (bA ((n7 hm t ht).2 w hw) hl).1.1
theorem du{m:Md}(hm:EU m=AC){q:Qy}{b:Bx}{j:Nat}(hj:j<5)(hk:j=4->q.k=3)(a:Int):a∈EM m q b j↔a∈FY (m.ts.foldl (SM (fR q j) (b.g j).lo (b.g j).hi) []):=by
 have ef:IA q (j:Int)=fR q j:=by
  unfold IA fR;by_cases h4:j=4
  .subst h4;rw[hk rfl];rfl
  .have e:B2 j 4=AD:=by
    cases h:B2 j 4 with
    |false=>rfl
    |true=>exact absurd (vae h) h4
   rw[e,AL (show(j:Int)>=0 by omega),AL (show(j:Int)<4 by omega)];rfl
 rw[O8,ef,Ua,Mn];unfold TY;constructor
 .rintro⟨h0,⟨t,ht,w,hw,h1,h2,h3⟩,h4,h5⟩;refine .inr ⟨t,ht,w,hw,?_,h3.symm⟩;rw[(n7 hm t ht).2 w hw,h1,h2,h3,DF,AL (show a>=(b.g j).lo from h4),AL h5];rfl
 .rintro(h|⟨t,ht,w,hw,h,rfl⟩)
  .cases h
  .simp only[AQ,CE,CF,AZ]at h;obtain⟨_,h1,h2,h3,h4⟩:=h;exact⟨by rw[<-h2];exact lq hm ht hw h1,⟨t,ht,w,hw,h1,h2,rfl⟩,h3,h4⟩
theorem zdX:D6 PR B0 144 d8:=by
 refine EF [(78,QW)] [(8,⟨[3,6,8,9,10,42,43,44],[6,40],[]⟩),(11,⟨[3,6,8,9,10,42,43,44,49,50,51],[6,40],[]⟩),(20,⟨[8,17,96],[96,500],[⟨.tmp 17,500,3,AD,[.z]⟩]⟩),(24,⟨[8,17,18,19,96],[96,500],[⟨.tmp 17,500,3,AD,[.z]⟩]⟩)] d8 [[.list AD [.z]]] Tryz.func144 pb ⟨oF,trivial⟩ ?_;intro vs r hwf h;unfold d8 at h;split at h
 .rename_i m q b i;replace h:=II h;obtain⟨m,rfl,h⟩:=h;replace h:=JB h;obtain⟨q,rfl,h⟩:=h;replace h:=JJ h;obtain⟨b,rfl,h⟩:=h;cases hg:(EU m&&HC i)with
  |false=>rw[hg]at h;simp[R.get]at h
  |true=>
  rw[hg,R.get_br,DQ,R.get_ok]at h;rw[AQ]at hg;obtain⟨hm,hpl⟩:=hg;obtain⟨j,hj,rfl⟩:∃j:Nat,j<5/\i=(j:Int):=by
   unfold HC at hpl;simp only[AQ,AZ]at hpl;exact⟨i.toNat,by omega,by omega⟩
  refine⟨65538,(yk 65538 m q b hj).trans ?_⟩;rw[<-h,BE];have run:(j=4->q.k=3)->D3 (JQ 65538) (DS J3 i8) aX 65538 (SZ b (j:Int) (fR q j) m.ts (ic m.ts.length) 0 []) (mG 65538)=AA (.list AD [.z] (iZ (EM m q b j)),[]):=λhk=>by
   have h8:=(KC hm).2.2.1;refine(Eu 65538 AG b hj (fR q j) m.ts (λt ht=>(n7 hm t ht).1) h8 _ m.ts.length 0 65538 [] AG AG).trans ?_;rw[jx,CD];have hlen:=Mo (f:=fR q j) (lo:=(b.g j).lo) (hi:=(b.g j).hi) m.ts [] λt ht=>(n7 hm t ht).1
   have hkeys:=λa=>du (b:=b) hm hj hk a
   have hnd:=Mp (f:=fR q j) (lo:=(b.g j).lo) (hi:=(b.g j).hi) m.ts [] (by simp[FY]);generalize m.ts.foldl (SM (fR q j) (b.g j).lo (b.g j).hi) []=es at hlen hkeys hnd ⊢;rw[BN]at hlen;exact Et 65538 AG (EM m q b j) (lJ m q b j) es.length 65538 [] AB es rfl AG List.Pairwise.nil hnd (λx hx=>by cases hx) (λx=>by rw[hkeys x];simp) (by rw[BN];omega)
  cases h4:B2 j 4 with
  |true=>
   have e:j=4:=vae h4;rw[DQ];by_cases hk:q.k=3
   .rw[show(q.k !=3)=AD by rw[hk];rfl,DR];exact run λ_=>hk
   .rw[show(q.k !=3)=AC by simpa using hk,DQ,e]
    have:EM m q b 4=[]:=by
     unfold EM IA;rw[show(q.k==3)=AD by simpa using hk];rfl
    rw[this];rfl
  |false=>
   rw[DR];exact run λh=>by rw[h]at h4;cases h4
 .simp[R.get]at h
theorem Mw(N:Nat){m:Md}{q:Qy}{b:Bx}(hm:EU m=AC){most:Nat}(h1:most<=65536)(K:Out->St->DU)(R:DU)(hr:∀x y,K .ret (RQ m q b (most:Int) x y)=R):
  ∀(d j n:Nat),j+d=5->d<n->IL m q b j<=most->D3 (JY N) (DS KJ uR) sW n (RQ m q b (most:Int) (ic (IL m q b j)) (j:Int)) K=
   cond (I6 m q b (most:Int)) R (K (.exit 0) (RQ m q b (most:Int) (ic (IL m q b 5)) 5))
 |0,j,n+1,hd,_,hc=>by
  obtain rfl:j=5:=by omega
  have e:I6 m q b (most:Int)=AD:=by
   unfold I6;exact AS (by simp only[ic];omega)
  rw[D8,Sx,AS (show¬((5:Nat):Int)<5 by omega),DR,e,DR];rfl
 |d+1,j,n+1,hd,hn,hc=>by
  have h2:=Ep hm q b j;have e0:IL m q b (j+1)=IL m q b j*(1+(EM m q b j).length):=rfl;have h3:IL m q b (j+1)<=65536*249:=by rw[e0];exact Nat.mul_le_mul AG AG
  have e1:D7 (1+ic (iZ (EM m q b (AM (j:Int)))).length)=((1+(EM m q b j).length:Nat):Int):=by
   rw[BE,LM,show D7 (1+ic (EM m q b j).length)=1+ic (EM m q b j).length from ER (by simp only[ic];omega) (by simp only[ic];omega)];simp only[ic];omega
  have e2:D7 (ic (IL m q b j)*((1+(EM m q b j).length:Nat):Int))=ic (IL m q b (j+1)):=by
   have e3:ic (IL m q b j)*((1+(EM m q b j).length:Nat):Int)=ic (IL m q b (j+1)):=by
    rw[e0];simp only[ic];rw[Int.natCast_mul]
   rw[e3];exact ER (by simp only[ic];omega) (by simp only[ic];omega)
  rw[D8,Sx,AL (show((j:Nat):Int)<5 by omega),DQ,hm,Ha AG,BR,DQ,e1,e2,show D7 ((j:Int)+1)=((j+1:Nat):Int)from GM AG];by_cases ho:IL m q b (j+1)>most
  .have h4:=lE m q b d (j+1);rw[show j+1+d=5 by omega]at h4;have e:I6 m q b (most:Int)=AC:=by
    unfold I6;exact AL (by simp only[ic];omega)
   rw[AL (show ic (IL m q b (j+1))>(most:Int) by simp only[ic];omega),DQ,e,DQ];exact hr _ _
  .rw[AS (show¬ic (IL m q b (j+1))>(most:Int) by simp only[ic];omega),DR];exact Mw N hm h1 K R hr d (j+1) n AG AG AG
 |0,_,0,_,h,_=>by omega
 |_+1,_,0,_,h,_=>by omega
theorem Mx(N:Nat)(m:Md)(q:Qy)(b:Bx){j:Nat}(hj:j<5)(nP:Nat)(e x:Int)(P:LI)(again:St->DU)(k:Out->St->DU)(L:List Int)(hL:L.length<=65536)(hin:∀a∈L,-2147483648<=a/\a<=2147483647):
  ∀(d i n:Nat) (c:Bx) (lo:Int) (O:LI),i+d=L.length->d<n->O.length+d+1<=65536->
   D3 (JY N) (DS KJ uU) sX n (ZS m q b (j:Int) O.length lo nP e x (iZ L) (ic (iZ L).length) (i:Int) c P O) (sL N again k)=
    again (WX m q b (j:Int) (O++(Y7 j (b.g j).hi c lo (L.drop i)).map Bx.I).length nP e (D7 (x+1)) P (O++(Y7 j (b.g j).hi c lo (L.drop i)).map Bx.I))
 |0,i,n+1,c,lo,O,hd,_,hO=>by
  have hi:i=L.length:=by omega
  subst hi;rw[D8,Ta N m q b hj,IZ (by rw[LM];exact A4 _),DR,C8,jw N m q b hj,AL (show(O.length+1)*80<=EL by unfold EL;omega),DQ,BS];have e1:(O++(Y7 j (b.g j).hi c lo []).map Bx.I).length=O.length+1:=by rw[A2];rfl
  rw[e1];rfl
 |d+1,i,n+1,c,lo,O,hd,hn,hO=>by
  have hi:i<L.length:=by omega
  have hi':i<(iZ L).length:=by rw[LM];exact hi
  have hb:=hin _ (C0 hi);have eg:IV.toInt (AR (iZ L) (AM (i:Int)) default)=L[i]:=by
   unfold iZ;rw[BE,BY,CJ,BD hi];rfl
  rw[D8,Ta N m q b hj,HY hi',DQ,IM,BR,DQ,AL (show(O.length+1)*80<=EL by unfold EL;omega),DQ,eg,show D7 ((i:Int)+1)=((i+1:Nat):Int)from GM AG,BS,BJ hi,show D7 (L[i]+1)=L[i]+1 from ER AG AG];have ih:=Mx N m q b hj nP e x P again k L hL hin d (i+1) n (c.p ⟨lo,L[i]⟩ j) (L[i]+1) (O++[(c.p ⟨lo,L[i]⟩ j).I]) AG AG (by rw[A2,DG];omega);rw[vaz]at ih;have e1:(O++[(c.p ⟨lo,L[i]⟩ j).I]).length=O.length+1:=by rw[A2,DG]
  rw[e1]at ih;exact ih
 |0,_,0,_,_,_,_,h,_=>by omega
 |_+1,_,0,_,_,_,_,h,_=>by omega
theorem My(N:Nat)(hN:65536<N){m:Md}(hm:EU m=AC)(q:Qy){b:Bx}(hb:b.good){j:Nat}(hj:j<5)(P:LI)(hP:P.length<=65536)(hPg:∀x∈P,(EG x).g j=b.g j)(again:St->DU)(k:Out->St->DU):
  ∀(d i n:Nat) (O:LI),i+d=P.length->d<n->O.length+d*(1+(EM m q b j).length)<=65536->
   D3 (JY N) (DS KJ uT) mP n (WX m q b (j:Int) O.length P.length (ic (P.length-0)) (i:Int) P O) (sK N again k)=
    again (WW m q b (O++(P.drop i).flatMap λx=>(NI j (EG x) (EM m q b j)).map Bx.I).length (D7 ((j:Int)+1)) (O++(P.drop i).flatMap λx=>(NI j (EG x) (EM m q b j)).map Bx.I))
 |0,i,n+1,O,hd,_,_=>by
  have hi:i=P.length:=by omega
  subst hi;rw[D8,Sz N m q b hj,vas,IZ (A4 _),DR,C8,List.flatMap_nil,vab,jv]
 |d+1,i,n+1,O,hd,hn,hO=>by
  have hi:i<P.length:=by omega
  have hd2:(d+1)*(1+(EM m q b j).length)=d*(1+(EM m q b j).length)+(1+(EM m q b j).length):=vaW _ _;have hbj:=hb j hj;have hcin:∀a∈EM m q b j,(b.g j).lo<=a/\a<(b.g j).hi:=λa ha=>(O8.1 ha).2.2
  have ecut:Y7 j (b.g j).hi (EG P[i]) (b.g j).lo (EM m q b j)=NI j (EG P[i]) (EM m q b j):=by
   rw[Nf j hbj.2.2 _ _ _ hbj.1 (lJ m q b j) hcin]
   have:=zbR (EG P[i]) j
   rw[hPg _ (C0 hi)]at this;exact congrArg (λz=>NI j z (EM m q b j)) this
  rw[D8,Sz N m q b hj,vas,HY hi,DQ,IM,BR,DQ,hm,Ha hj,BR,DQ,BU,IX hi,BE];refine(Mx N m q b hj P.length (ic P.length) (i:Int) P _ _ (EM m q b j) AG (λa ha=>by have:=hcin a ha;omega) (EM m q b j).length 0 N (EG P[i]) (b.g j).lo O AG AG AG).trans ?_;rw[CD,ecut,show D7 ((i:Int)+1)=((i+1:Nat):Int)from GM AG];have ih:=My N hN hm q hb hj P hP hPg again k d (i+1) n (O++(NI j (EG P[i]) (EM m q b j)).map Bx.I) AG AG (by rw[A2,BW,qN];omega);rw[BJ hi,vaA,<-vaz];rw[vas]at ih;exact ih
 |0,_,0,_,_,h,_=>by omega
 |_+1,_,0,_,_,h,_=>by omega
theorem Mz(N:Nat)(hN:65536<N){m:Md}{q:Qy}{b:Bx}(hm:EU m=AC)(hb:b.good)(hc:IL m q b 5<=65536):
  ∀(d j n:Nat),j+d=5->d<n->
   D3 (JY N) (DS KJ uS) mO n (WW m q b ((JR m q b j).map Bx.I).length (j:Int) ((JR m q b j).map Bx.I)) (sJ N)=AA (.tup [.list AC ET ((JR m q b 5).map Bx.I),.bool AC],[])
 |0,j,n+1,hd,_=>by
  obtain rfl:j=5:=by omega
  rw[D8,Sy,AS (show¬((5:Nat):Int)<5 by omega),DR,ju,BS,CD]
 |d+1,j,n+1,hd,hn=>by
  have hj:j<5:=by omega
  have h1:=lE m q b d (j+1);rw[show j+1+d=5 by omega]at h1;have e0:IL m q b (j+1)=IL m q b j*(1+(EM m q b j).length):=rfl;have hl:((JR m q b j).map Bx.I).length=IL m q b j:=by rw[BW,qG]
  have h3:IL m q b j<=IL m q b (j+1):=lE m q b 1 j;rw[D8,Sy,AL (show((j:Nat):Int)<5 by omega),DQ];refine(My N hN hm q hb hj ((JR m q b j).map Bx.I) AG (λx hx=>?_) _ _ ((JR m q b j).map Bx.I).length 0 N [] AG (by rw[hl];omega) (by
   rw[hl,BN,BU,<-e0];omega)).trans ?_
  .obtain⟨c,hc',rfl⟩:=CU.1 hx;rw[HX];exact(gT (m:=m) (q:=q) hb j AG c hc').rest j hj (A4 _)
  .rw[show D7 ((j:Int)+1)=((j+1:Nat):Int)from GM AG,CD,vac];have e5:(((JR m q b j).map Bx.I).flatMap λx=>(NI j (EG x) (EM m q b j)).map Bx.I)=(JR m q b (j+1)).map Bx.I:=by
    rw[JR,List.flatMap_map,List.map_flatMap];rfl
   rw[e5];exact Mz N hN hm hb hc d (j+1) n AG AG
 |0,_,0,_,h=>by omega
 |_+1,_,0,_,h=>by omega
theorem zdW:D6 PR B0 95 d7:=by
 refine EF [(144,d8)] [(3,⟨[3,4,5,6,8,9,10,20],[4,5,6],[]⟩),(11,⟨[4,5,6,8,9,12,38],[4,5,6,500],[⟨.tmp 12,500,37,AC,ET⟩]⟩),(15,⟨[4,5,6,8,9,13,14,38,41,42,43],[4,5,6,500,501],[⟨.tmp 14,501,37,AC,ET⟩]⟩),(19,⟨[4,5,6,8,9,13,14,16,17,38,41,42,43,55,56,57],[4,5,6,16,500,501],[⟨.tmp 14,501,37,AC,ET⟩]⟩)] d7 [[.list AC [.z,.z,.z,.z,.z,.z,.z,.z,.z,.z]],[.bool]] Tryz.func95 pa ⟨zdX,trivial⟩ ?_;intro vs r hwf h;unfold d7 at h;split at h
 .rename_i m q b most;replace h:=II h;obtain⟨m,rfl,h⟩:=h;replace h:=JB h;obtain⟨q,rfl,h⟩:=h;replace h:=JJ h;obtain⟨b,rfl,h⟩:=h;cases hg:(EU m&&(b.goodB&&(AE (1<=most)&&AE (most<=65536))))with
  |false=>rw[hg]at h;simp[R.get]at h
  |true=>
  rw[hg,R.get_br,DQ,R.get_ok]at h;simp only[AQ,AZ]at hg;obtain⟨hm,hb,h1,h2⟩:=hg;have hb:=mg hb;obtain⟨k,rfl⟩:=Int.eq_ofNat_of_zero_le (show 0<=most by omega);refine⟨65537,(yj 65537 m q b _).trans ?_⟩;rw[<-h];refine(Mw 65537 (b:=b) (q:=q) hm (show k<=65536 by omega) (mK 65537) (AA (.tup [.list AC ET [],.bool AD],[])) (λx y=>jt 65537 m q b _ x y) 5 0 65537 rfl AG (by show 1<=k;omega)).trans ?_;cases ho:I6 m q b (k:Int)with
  |true=>rfl
  |false=>
   rw[DR,DR,js];have hc2:IL m q b 5<=65536:=by
    unfold I6 at ho
    have:=BM ho
    simp only[ic]at this;omega
   exact Mz 65537 AG hm hb hc2 5 0 65537 rfl AG
 .simp[R.get]at h
open Go Go.Proofs
def Wt(N:Nat):Env:=EE [] [] 28 N
theorem ym(N:Nat)(q:Qy):EA (Wt N) Bc [.cell 2 37] [[.z,.z,.z,.z,.z,.z,.z,.z,.z,.z]] [(Qy.V q)]=
 (cond (Qy.k q==3)
 (cond (AE (Qy.ft q>=0))
 (cond (AE (Qy.ft q<4))
 (cond (AE (Qy.ft q=ic 0))
 (AA (.agg [.i (Qy.a0 q),.i (Qy.b0 q),.i (Qy.a1 q),.i (Qy.b1 q),.i (Qy.a2 q),.i (Qy.b2 q),.i (Qy.a3 q),.i (Qy.b3 q),.i (Qy.a0 q),.i (Qy.b0 q)],[]))
 (cond (AE (Qy.ft q=ic 1))
 (AA (.agg [.i (Qy.a0 q),.i (Qy.b0 q),.i (Qy.a1 q),.i (Qy.b1 q),.i (Qy.a2 q),.i (Qy.b2 q),.i (Qy.a3 q),.i (Qy.b3 q),.i (Qy.a1 q),.i (Qy.b1 q)],[]))
 (cond (AE (Qy.ft q=ic 2))
 (AA (.agg [.i (Qy.a0 q),.i (Qy.b0 q),.i (Qy.a1 q),.i (Qy.b1 q),.i (Qy.a2 q),.i (Qy.b2 q),.i (Qy.a3 q),.i (Qy.b3 q),.i (Qy.a2 q),.i (Qy.b2 q)],[]))
 (cond (AE (Qy.ft q=ic 3))
 (AA (.agg [.i (Qy.a0 q),.i (Qy.b0 q),.i (Qy.a1 q),.i (Qy.b1 q),.i (Qy.a2 q),.i (Qy.b2 q),.i (Qy.a3 q),.i (Qy.b3 q),.i (Qy.a3 q),.i (Qy.b3 q)],[]))
 (cond (AE (Qy.ft q=ic 4))
 (AA (.agg [.i (Qy.a0 q),.i (Qy.b0 q),.i (Qy.a1 q),.i (Qy.b1 q),.i (Qy.a2 q),.i (Qy.b2 q),.i (Qy.a3 q),.i (Qy.b3 q),.i (Qy.a4 q),.i (Qy.b4 q)],[]))
 AB)))))
 (AA (.agg [.i (Qy.a0 q),.i (Qy.b0 q),.i (Qy.a1 q),.i (Qy.b1 q),.i (Qy.a2 q),.i (Qy.b2 q),.i (Qy.a3 q),.i (Qy.b3 q),.i 0,.i 0],[])))
 (AA (.agg [.i (Qy.a0 q),.i (Qy.b0 q),.i (Qy.a1 q),.i (Qy.b1 q),.i (Qy.a2 q),.i (Qy.b2 q),.i (Qy.a3 q),.i (Qy.b3 q),.i 0,.i 0],[])))
 (AA (.agg [.i (Qy.a0 q),.i (Qy.b0 q),.i (Qy.a1 q),.i (Qy.b1 q),.i (Qy.a2 q),.i (Qy.b2 q),.i (Qy.a3 q),.i (Qy.b3 q),.i 0,.i 0],[]))):=AF
def MG(N:Nat):Env:=EE [(85,eB),(143,eG)] [(9,⟨[4,5,6,8,9,38,39],[4,5,6],[]⟩)] 87 N
theorem yi(N:Nat)(m:Md)(a1:Qy)(a2:Pt)(a3:Int):EA (MG N) O2 [.tmp 8] [[.bool]] [(Md.V m),(Qy.V a1),(Pt.V a2),.i a3]=
 (cond (!E8 m a1)
 (AA (.bool AD,[]))
 (cond (Qy.k a1==1)
 (cond (AE (D1 m (Qy.c a1) a2<Qy.lo a1)) (AA (.bool AC,[])) (AA (.bool (AE (D1 m (Qy.c a1) a2>Qy.hi a1)),[])))
 (cond (Qy.k a1==2)
 (D3 (MG N) (DS O2 [1,1,1,0,1,0,1,1,1,0,0,1,0,0]) ⟨[4,5,6,8,9,38,39],[4,5,6],[]⟩ N ⟨[(4,(.ptr 4 0 0)),(5,(.ptr 5 0 0)),(6,(.ptr 6 0 0)),(8,(.bool AD)),(9,(.i (D1 m (Qy.c a1) a2))),(38,(.i (Md.c m))),(39,(.i 0))],[(4,(AA (.box (Md.cs m)))),(5,(AA (.box (Qy.cs a1)))),(6,(AA (.box (Pt.cs a2))))]⟩ (DW 1 (DX (MG N) (DS O2 [1,1,1,0,1,0,1,1,1,0,1]) (DW 0 (DX (MG N) (DS O2 [1,1,1,1]) (D2 (MG N) AB [.tmp 8] [[.bool]]))))))
 (cond (AE (Qy.ft a1=ic 0))
 (cond (AE (Pt.p0 a2>=a3))
 (AA (.bool AD,[]))
 (cond (AE (Qy.ft a1=ic 0))
 (cond (Qy.fl a1)
 (cond (AE (D1 m (Qy.c a1) a2<D1 m (Qy.c a1) {p0:=a3,p1:=Pt.p1 a2,p2:=Pt.p2 a2,p3:=Pt.p3 a2}))
 (AA (.bool AC,[]))
 (cond (!Qy.fl a1)
 (AA ((.bool (AE (D1 m (Qy.c a1) a2>D1 m (Qy.c a1) {p0:=a3,p1:=Pt.p1 a2,p2:=Pt.p2 a2,p3:=Pt.p3 a2}))),[]))
 (AA (.bool AD,[]))))
 (cond (!Qy.fl a1)
 (AA ((.bool (AE (D1 m (Qy.c a1) a2>D1 m (Qy.c a1) {p0:=a3,p1:=Pt.p1 a2,p2:=Pt.p2 a2,p3:=Pt.p3 a2}))),[]))
 (AA (.bool AD,[]))))
 (cond (AE (Qy.ft a1=ic 1))
 (cond (Qy.fl a1)
 (cond (AE (D1 m (Qy.c a1) a2<D1 m (Qy.c a1) {p0:=Pt.p0 a2,p1:=a3,p2:=Pt.p2 a2,p3:=Pt.p3 a2}))
 (AA (.bool AC,[]))
 (cond (!Qy.fl a1)
 (AA ((.bool (AE (D1 m (Qy.c a1) a2>D1 m (Qy.c a1) {p0:=Pt.p0 a2,p1:=a3,p2:=Pt.p2 a2,p3:=Pt.p3 a2}))),[]))
 (AA (.bool AD,[]))))
 (cond (!Qy.fl a1)
 (AA ((.bool (AE (D1 m (Qy.c a1) a2>D1 m (Qy.c a1) {p0:=Pt.p0 a2,p1:=a3,p2:=Pt.p2 a2,p3:=Pt.p3 a2}))),[]))
 (AA (.bool AD,[]))))
 (cond (AE (Qy.ft a1=ic 2))
 (cond (Qy.fl a1)
 (cond (AE (D1 m (Qy.c a1) a2<D1 m (Qy.c a1) {p0:=Pt.p0 a2,p1:=Pt.p1 a2,p2:=a3,p3:=Pt.p3 a2}))
 (AA (.bool AC,[]))
 (cond (!Qy.fl a1)
 (AA ((.bool (AE (D1 m (Qy.c a1) a2>D1 m (Qy.c a1) {p0:=Pt.p0 a2,p1:=Pt.p1 a2,p2:=a3,p3:=Pt.p3 a2}))),[]))
 (AA (.bool AD,[]))))
 (cond (!Qy.fl a1)
 (AA ((.bool (AE (D1 m (Qy.c a1) a2>D1 m (Qy.c a1) {p0:=Pt.p0 a2,p1:=Pt.p1 a2,p2:=a3,p3:=Pt.p3 a2}))),[]))
 (AA (.bool AD,[]))))
 (cond (AE (Qy.ft a1=ic 3))
 (cond (Qy.fl a1)
 (cond (AE (D1 m (Qy.c a1) a2<D1 m (Qy.c a1) {p0:=Pt.p0 a2,p1:=Pt.p1 a2,p2:=Pt.p2 a2,p3:=a3}))
 (AA (.bool AC,[]))
 (cond (!Qy.fl a1)
 (AA ((.bool (AE (D1 m (Qy.c a1) a2>D1 m (Qy.c a1) {p0:=Pt.p0 a2,p1:=Pt.p1 a2,p2:=Pt.p2 a2,p3:=a3}))),[]))
 (AA (.bool AD,[]))))
 (cond (!Qy.fl a1)
 (AA ((.bool (AE (D1 m (Qy.c a1) a2>D1 m (Qy.c a1) {p0:=Pt.p0 a2,p1:=Pt.p1 a2,p2:=Pt.p2 a2,p3:=a3}))),[]))
 (AA (.bool AD,[]))))
 AB)))))
 (cond (AE (Qy.ft a1=ic 1))
 (cond (AE (Pt.p1 a2>=a3))
 (AA (.bool AD,[]))
 (cond (AE (Qy.ft a1=ic 0))
 (cond (Qy.fl a1)
 (cond (AE (D1 m (Qy.c a1) a2<D1 m (Qy.c a1) {p0:=a3,p1:=Pt.p1 a2,p2:=Pt.p2 a2,p3:=Pt.p3 a2}))
 (AA (.bool AC,[]))
 (cond (!Qy.fl a1)
 (AA ((.bool (AE (D1 m (Qy.c a1) a2>D1 m (Qy.c a1) {p0:=a3,p1:=Pt.p1 a2,p2:=Pt.p2 a2,p3:=Pt.p3 a2}))),[]))
 (AA (.bool AD,[]))))
 (cond (!Qy.fl a1)
 (AA ((.bool (AE (D1 m (Qy.c a1) a2>D1 m (Qy.c a1) {p0:=a3,p1:=Pt.p1 a2,p2:=Pt.p2 a2,p3:=Pt.p3 a2}))),[]))
 (AA (.bool AD,[]))))
 (cond (AE (Qy.ft a1=ic 1))
 (cond (Qy.fl a1)
 (cond (AE (D1 m (Qy.c a1) a2<D1 m (Qy.c a1) {p0:=Pt.p0 a2,p1:=a3,p2:=Pt.p2 a2,p3:=Pt.p3 a2}))
 (AA (.bool AC,[]))
 (cond (!Qy.fl a1)
 (AA ((.bool (AE (D1 m (Qy.c a1) a2>D1 m (Qy.c a1) {p0:=Pt.p0 a2,p1:=a3,p2:=Pt.p2 a2,p3:=Pt.p3 a2}))),[]))
 (AA (.bool AD,[]))))
 (cond (!Qy.fl a1)
 (AA ((.bool (AE (D1 m (Qy.c a1) a2>D1 m (Qy.c a1) {p0:=Pt.p0 a2,p1:=a3,p2:=Pt.p2 a2,p3:=Pt.p3 a2}))),[]))
 (AA (.bool AD,[]))))
 (cond (AE (Qy.ft a1=ic 2))
 (cond (Qy.fl a1)
 (cond (AE (D1 m (Qy.c a1) a2<D1 m (Qy.c a1) {p0:=Pt.p0 a2,p1:=Pt.p1 a2,p2:=a3,p3:=Pt.p3 a2}))
 (AA (.bool AC,[]))
 (cond (!Qy.fl a1)
 (AA ((.bool (AE (D1 m (Qy.c a1) a2>D1 m (Qy.c a1) {p0:=Pt.p0 a2,p1:=Pt.p1 a2,p2:=a3,p3:=Pt.p3 a2}))),[]))
 (AA (.bool AD,[]))))
 (cond (!Qy.fl a1)
 (AA ((.bool (AE (D1 m (Qy.c a1) a2>D1 m (Qy.c a1) {p0:=Pt.p0 a2,p1:=Pt.p1 a2,p2:=a3,p3:=Pt.p3 a2}))),[]))
 (AA (.bool AD,[]))))
 (cond (AE (Qy.ft a1=ic 3))
 (cond (Qy.fl a1)
 (cond (AE (D1 m (Qy.c a1) a2<D1 m (Qy.c a1) {p0:=Pt.p0 a2,p1:=Pt.p1 a2,p2:=Pt.p2 a2,p3:=a3}))
 (AA (.bool AC,[]))
 (cond (!Qy.fl a1)
 (AA ((.bool (AE (D1 m (Qy.c a1) a2>D1 m (Qy.c a1) {p0:=Pt.p0 a2,p1:=Pt.p1 a2,p2:=Pt.p2 a2,p3:=a3}))),[]))
 (AA (.bool AD,[]))))
 (cond (!Qy.fl a1)
 (AA ((.bool (AE (D1 m (Qy.c a1) a2>D1 m (Qy.c a1) {p0:=Pt.p0 a2,p1:=Pt.p1 a2,p2:=Pt.p2 a2,p3:=a3}))),[]))
 (AA (.bool AD,[]))))
 AB)))))
 (cond (AE (Qy.ft a1=ic 2))
 (cond (AE (Pt.p2 a2>=a3))
 (AA (.bool AD,[]))
 (cond (AE (Qy.ft a1=ic 0))
 (cond (Qy.fl a1)
 (cond (AE (D1 m (Qy.c a1) a2<D1 m (Qy.c a1) {p0:=a3,p1:=Pt.p1 a2,p2:=Pt.p2 a2,p3:=Pt.p3 a2}))
 (AA (.bool AC,[]))
 (cond (!Qy.fl a1)
 (AA ((.bool (AE (D1 m (Qy.c a1) a2>D1 m (Qy.c a1) {p0:=a3,p1:=Pt.p1 a2,p2:=Pt.p2 a2,p3:=Pt.p3 a2}))),[]))
 (AA (.bool AD,[]))))
 (cond (!Qy.fl a1)
 (AA ((.bool (AE (D1 m (Qy.c a1) a2>D1 m (Qy.c a1) {p0:=a3,p1:=Pt.p1 a2,p2:=Pt.p2 a2,p3:=Pt.p3 a2}))),[]))
 (AA (.bool AD,[]))))
 (cond (AE (Qy.ft a1=ic 1))
 (cond (Qy.fl a1)
 (cond (AE (D1 m (Qy.c a1) a2<D1 m (Qy.c a1) {p0:=Pt.p0 a2,p1:=a3,p2:=Pt.p2 a2,p3:=Pt.p3 a2}))
 (AA (.bool AC,[]))
 (cond (!Qy.fl a1)
 (AA ((.bool (AE (D1 m (Qy.c a1) a2>D1 m (Qy.c a1) {p0:=Pt.p0 a2,p1:=a3,p2:=Pt.p2 a2,p3:=Pt.p3 a2}))),[]))
 (AA (.bool AD,[]))))
 (cond (!Qy.fl a1)
 (AA ((.bool (AE (D1 m (Qy.c a1) a2>D1 m (Qy.c a1) {p0:=Pt.p0 a2,p1:=a3,p2:=Pt.p2 a2,p3:=Pt.p3 a2}))),[]))
 (AA (.bool AD,[]))))
 (cond (AE (Qy.ft a1=ic 2))
 (cond (Qy.fl a1)
 (cond (AE (D1 m (Qy.c a1) a2<D1 m (Qy.c a1) {p0:=Pt.p0 a2,p1:=Pt.p1 a2,p2:=a3,p3:=Pt.p3 a2}))
 (AA (.bool AC,[]))
 (cond (!Qy.fl a1)
 (AA ((.bool (AE (D1 m (Qy.c a1) a2>D1 m (Qy.c a1) {p0:=Pt.p0 a2,p1:=Pt.p1 a2,p2:=a3,p3:=Pt.p3 a2}))),[]))
 (AA (.bool AD,[]))))
 (cond (!Qy.fl a1)
 (AA ((.bool (AE (D1 m (Qy.c a1) a2>D1 m (Qy.c a1) {p0:=Pt.p0 a2,p1:=Pt.p1 a2,p2:=a3,p3:=Pt.p3 a2}))),[]))
 (AA (.bool AD,[]))))
 (cond (AE (Qy.ft a1=ic 3))
 (cond (Qy.fl a1)
 (cond (AE (D1 m (Qy.c a1) a2<D1 m (Qy.c a1) {p0:=Pt.p0 a2,p1:=Pt.p1 a2,p2:=Pt.p2 a2,p3:=a3}))
 (AA (.bool AC,[]))
 (cond (!Qy.fl a1)
 (AA ((.bool (AE (D1 m (Qy.c a1) a2>D1 m (Qy.c a1) {p0:=Pt.p0 a2,p1:=Pt.p1 a2,p2:=Pt.p2 a2,p3:=a3}))),[]))
 (AA (.bool AD,[]))))
 (cond (!Qy.fl a1)
 (AA ((.bool (AE (D1 m (Qy.c a1) a2>D1 m (Qy.c a1) {p0:=Pt.p0 a2,p1:=Pt.p1 a2,p2:=Pt.p2 a2,p3:=a3}))),[]))
 (AA (.bool AD,[]))))
 AB)))))
 (cond (AE (Qy.ft a1=ic 3))
 (cond (AE (Pt.p3 a2>=a3))
 (AA (.bool AD,[]))
 (cond (AE (Qy.ft a1=ic 0))
 (cond (Qy.fl a1)
 (cond (AE (D1 m (Qy.c a1) a2<D1 m (Qy.c a1) {p0:=a3,p1:=Pt.p1 a2,p2:=Pt.p2 a2,p3:=Pt.p3 a2}))
 (AA (.bool AC,[]))
 (cond (!Qy.fl a1)
 (AA ((.bool (AE (D1 m (Qy.c a1) a2>D1 m (Qy.c a1) {p0:=a3,p1:=Pt.p1 a2,p2:=Pt.p2 a2,p3:=Pt.p3 a2}))),[]))
 (AA (.bool AD,[]))))
 (cond (!Qy.fl a1)
 (AA ((.bool (AE (D1 m (Qy.c a1) a2>D1 m (Qy.c a1) {p0:=a3,p1:=Pt.p1 a2,p2:=Pt.p2 a2,p3:=Pt.p3 a2}))),[]))
 (AA (.bool AD,[]))))
 (cond (AE (Qy.ft a1=ic 1))
 (cond (Qy.fl a1)
 (cond (AE (D1 m (Qy.c a1) a2<D1 m (Qy.c a1) {p0:=Pt.p0 a2,p1:=a3,p2:=Pt.p2 a2,p3:=Pt.p3 a2}))
 (AA (.bool AC,[]))
 (cond (!Qy.fl a1)
 (AA ((.bool (AE (D1 m (Qy.c a1) a2>D1 m (Qy.c a1) {p0:=Pt.p0 a2,p1:=a3,p2:=Pt.p2 a2,p3:=Pt.p3 a2}))),[]))
 (AA (.bool AD,[]))))
 (cond (!Qy.fl a1)
 (AA ((.bool (AE (D1 m (Qy.c a1) a2>D1 m (Qy.c a1) {p0:=Pt.p0 a2,p1:=a3,p2:=Pt.p2 a2,p3:=Pt.p3 a2}))),[]))
 (AA (.bool AD,[]))))
 (cond (AE (Qy.ft a1=ic 2))
 (cond (Qy.fl a1)
 (cond (AE (D1 m (Qy.c a1) a2<D1 m (Qy.c a1) {p0:=Pt.p0 a2,p1:=Pt.p1 a2,p2:=a3,p3:=Pt.p3 a2}))
 (AA (.bool AC,[]))
 (cond (!Qy.fl a1)
 (AA ((.bool (AE (D1 m (Qy.c a1) a2>D1 m (Qy.c a1) {p0:=Pt.p0 a2,p1:=Pt.p1 a2,p2:=a3,p3:=Pt.p3 a2}))),[]))
 (AA (.bool AD,[]))))
 (cond (!Qy.fl a1)
 (AA ((.bool (AE (D1 m (Qy.c a1) a2>D1 m (Qy.c a1) {p0:=Pt.p0 a2,p1:=Pt.p1 a2,p2:=a3,p3:=Pt.p3 a2}))),[]))
 (AA (.bool AD,[]))))
 (cond (AE (Qy.ft a1=ic 3))
 (cond (Qy.fl a1)
 (cond (AE (D1 m (Qy.c a1) a2<D1 m (Qy.c a1) {p0:=Pt.p0 a2,p1:=Pt.p1 a2,p2:=Pt.p2 a2,p3:=a3}))
 (AA (.bool AC,[]))
 (cond (!Qy.fl a1)
 (AA ((.bool (AE (D1 m (Qy.c a1) a2>D1 m (Qy.c a1) {p0:=Pt.p0 a2,p1:=Pt.p1 a2,p2:=Pt.p2 a2,p3:=a3}))),[]))
 (AA (.bool AD,[]))))
 (cond (!Qy.fl a1)
 (AA ((.bool (AE (D1 m (Qy.c a1) a2>D1 m (Qy.c a1) {p0:=Pt.p0 a2,p1:=Pt.p1 a2,p2:=Pt.p2 a2,p3:=a3}))),[]))
 (AA (.bool AD,[]))))
 AB)))))
 AB))))))):=AF
theorem Sc(N:Nat)(m:Md)(a1:Qy)(a2:Pt)(b8:Bool)(x9 x38 x39:Int)(again:St->DU)(k:Out->St->DU):EY (MG N) (DS O2 [1,1,1,0,1,0,1,1,1,0,0,1,0,0])
 ⟨[(4,(.ptr 4 0 0)),(5,(.ptr 5 0 0)),(6,(.ptr 6 0 0)),(8,(.bool b8)),(9,(.i x9)),(38,(.i x38)),(39,(.i x39))],[(4,(AA (.box (Md.cs m)))),(5,(AA (.box (Qy.cs a1)))),(6,(AA (.box (Pt.cs a2))))]⟩
 (ES again ⟨[4,5,6,8,9,38,39],[4,5,6],[]⟩ k)=
 (cond (AE (x39<x38))
 (cond (x39 !=Qy.c a1)
 (cond (AE (D1 m x39 a2>=x9))
 (k .ret ⟨[(4,(.ptr 4 0 0)),(5,(.ptr 5 0 0)),(6,(.ptr 6 0 0)),(8,(.bool AC)),(9,(.i x9)),(38,(.i x38)),(39,(.i x39))],[(4,(AA (.box (Md.cs m)))),(5,(AA (.box (Qy.cs a1)))),(6,(AA (.box (Pt.cs a2))))]⟩)
 (again ⟨[(4,(.ptr 4 0 0)),(5,(.ptr 5 0 0)),(6,(.ptr 6 0 0)),(8,(.bool b8)),(9,(.i x9)),(38,(.i x38)),(39,(.i (AI AJ (x39+1))))],[(4,(AA (.box (Md.cs m)))),(5,(AA (.box (Qy.cs a1)))),(6,(AA (.box (Pt.cs a2))))]⟩))
 (again ⟨[(4,(.ptr 4 0 0)),(5,(.ptr 5 0 0)),(6,(.ptr 6 0 0)),(8,(.bool b8)),(9,(.i x9)),(38,(.i x38)),(39,(.i (AI AJ (x39+1))))],[(4,(AA (.box (Md.cs m)))),(5,(AA (.box (Qy.cs a1)))),(6,(AA (.box (Pt.cs a2))))]⟩))
 (k (.exit 1) ⟨[(4,(.ptr 4 0 0)),(5,(.ptr 5 0 0)),(6,(.ptr 6 0 0)),(8,(.bool b8)),(9,(.i x9)),(38,(.i x38)),(39,(.i x39))],[(4,(AA (.box (Md.cs m)))),(5,(AA (.box (Qy.cs a1)))),(6,(AA (.box (Pt.cs a2))))]⟩)):=AF
theorem ik(N:Nat)(m:Md)(a1:Qy)(a2:Pt)(b8:Bool)(x9 x38 x39:Int):(DW 1 (DX (MG N) (DS O2 [1,1,1,0,1,0,1,1,1,0,1]) (DW 0 (DX (MG N) (DS O2 [1,1,1,1]) (D2 (MG N) AB [.tmp 8] [[.bool]]))))) (.exit 1)
 ⟨[(4,(.ptr 4 0 0)),(5,(.ptr 5 0 0)),(6,(.ptr 6 0 0)),(8,(.bool b8)),(9,(.i x9)),(38,(.i x38)),(39,(.i x39))],[(4,(AA (.box (Md.cs m)))),(5,(AA (.box (Qy.cs a1)))),(6,(AA (.box (Pt.cs a2))))]⟩=
 (AA (.bool AD,[])):=AF
theorem il(N:Nat)(m:Md)(a1:Qy)(a2:Pt)(b8:Bool)(x9 x38 x39:Int):(DW 1 (DX (MG N) (DS O2 [1,1,1,0,1,0,1,1,1,0,1]) (DW 0 (DX (MG N) (DS O2 [1,1,1,1]) (D2 (MG N) AB [.tmp 8] [[.bool]]))))) .ret
 ⟨[(4,(.ptr 4 0 0)),(5,(.ptr 5 0 0)),(6,(.ptr 6 0 0)),(8,(.bool b8)),(9,(.i x9)),(38,(.i x38)),(39,(.i x39))],[(4,(AA (.box (Md.cs m)))),(5,(AA (.box (Qy.cs a1)))),(6,(AA (.box (Pt.cs a2))))]⟩=
 (AA (.bool b8,[])):=AF
def PW(N:Nat):Env:=EE [(88,dZ),(95,d7),(89,d9),(86,eC)] [(5,⟨[3,4,6,7,23,24,25],[3,4],[]⟩)] 38 N
theorem yn(N:Nat)(m:Md)(q:Qy)(most:Int):EA (PW N) TN [.tmp 6,.tmp 7] [[.bool],[.bool]] [(Md.V m),(Qy.V q),.i most]=
 (cond (EU m&&(Bx.goodB (FG q)&&(AE (1<=most)&&AE (most<=65536))))
 (cond (!!I6 m q (FG q) most)
 (AA (.tup [.bool AD,.bool AD],[]))
 (D3 (PW N) (DS TN [1,1,1,0,1,0,0]) ⟨[3,4,6,7,23,24,25],[3,4],[]⟩ N ⟨[(3,(.ptr 3 0 0)),(4,(.ptr 4 0 0)),(6,(.bool AD)),(7,(.bool AD)),(23,(.list AC ET (bif I6 m q (FG q) most then[]else BG Bx.I (JR m q (FG q) 5)))),(24,(.i (ic (AN (bif I6 m q (FG q) most then[]else BG Bx.I (JR m q (FG q) 5)))))),(25,(.i 0))],[(3,(AA (.box (Md.cs m)))),(4,(AA (.box (Qy.cs q))))]⟩ (DW 0 (DX (PW N) (DS TN [1,1,1,1]) (D2 (PW N) AB [.tmp 6,.tmp 7] [[.bool],[.bool]])))))
 AB):=AF
theorem Sd(N:Nat)(m:Md)(q:Qy)(b6 b7:Bool)(l23:LI)(x24 x25:Int)(again:St->DU)(k:Out->St->DU):EY (PW N) (DS TN [1,1,1,0,1,0,0])
 ⟨[(3,(.ptr 3 0 0)),(4,(.ptr 4 0 0)),(6,(.bool b6)),(7,(.bool b7)),(23,(.list AC ET l23)),(24,(.i x24)),(25,(.i x25))],[(3,(AA (.box (Md.cs m)))),(4,(AA (.box (Qy.cs q))))]⟩
 (ES again ⟨[3,4,6,7,23,24,25],[3,4],[]⟩ k)=
 (cond (AE (x25<x24))
 (cond (AE (0<=x25)&&AE (x25<ic (AN l23)))
 (cond (GH m q (Bx.low (EG (AR l23 (AM x25) default))) (IV.toInt (IV.cell (AR l23 (AM x25) default) 9)))
 (k .ret ⟨[(3,(.ptr 3 0 0)),(4,(.ptr 4 0 0)),(6,(.bool AD)),(7,(.bool AC)),(23,(.list AC ET l23)),(24,(.i x24)),(25,(.i x25))],[(3,(AA (.box (Md.cs m)))),(4,(AA (.box (Qy.cs q))))]⟩)
 (again ⟨[(3,(.ptr 3 0 0)),(4,(.ptr 4 0 0)),(6,(.bool b6)),(7,(.bool b7)),(23,(.list AC ET l23)),(24,(.i x24)),(25,(.i (AI AJ (x25+1))))],[(3,(AA (.box (Md.cs m)))),(4,(AA (.box (Qy.cs q))))]⟩))
 AB)
 (k (.exit 0) ⟨[(3,(.ptr 3 0 0)),(4,(.ptr 4 0 0)),(6,(.bool b6)),(7,(.bool b7)),(23,(.list AC ET l23)),(24,(.i x24)),(25,(.i x25))],[(3,(AA (.box (Md.cs m)))),(4,(AA (.box (Qy.cs q))))]⟩)):=AF
theorem im(N:Nat)(m:Md)(q:Qy)(b6 b7:Bool)(l23:LI)(x24 x25:Int):(DW 0 (DX (PW N) (DS TN [1,1,1,1]) (D2 (PW N) AB [.tmp 6,.tmp 7] [[.bool],[.bool]]))) (.exit 0)
 ⟨[(3,(.ptr 3 0 0)),(4,(.ptr 4 0 0)),(6,(.bool b6)),(7,(.bool b7)),(23,(.list AC ET l23)),(24,(.i x24)),(25,(.i x25))],[(3,(AA (.box (Md.cs m)))),(4,(AA (.box (Qy.cs q))))]⟩=
 (AA (.tup [.bool AC,.bool AC],[])):=AF
theorem iq(N:Nat)(m:Md)(q:Qy)(b6 b7:Bool)(l23:LI)(x24 x25:Int):(DW 0 (DX (PW N) (DS TN [1,1,1,1]) (D2 (PW N) AB [.tmp 6,.tmp 7] [[.bool],[.bool]]))) .ret
 ⟨[(3,(.ptr 3 0 0)),(4,(.ptr 4 0 0)),(6,(.bool b6)),(7,(.bool b7)),(23,(.list AC ET l23)),(24,(.i x24)),(25,(.i x25))],[(3,(AA (.box (Md.cs m)))),(4,(AA (.box (Qy.cs q))))]⟩=
 (AA (.tup [.bool b6,.bool b7],[])):=AF
def Ws(N:Nat):Env:=EE [] [(3,⟨[1,2,3,5],[1,2,3],[]⟩)] 16 N
open Go Go.Proofs
abbrev iL:KP:=⟨[2,3,4,33,34],[2,3],[]⟩
def UZ(N:Nat):Env:=EE [(134,S8),(75,XC)] [(4,⟨[2,3,4,33,34],[2,3],[]⟩)] 139 N
abbrev LE:DU:=AA (V.bool AD,[])
abbrev PT(m:Md)(q:Qy)(i:Int):St:=⟨[(2,.ptr 2 0 0),(3,.ptr 3 0 0),(4,.bool AD),(33,.agg [.i q.a0,.i q.b0,.i q.a1,.i q.b1,.i q.a2,.i q.b2,.i q.a3,.i q.b3,.i q.a4,.i q.b4]),(34,.i i)],[(2,AA (.box m.cs)),(3,AA (.box q.cs))]⟩
def vQ(d i:Int)(s:Sp)(F rest:DU):DU:=
 cond (AE (i<d)) (cond (AE (s.lo>s.hi)) F (cond (!(E4 s.lo)) F (cond (!(E4 s.hi)) F (cond (AE (i>=d)) (cond (!((s.lo==0)&&((s.hi==0)&&AC))) F rest) rest))))
  (cond (AE (i>=d)) (cond (!((s.lo==0)&&((s.hi==0)&&AC))) F rest) rest)
noncomputable abbrev YP(N:Nat):Out->St->DU:=DW 0 (DX (UZ N) (DS VH [1,1,1]) (D2 (UZ N) AB [.tmp 4] [[.bool]]))
set_option maxRecDepth 100000
theorem yl(N:Nat)(m:Md)(q:Qy):EA (UZ N) VH [.tmp 4] [[.bool]] [m.V,q.V]=
 cond (!(EU m)) LE (cond (AE (q.c<0)) LE (cond (AE (q.c>=m.c)) LE (cond (AE (q.bu<0)) LE (cond (AE (q.bu>65536)) LE
 (D3 (UZ N) (DS VH [1,1,0,1,0,0]) iL N (PT m q 0) (YP N)))))):=AF
theorem ze7(N:Nat)(m:Md)(q:Qy){j:Nat}(hj:j<5)(again:St->DU)(k:Out->St->DU):EY (UZ N) (DS VH [1,1,0,1,0,0]) (PT m q (j:Int)) (ES again iL k)=
 vQ m.d (j:Int) (q.bx.g j) (k .ret (PT m q (j:Int))) (again (PT m q (D7 ((j:Int)+1)))):=by
 obtain rfl|rfl|rfl|rfl|rfl:j=0\/j=1\/j=2\/j=3\/j=4:=by omega
 all_goals kernel_rfl
theorem ze8(N:Nat)(m:Md)(q:Qy)(again:St->DU)(k:Out->St->DU):EY (UZ N) (DS VH [1,1,0,1,0,0]) (PT m q 5) (ES again iL k)=k (.exit 0) (PT m q 5):=AF
theorem kc(N:Nat)(m:Md)(q:Qy)(i:Int):YP N .ret (PT m q i)=LE:=AF
theorem kb(N:Nat)(m:Md)(q:Qy)(i:Int):YP N (.exit 0) (PT m q i)=
 cond (q.k==1) (cond (AE (q.lo<=q.hi)) (cond (q.ft==0) (AA (.bool (!q.fl),[])) LE) LE)
 (cond (q.k==2) (cond (AE (m.c>=2)) (cond (q.lo==0) (cond (q.hi==0) (cond (q.ft==0) (AA (.bool (!q.fl),[])) LE) LE) LE) LE)
 (cond (q.k==3) (cond (AE (q.ft>=0)) (cond (AE (q.ft<m.d)) (cond (q.lo==0) (AA (.bool (q.hi==0),[])) LE) LE) LE) LE)):=AF
open Go Go.Proofs
set_option maxRecDepth 100000
theorem zdd(b:Bx):EA (Ws 5) Bb [.cell 2 48] [[.z,.z,.z,.z]] [b.V]=AA (b.low.V,[]):=AF
theorem zdY:D6 PR B0 89 d9:=by
 refine EF [] [(3,⟨[1,2,3,5],[1,2,3],[]⟩)] d9 [[.z,.z,.z,.z]] Tryz.func89 pc trivial ?_;intro vs r hwf h;unfold d9 at h;split at h
 .rename_i b;replace h:=JJ h;obtain⟨b,rfl,h⟩:=h;rw[R.get_ok]at h;exact⟨5,(zdd b).trans h⟩
 .simp[R.get]at h
theorem zd0:D6 PR B0 86 eC:=by
 refine EF [] [] eC [[.z,.z,.z,.z,.z,.z,.z,.z,.z,.z]] Tryz.func86 pf trivial ?_;intro vs r hwf h;unfold eC at h;split at h
 .rename_i q;replace h:=JB h;obtain⟨q,rfl,h⟩:=h;rw[R.get_ok]at h;refine⟨0,(ym 0 q).trans ?_⟩;rw[<-h];unfold FG;cases hp:G1 q with
  |true=>
   have hp':=hp;unfold G1 at hp';simp only[AQ]at hp';obtain⟨h1,h2,h3⟩:=hp';rw[h1,h2,h3];rcases QJ hp with e|e|e|e<;>rw[e]<;>rfl
  |false=>
   cases h1:(q.k==3)<;>cases h2:AE (q.ft>=0)<;>cases h3:AE (q.ft<4)<;>first|rfl|(unfold G1 at hp;rw[h1,h2,h3]at hp;cases hp)
 .simp[R.get]at h
theorem zcK(d i:Int)(s:Sp)(F rest:DU):vQ d i s F rest=cond (H3 d i s) rest F:=by
 unfold vQ H3 Sp.emp;rw[CK];by_cases hd:i<d
 .rw[AL hd,AS (show¬i>=d by omega)];cases AE (s.lo>s.hi)<;>cases E4 s.lo<;>cases E4 s.hi<;>rfl
 .rw[AS hd,AL (show i>=d by omega)];cases hz:((s.lo==0)&&(s.hi==0))with
  |false=>rfl
  |true=>
   simp only[AQ,CF]at hz;rw[hz.1,hz.2];rfl
theorem Oe(N:Nat)(m:Md)(q:Qy)(R:DU)(hx:YP N (.exit 0) (PT m q 5)=R):∀(d j n:Nat),j+d=5->d<n->(∃r,D3 (UZ N) (DS VH [1,1,0,1,0,0]) iL n (PT m q (j:Int)) (YP N)=cond r R LE/\r=((vbh j d).all λi=>H3 m.d (i:Int) (q.bx.g i)))
 |0,j,n+1,hd,_=>by
  obtain rfl:j=5:=by omega
  exact⟨AC,by rw[D8];exact(ze8 N m q _ _).trans hx,rfl⟩
 |d+1,j,n+1,hd,hn=>by
  obtain⟨r,e1,e2⟩:=Oe N m q R hx d (j+1) n AG AG;refine⟨H3 m.d (j:Int) (q.bx.g j)&&r,?_,?_⟩
  .rw[D8,ze7 N m q AG,show D7 ((j:Int)+1)=((j+1:Nat):Int)from GM AG,e1,kc,zcK];cases H3 m.d (j:Int) (q.bx.g j)<;>rfl
  .rw[List.range'_succ,van,e2]
 |0,_,0,_,h=>by omega
 |_+1,_,0,_,h=>by omega
theorem nI(a b:Int):AE (a>=b)=!decide (a<b):=by
 by_cases h:a<b
 .rw[AL h,AS AG];rfl
 .rw[AS h,AL AG];rfl
theorem za7(a b:Int):AE (a<b)=!decide (a>=b):=by
 rw[nI,Bool.not_not]
theorem za8(a b:Int):AE (a<=b)=!decide (a>b):=nI b a
theorem zdZ:D6 PR B0 85 eB:=by
 refine EF [(134,S8),(75,XC)] [(4,⟨[2,3,4,33,34],[2,3],[]⟩)] eB [[.bool]] Tryz.func85 pd ⟨wQ,Pq,trivial⟩ ?_;intro vs r hwf h;unfold eB at h;split at h
 .rename_i m q;replace h:=II h;obtain⟨m,rfl,h⟩:=h;replace h:=JB h;obtain⟨q,rfl,h⟩:=h;rw[R.get_ok]at h;refine⟨6,(yl 6 m q).trans ?_⟩;rw[<-h];have er:E8 m q=(EU m&&(AE (q.c>=0)&&(AE (q.c<m.c)&&(AE (q.bu>=0)&&(AE (q.bu<=65536)&&(((vbh 0 5).all λi=>H3 m.d (i:Int) (q.bx.g i))&&OF m q)))))):=by
   have:((vbh 0 5).all λi=>H3 m.d (i:Int) (q.bx.g i))=(H3 m.d 0 q.bx.s0&&(H3 m.d 1 q.bx.s1&&(H3 m.d 2 q.bx.s2&&(H3 m.d 3 q.bx.s3&&(H3 m.d 4 q.bx.s4&&AC))))):=rfl
   rw[this,CK];rfl
  have ek:YP 6 (.exit 0) (PT m q 5)=AA (V.bool (OF m q),[]):=by
   rw[kb];unfold OF;cases(q.k==1)<;>cases(q.k==2)<;>cases(q.k==3)<;>cases AE (q.lo<=q.hi)<;>cases(q.ft==0)<;>cases AE (m.c>=2)<;>cases(q.lo==0)<;>cases(q.hi==0)<;>cases AE (q.ft>=0)<;>cases AE (q.ft<m.d)<;>rfl
  obtain⟨r,e1,e2⟩:=Oe 6 m q _ ek 5 0 6 rfl AG;replace e1:D3 (UZ 6) (DS VH [1,1,0,1,0,0]) iL 6 (PT m q 0) (YP 6)=cond r (AA (V.bool (OF m q),[])) LE:=e1;rw[e1,er,<-e2,nI q.c 0,za7 q.c m.c,nI q.bu 0,za8 q.bu 65536];cases EU m<;>cases AE (q.c<0)<;>cases AE (q.c>=m.c)<;>cases AE (q.bu<0)<;>cases AE (q.bu>65536)<;>cases r<;>rfl
 .simp[R.get]at h
abbrev zf8(m:Md)(q:Qy)(p:Pt)(own i:Int):St:=
 ⟨[(4,(.ptr 4 0 0)),(5,(.ptr 5 0 0)),(6,(.ptr 6 0 0)),(8,(.bool AD)),(9,(.i own)),(38,(.i (Md.c m))),(39,(.i i))],[(4,(AA (.box (Md.cs m)))),(5,(AA (.box (Qy.cs q)))),(6,(AA (.box (Pt.cs p))))]⟩
theorem Mv(N:Nat)(m:Md)(q:Qy)(p:Pt)(own:Int)(hc:0<=m.c/\m.c<=3):∀(d i n:Nat),((i+d:Nat):Int)=m.c->d<n->
  D3 (MG N) (DS O2 [1,1,1,0,1,0,1,1,1,0,0,1,0,0]) ⟨[4,5,6,8,9,38,39],[4,5,6],[]⟩ n (zf8 m q p own (i:Int)) (DW 1 (DX (MG N) (DS O2 [1,1,1,0,1,0,1,1,1,0,1]) (DW 0 (DX (MG N) (DS O2 [1,1,1,1]) (D2 (MG N) AB [(B7 8)] [[.bool]])))))=
   AA (.bool (XX m q p own d i),[])
 |d,i,0,_,h=>absurd h AG
 |0,i,n+1,hd,_=>by
  rw[D8,Sc,AS (show¬(i:Int)<m.c by omega),DR];exact ik N m q p _ _ _ _
 |d+1,i,n+1,hd,hn=>by
  have ei:AI AJ ((i:Int)+1)=((i+1:Nat):Int):=GM AG;rw[D8,Sc,ei,AL (show(i:Int)<m.c by omega),DQ,XX];have ih:=Mv N m q p own hc d (i+1) n AG AG;have en:((i:Int)!=q.c)=!((i:Int)==q.c):=rfl;rw[en];cases((i:Int)==q.c)with
  |true=>exact ih
  |false=>
   rw[BF,DQ,BI];cases AE (D1 m (i:Int) p>=own)with
   |true=>exact il N m q p _ _ _ _
   |false=>exact ih
theorem zdV:D6 PR B0 88 dZ:=by
 refine EF [(85,eB),(143,eG)] [(9,⟨[4,5,6,8,9,38,39],[4,5,6],[]⟩)] dZ [[.bool]] Tryz.func88 oz ⟨zdZ,zd3,trivial⟩ ?_;intro vs r hwf h;unfold dZ at h;split at h
 .rename_i m q p t;replace h:=II h;obtain⟨m,rfl,h⟩:=h;replace h:=JB h;obtain⟨q,rfl,h⟩:=h;replace h:=RN h;obtain⟨p,rfl,h⟩:=h;rw[R.get_ok]at h;refine⟨10,?_⟩;rw[<-h];refine(yi 10 m q p t).trans ?_;unfold GH;cases hr:E8 m q with
  |false=>rfl
  |true=>
   obtain⟨hm,_,_,_,hk⟩:=SO hr;have hmp:=KC hm;rw[A9,DR,BI];cases h1:(q.k==1)with
   |true=>
    rw[DQ,DQ];unfold Sp.has;by_cases hlo:D1 m q.c p<q.lo
    .rw[AL hlo,DQ,AS (show¬q.lo<=D1 m q.c p by omega)];rfl
    .rw[AS hlo,DR,AL (show q.lo<=D1 m q.c p by omega),BI,<-decide_not];refine congrArg (λz=>AA (V.bool z,([]:List (List V)))) ?_;rw[decide_eq_decide];show D1 m q.c p>q.hi↔¬D1 m q.c p<=q.hi;omega
   |false=>
    rw[DR,DR];cases h2:(q.k==2)with
    |true=>
     rw[DQ,DQ];refine(Mv 10 m q p _ AG m.c.toNat 0 10 AG AG).trans ?_;rw[pK,<-List.range_eq_range'];rfl
    |false=>
     rw[DR,DR];rcases aW hk with⟨e,_⟩|⟨e,_⟩|⟨ek,⟨f0,fd⟩,_⟩
     .rw[e]at h1;cases h1
     .rw[e]at h2;cases h2
     .have hp:G1 q=AC:=by
       unfold G1;rw[ek,AL (show q.ft>=0 from f0),AL (show q.ft<4 by omega)];rfl
      have step:∀(x:Int) (p':Pt),p'=H2 q p t->cond (AE (x>=t)) (AA (V.bool AD,[])) (cond q.fl (cond (AE (D1 m q.c p<D1 m q.c p')) (AA (V.bool AC,[])) (cond (!q.fl) (AA (V.bool (AE (D1 m q.c p>D1 m q.c p')),[])) (AA (V.bool AD,[]))))
         (cond (!q.fl) (AA (V.bool (AE (D1 m q.c p>D1 m q.c p')),[])) (AA (V.bool AD,[]))))=
        AA (V.bool (cond (AE (x>=t)) AD (cond q.fl (AE (D1 m q.c (H2 q p t)>D1 m q.c p)) (AE (D1 m q.c (H2 q p t)<D1 m q.c p)))),([]:List (List V))):=λx p' e=>by
       subst e;cases AE (x>=t)with
       |true=>rfl
       |false=>
        cases q.fl with
        |true=>
         show cond (AE (D1 m q.c p<D1 m q.c (H2 q p t))) _ _=AA (V.bool (AE (D1 m q.c p<D1 m q.c (H2 q p t))),[]);cases AE (D1 m q.c p<D1 m q.c (H2 q p t))<;>rfl
        |false=>rfl
      have es:∀n:Nat,q.ft.toNat=n->H2 q p t=p.p t n:=λn e=>by unfold H2;rw[hp,DQ,e]
      obtain e|e|e|e:q.ft=0\/q.ft=1\/q.ft=2\/q.ft=3:=by omega
      .have e2:=es 0 (by rw[e];rfl);rw[e];exact step _ _ e2.symm
      .have e2:=es 1 (by rw[e];rfl);rw[e];exact step _ _ e2.symm
      .have e2:=es 2 (by rw[e];rfl);rw[e];exact step _ _ e2.symm
      .have e2:=es 3 (by rw[e];rfl);rw[e];exact step _ _ e2.symm
 .simp[R.get]at h
abbrev zge(m:Md)(q:Qy)(l:LI)(i:Int):St:=⟨[(3,(.ptr 3 0 0)),(4,(.ptr 4 0 0)),(6,(.bool AD)),(7,(.bool AD)),(23,(.list AC ET l)),(24,(.i (ic l.length))),(25,(.i i))],[(3,(AA (.box (Md.cs m)))),(4,(AA (.box (Qy.cs q))))]⟩
theorem Us(N:Nat)(m:Md)(q:Qy)(cs:List Bx)(hl:cs.length<=65536):∀(d i n:Nat),i+d=cs.length->d<n->
  D3 (PW N) (DS TN [1,1,1,0,1,0,0]) ⟨[3,4,6,7,23,24,25],[3,4],[]⟩ n (zge m q (cs.map Bx.I) (i:Int)) (DW 0 (DX (PW N) (DS TN [1,1,1,1]) (D2 (PW N) AB [(B7 6),(B7 7)] [[.bool],[.bool]])))=
   AA (.tup [.bool ((cs.drop i).all λc=>!(GH m q c.low c.s4.hi)),.bool AC],[])
 |0,i,n+1,hd,_=>by
  have hi:i=cs.length:=by omega
  subst hi;rw[D8,Sd,IZ (by rw[BW];exact A4 _),DR,C8];exact im N m q AD AD _ _ _
 |d+1,i,n+1,hd,hn=>by
  have hi:i<cs.length:=by omega
  have hi':i<(cs.map Bx.I).length:=by rw[BW];exact hi
  have ih:=Us N m q cs hl d (i+1) n AG AG;have ec:(cs.map Bx.I)[i]=(cs[i]).I:=by rw[List.getElem_map]
  rw[D8,Sd,HY hi',DQ,IM,BR,DQ,IX hi',ec,BJ hi,van,show AI AJ ((i:Int)+1)=((i+1:Nat):Int)from GM AG];show cond (GH m q cs[i].low cs[i].s4.hi) _ _=_;cases GH m q cs[i].low cs[i].s4.hi with
  |true=>
   rw[DQ];exact iq N m q AD AC _ _ _
  |false=>
   rw[DR,BF,BI];exact ih
 |0,_,0,_,h=>by omega
 |_+1,_,0,_,h=>by omega
theorem zd1:D6 PR B0 34 eD:=by
 refine EF [(88,dZ),(95,d7),(89,d9),(86,eC)] [(5,⟨[3,4,6,7,23,24,25],[3,4],[]⟩)] eD [[.bool],[.bool]] Tryz.func34 ph ⟨zdV,zdW,zdY,zd0,trivial⟩ ?_;intro vs r hwf h;unfold eD at h;split at h
 .rename_i m q most;replace h:=II h;obtain⟨m,rfl,h⟩:=h;replace h:=JB h;obtain⟨q,rfl,h⟩:=h;cases hg:(E8 m q&&(AE (1<=most)&&AE (most<=65536)))with
  |false=>rw[hg]at h;simp[R.get]at h
  |true=>
  rw[hg,R.get_br,DQ,R.get_ok]at h;simp only[AQ,AZ]at hg;obtain⟨hr,h1,h2⟩:=hg;refine⟨65537,(yn 65537 m q most).trans ?_⟩;rw[<-h,(SO hr).1,mh (WD hr),AL h1,AL h2];rw[show(AC&&(AC&&(AC&&AC)))=AC from rfl,DQ];cases ho:I6 m q (FG q) most with
  |true=>rfl
  |false=>
   have hc2:(JR m q (FG q) 5).length<=65536:=by
    rw[qG];unfold I6 at ho
    have:=BM ho
    simp only[ic]at this;omega
   rw[BF,A9,DR,DR];exact Us 65537 m q (JR m q (FG q) 5) hc2 (JR m q (FG q) 5).length 0 65537 AG AG
 .simp[R.get]at h
open Go Go.Proofs
def Xg(N:Nat):Env:=EE [(43,TA),(187,eV),(100,XF),(82,U4),(55,Z0),(102,Z2)] [] 76 N
theorem zm(N:Nat)(s:BA):EA (Xg N) Bp [.tmp 2,.tmp 3] [[.z],[.bool]] [.str s]=
 (cond (AE (AP (GT s {data:=#[45]})<4294967281))
 (cond (AE (ic (AP (GA (GT s {data:=#[45]}) {data:=#[46]}))>8))
 (AA (.tup [.i 0,.bool AD],[]))
 (cond (AE (0<=AI AJ (8-ic (AP (GA (GT s {data:=#[45]}) {data:=#[46]}))))&&AE (AP {data:=#[48]}*AM (AI AJ (8-ic (AP (GA (GT s {data:=#[45]}) {data:=#[46]}))))<=strMax))
 (cond (AE (AP (GA (GT s {data:=#[45]}) {data:=#[46]})+AP (IF {data:=#[48]} (AM (AI AJ (8-ic (AP (GA (GT s {data:=#[45]}) {data:=#[46]}))))))<=strMax))
 (cond (!JT (cutL (GT s {data:=#[45]}) {data:=#[46]}))
 (AA (.tup [.i 0,.bool AD],[]))
 (cond (!JT (GA (GT s {data:=#[45]}) {data:=#[46]}++IF {data:=#[48]} (AM (AI AJ (8-ic (AP (GA (GT s {data:=#[45]}) {data:=#[46]})))))))
 (AA (.tup [.i 0,.bool AD],[]))
 (cond (AE (G2 (cutL (GT s {data:=#[45]}) {data:=#[46]})>36028797018963968))
 (AA (.tup [.i 0,.bool AD],[]))
 (cond (Int.tmod (G2 (GA (GT s {data:=#[45]}) {data:=#[46]}++IF {data:=#[48]} (AM (AI AJ (8-ic (AP (GA (GT s {data:=#[45]}) {data:=#[46]}))))))) 390625!=0)
 (AA (.tup [.i 0,.bool AD],[]))
 (cond (P7 s {data:=#[45]})
 (cond (A7 (D5 (AI AJ (AI AO (0-AI AO (AI AO (G2 (cutL (GT s {data:=#[45]}) {data:=#[46]})*2^min (AM 8) (AT AO))+AI AO (Int.tdiv (G2 (GA (GT s {data:=#[45]}) {data:=#[46]}++IF {data:=#[48]} (AM (AI AJ (8-ic (AP (GA (GT s {data:=#[45]}) {data:=#[46]}))))))) 390625))))))==A7 s)
 (AA ((.tup [(.i (AI AJ (AI AO (0-AI AO (AI AO (G2 (cutL (GT s {data:=#[45]}) {data:=#[46]})*2^min (AM 8) (AT AO))+AI AO (Int.tdiv (G2 (GA (GT s {data:=#[45]}) {data:=#[46]}++IF {data:=#[48]} (AM (AI AJ (8-ic (AP (GA (GT s {data:=#[45]}) {data:=#[46]}))))))) 390625)))))),.bool AC]),[]))
 (AA (.tup [.i 0,.bool AD],[])))
 (cond (A7 (D5 (AI AJ (AI AO (AI AO (G2 (cutL (GT s {data:=#[45]}) {data:=#[46]})*2^min (AM 8) (AT AO))+AI AO (Int.tdiv (G2 (GA (GT s {data:=#[45]}) {data:=#[46]}++IF {data:=#[48]} (AM (AI AJ (8-ic (AP (GA (GT s {data:=#[45]}) {data:=#[46]}))))))) 390625)))))==A7 s)
 (AA ((.tup [(.i (AI AJ (AI AO (AI AO (G2 (cutL (GT s {data:=#[45]}) {data:=#[46]})*2^min (AM 8) (AT AO))+AI AO (Int.tdiv (G2 (GA (GT s {data:=#[45]}) {data:=#[46]}++IF {data:=#[48]} (AM (AI AJ (8-ic (AP (GA (GT s {data:=#[45]}) {data:=#[46]}))))))) 390625))))),.bool AC]),[]))
 (AA (.tup [.i 0,.bool AD],[]))))))))
 AB)
 AB))
 AB):=AF
open Go Go.Proofs
theorem Pu:D6 PR B0 100 XF:=by
 refine EF [] [(3,⟨[0,1,2],[],[]⟩)] XF [[.int .u64]] Tryz.func100 qh trivial ?_;intro vs r hwf h;unfold XF at h;split at h
 .refine⟨9,?_⟩;rw[<-h];show EA (Xi 9) Br [.tmp 0] [[.int .u64]] []=_
  kernel_rfl
 .simp[R.get]at h
theorem zci{s:BA}(h:JT s=AC):0<s.size:=by
 unfold JT at h;split at h
 .rename_i v hv
  have:s.data.toList≠[]:=λe=>by rw[e]at hv;cases hv
  rw[UC];exact List.length_pos_iff.2 this
 .cases h
theorem zch{s:BA}(h:JT s=AC):(AR s.data.toList 0 0).toNat≠43:=by
 unfold JT at h;split at h
 .rename_i v hv;revert hv;cases s.data.toList with
  |nil=>intro _;decide
  |cons c r=>
   intro hv he;have he:c.toNat=43:=he;unfold Lib.parseMag at hv;rw[BO (by simp),vbA,BO AG]at hv;cases hv
 .cases h
theorem zeb:D6 PR B0 187 eV:=by
 refine EF [(225,kP)] [] eV [[.int .u64],[.bool]] Tryz.func187 qg ⟨zeO,trivial⟩ ?_;intro vs r hwf h;unfold eV at h;split at h
 .rename_i s;refine⟨0,?_⟩;rw[<-h];refine(zn 0 s).trans ?_;simp only[R.get_ok];cases hp:JT s with
  |false=>simp only[DR]
  |true=>
   have h1:(AE (0<=0)&&AE (0<ic (AP s)))=AC:=by
    have:=zci hp
    simp[ic];omega
   have h2:(ic (UInt8.toNat (AR (Array.toList (ByteArray.data s)) (AM 0) 0))!=43)=AC:=by
    have:=zch hp
    rw[zX];simp only[ic,Int.toNat_zero];simp only[CE,B3];omega
   rw[h1,h2];simp only[DQ]
 .simp[R.get]at h
theorem yJ{n:Int}(h0:0<=n)(h1:n<18446744073709551616):AI .u64 n=n:=by rw[vbf];omega
theorem zf2{n:Int}(h0:n<0)(h1: -9223372036854775808<=n):AI .u64 (0-AI .u64 n)=(n.natAbs:Int):=by rw[vbf,vbf];omega
theorem zf3{n:Int}(h0:¬n<0)(h1:n<=9223372036854775807):AI .u64 n=(n.natAbs:Int):=by rw[vbf];omega
theorem y0(u:Nat)(h:u<18446744073709551616):AI .u64 (ic (B1 (A0 (AT AO) (u:Int)&&&A0 (AT AO) 255)))=((u%256:Nat):Int):=by
 have e:B1 (A0 (AT AO) (u:Int)&&&A0 (AT AO) 255)=u%256:=by
  have h1:(A0 (AT AO) (u:Int)).toNat=u:=by
   show(A0 64 (u:Int)).toNat=u;rw[BitVec.toNat_ofInt];omega
  have h2:(A0 (AT AO) 255).toNat=2^8-1:=by rfl
  rw[BitVec.toNat_and,h1,h2,Nat.and_two_pow_sub_one_eq_mod]
 rw[e];exact yJ (by simp[ic];omega) (by simp[ic];omega)
theorem Pe(u:Nat):C4 (u:Int) (2^min (AM 8) (AT AO))=((u/256:Nat):Int):=by
 have e:(2:Int)^min (AM 8) (AT AO)=((256:Nat):Int):=rfl;rw[e,vaH _ AG];rfl
theorem Jm{r:Nat}(h:r<256):AI .u64 ((r:Int)*390625)=((r*390625:Nat):Int):=by
 rw[yJ AG AG];omega
theorem tX(u:Nat):FK (u:Int)=⟨(CS u).toArray⟩:=rfl
theorem dy:(vaQ 256).all (λr=>CG (CS (r*390625)).length 8)=AC:=AF
theorem dx{r:Nat}(h:r<256):(CS (r*390625)).length<=8:=by
 have:=CZ.1 dy r (vbk.2 h)
 exact AX this
theorem Ew(l:List UInt8):(⟨l.toArray⟩:BA).data.toList=l:=rfl
theorem g7(s t:BA):(s++t).data.toList=s.data.toList++t.data.toList:=by simp
theorem zdq(l:List UInt8):(⟨l.toArray⟩:BA).size=l.length:=by rw[UC]
theorem Lz{u:Nat}(hu:u<18446744073709551616)(sg:BA)(hsg:sg.size<=1)(K:BA)(hK:K=sg++⟨(I8 u).toArray⟩):
  (cond (AE (AP sg+AP (FK ((u/256:Nat):Int))<=strMax))
   (cond (((u%256:Nat):Int)==0)
    (AA (.str (sg++FK ((u/256:Nat):Int)),[]))
    (cond (AE (AP (sg++FK ((u/256:Nat):Int))+AP {data:=#[46]}<=strMax))
     (cond (AE (0<=AI AJ (8-ic (AP (FK ((u%256*390625:Nat):Int)))))&&AE (AP {data:=#[48]}*AM (AI AJ (8-ic (AP (FK ((u%256*390625:Nat):Int)))))<=strMax))
      (cond (AE (AP (IF {data:=#[48]} (AM (AI AJ (8-ic (AP (FK ((u%256*390625:Nat):Int)))))))+AP (FK ((u%256*390625:Nat):Int))<=strMax))
       (cond (AE (AP (sg++FK ((u/256:Nat):Int)++{data:=#[46]})+AP (QO (IF {data:=#[48]} (AM (AI AJ (8-ic (AP (FK ((u%256*390625:Nat):Int))))))++FK ((u%256*390625:Nat):Int)) {data:=#[48]})<=strMax))
        (AA ((.str (sg++FK ((u/256:Nat):Int)++{data:=#[46]}++QO (IF {data:=#[48]} (AM (AI AJ (8-ic (AP (FK ((u%256*390625:Nat):Int))))))++FK ((u%256*390625:Nat):Int)) {data:=#[48]})),[]))
        AB)
       AB)
      AB)
     AB))
   AB)=(AA (V.str K,[]):DU):=by
 have hr:u%256<256:=by omega
 have l1:(FK ((u/256:Nat):Int)).size<=20:=tY AG AG;have l2:(FK ((u%256*390625:Nat):Int)).size=(CS (u%256*390625)).length:=by rw[tX,zdq]
 have l3:=dx hr;generalize hD:CS (u%256*390625)=D at l2 l3;have e8:AI AJ (8-ic (AP (FK ((u%256*390625:Nat):Int))))=((8-D.length:Nat):Int):=by
  rw[l2,ER (by simp[ic];omega) (by simp[ic];omega)];simp only[ic];omega
 rw[e8];simp only[BE];have s46:AP {data:=#[46]}=1:=rfl;have s48:AP {data:=#[48]}=1:=rfl;have l4:(IF {data:=#[48]} (8-D.length)).size=8-D.length:=by rw[vS,s48];omega
 have l5:=Uq (IF {data:=#[48]} (8-D.length)++FK ((u%256*390625:Nat):Int)) {data:=#[48]};rw[BC,l4,l2]at l5;rw[AL (show AP sg+AP (FK ((u/256:Nat):Int))<=strMax by unfold strMax;omega),
  AL (show AP (sg++FK ((u/256:Nat):Int))+AP {data:=#[46]}<=strMax by rw[BC,s46];unfold strMax;omega),
  AL (show(0:Int)<=((8-D.length:Nat):Int) by omega),
  AL (show AP {data:=#[48]}*(8-D.length)<=strMax by rw[s48];unfold strMax;omega),
  AL (show AP (IF {data:=#[48]} (8-D.length))+AP (FK ((u%256*390625:Nat):Int))<=strMax by rw[l4,l2];unfold strMax;omega),
  AL (show AP (sg++FK ((u/256:Nat):Int)++{data:=#[46]})+AP (QO (IF {data:=#[48]} (8-D.length)++FK ((u%256*390625:Nat):Int)) {data:=#[48]})<=strMax by rw[BC,BC,s46];unfold strMax;omega)]
 simp only[DQ,CK];subst hK;by_cases h0:u%256=0
 .have e0:(((u%256:Nat):Int)==0)=AC:=by rw[U7];exact AL AG
  rw[e0,DQ]
  have:sg++FK ((u/256:Nat):Int)=sg++⟨(I8 u).toArray⟩:=by
   apply U9;rw[g7,g7,tX,Ew,Ew,I8,BX h0,vab]
  rw[this]
 .have e0:(((u%256:Nat):Int)==0)=AD:=by rw[U7];exact AS AG
  rw[e0,DR]
  have:sg++FK ((u/256:Nat):Int)++{data:=#[46]}++QO (IF {data:=#[48]} (8-D.length)++FK ((u%256*390625:Nat):Int)) {data:=#[48]}=sg++⟨(I8 u).toArray⟩:=by
   apply U9;simp only[g7,tX,I8,BO h0,QO,IF,KZ,hD,vaz];rfl
  rw[this]
theorem wS:D6 PR B0 43 TA:=by
 refine EF [(100,XF),(99,kO),(102,Z2),(101,kR)] [] TA [[.str]] Tryz.func43 qe ⟨Pu,zeN,Qj,zeQ,trivial⟩ ?_;intro vs r hwf h;unfold TA at h;split at h
 .rename_i n;refine⟨0,?_⟩;rw[<-h];refine(zl 0 n).trans ?_;simp only[R.get_ok];have hb:=(hwf (by simp[MX])).1;simp only[SU,wfL]at hb;obtain⟨h0,h1⟩:=hb;have e0:AJ.min= -9223372036854775808:=rfl;have e1:AJ.max=9223372036854775807:=rfl;rw[e0]at h0;rw[e1]at h1;have hu:n.natAbs<18446744073709551616:=by omega
  by_cases hn:n<0
  .rw[AL hn,DQ,zf2 hn h0,Pe,y0 _ hu,Jm AG];exact Lz hu ⟨#[45]⟩ (by decide) _ (by apply U9;rw[g7];unfold D5 LP;rw[BX hn];rfl)
  .rw[AS hn,DR,zf3 hn h1,Pe,y0 _ hu,Jm AG];exact Lz hu ⟨#[]⟩ (by decide) _ (by apply U9;rw[g7];unfold D5 LP;rw[BO hn];rfl)
 .simp[R.get]at h
open Go Go.Proofs
theorem Ps:D6 PR B0 131 XE:=by
 refine EF [(43,TA),(187,eV),(100,XF),(82,U4),(55,Z0),(102,Z2)] [] XE [[.z],[.bool]] Tryz.func131 qf
  ⟨wS,zeb,Pu,wW,Qh,Qj,trivial⟩ ?_
 intro vs r hwf h;unfold XE at h;split at h
 .rename_i s;refine⟨0,?_⟩;cases hs:AE (s.size<4294967281)with
  |false=>rw[hs]at h;simp[R.get]at h
  |true=>
   rw[hs,R.get_br,DQ,R.get_ok]at h;have hs:=BB hs;rw[<-h];refine(zm 0 s).trans ?_;have hz:=Up s {data:=#[45]};rw[AL (show AP (GT s {data:=#[45]})<4294967281 by omega),DQ];have eW:cutL (GT s {data:=#[45]}) {data:=#[46]}=Q3 s:=rfl;have eP:GA (GT s {data:=#[45]}) {data:=#[46]}=J5 s:=rfl;have eM:P7 s {data:=#[45]}=P7 s ZK:=rfl;rw[eW,eP,eM];unfold GL;by_cases h8:(J5 s).size<=8
   .have c1:AE (ic (AP (J5 s))>8)=AD:=AS (by simp only[ic];omega);have e8:AI AJ (8-ic (AP (J5 s)))=((8-(J5 s).size:Nat):Int):=by
     rw[ER (by simp only[ic];omega) (by simp only[ic];omega)];simp only[ic];omega
    rw[c1,DR,e8];simp only[BE];have s48:AP {data:=#[48]}=1:=rfl;have eF:J5 s++IF {data:=#[48]} (8-(J5 s).size)=OB s:=rfl;have l4:(IF {data:=#[48]} (8-(J5 s).size)).size=8-(J5 s).size:=by rw[vS,s48];omega
    rw[AL (show(0:Int)<=((8-(J5 s).size:Nat):Int) by omega),AL (show AP {data:=#[48]}*(8-(J5 s).size)<=strMax by rw[s48];unfold strMax;omega),CK,DQ,
     AL (show AP (J5 s)+AP (IF {data:=#[48]} (8-(J5 s).size))<=strMax by rw[l4];unfold strMax;omega),DQ,eF]
    have hw:=vI (Q3 s);have hf:=vI (OB s);have b0:AO.min=0:=rfl;have b1:AO.max=18446744073709551615:=rfl;rw[b0,b1]at hw hf;have em:Int.tmod (G2 (OB s)) 390625=G2 (OB s)%390625:=Int.tmod_eq_emod_of_nonneg hf.1;have ed:AI AO (Int.tdiv (G2 (OB s)) 390625)=G2 (OB s)/390625:=by
     rw[Int.tdiv_eq_ediv_of_nonneg hf.1,yJ AG AG]
    have e2:(2:Int)^min (AM 8) (AT AO)=256:=rfl;rw[em,ed,e2];have eS:AI AO (AI AO (G2 (Q3 s)*256)+G2 (OB s)/390625)=Q2 s:=rfl;rw[eS];unfold YD;rw[AL h8,qU,qV,zX];cases hp1:JT (Q3 s)with
    |false=>simp only[BF,DQ,DR,BP,DE]
    |true=>
     cases hp2:JT (OB s)with
     |false=>simp only[BF,A9,DQ,DR,BP,DE]
     |true=>
      simp only[A9,DR,BI];cases hc:AE (36028797018963968<G2 (Q3 s))with
      |true=>simp only[A9,DQ,DR,BP]
      |false=>
       cases hd:AE (G2 (OB s)%390625=0)with
       |false=>simp only[BF,DQ,DR,BP,BI]
       |true=>
        simp only[BF,A9,DR,BI];unfold g8;cases hm:P7 s ZK with
        |false=>
         simp only[DR];rw[show AI AJ (Q2 s)=D7 (Q2 s)from rfl,k7];cases AE (D5 (D7 (Q2 s))=s)<;>simp only[DQ,DR]
        |true=>
         simp only[DQ];rw[show AI AJ (AI AO (0-Q2 s))=D7 (GQ (0-Q2 s))from rfl,k7];cases AE (D5 (D7 (GQ (0-Q2 s)))=s)<;>simp only[DQ,DR]
   .have c1:AE (ic (AP (J5 s))>8)=AC:=AL (by simp only[ic];omega);rw[c1,DQ];unfold YD;rw[AS h8,BP,DR]
 .simp[R.get]at h
open Go Go.Proofs
def I3(N:Nat):Env:=EE [(43,TA),(49,M9),(51,NA),(42,PZ),(47,U2),(50,gB)] [(7,⟨[1,2,3,4,28,29,30],[1,3,500],[⟨.tmp 4,500,9,AD,[.str]⟩]⟩),(13,⟨[2,3,43,44,45],[3],[]⟩),(17,⟨[2,3,43,44,45,59,60,61],[3],[]⟩)] 94 N
abbrev W2(s2:BA)(n4 n28:Nat)(x29 x30 u02 u03 u04 u05 u06:Int)(u00:LI)(so3:BA)(u01:LI):St:=⟨[(1,(.ptr 1 0 0)),(2,(.str s2)),(3,(.ptr 3 0 0)),(4,(.row 500 0 n4)),(28,(.bview 1 2 3 1 n28)),(29,(.i x29)),(30,(.i x30))],[(1,(AA (.box [.i u02,.i u03,.i u04,.i u05,.i u06,.list AC [.z,.list AD [.int .u64]] u00]))),(3,(AA (.bld so3))),(500,(AA (.row AC 9 AD [.str] u01)))]⟩
abbrev c4(s2:BA)(l43:LI)(x44 x45:Int)(so3:BA):St:=⟨[(2,(.str s2)),(3,(.ptr 3 0 0)),(43,(.list AC [.z,.list AD [.int .u64]] l43)),(44,(.i x44)),(45,(.i x45))],[(3,(AA (.bld so3)))]⟩
abbrev ZU(s2:BA)(l43:LI)(x44 x45:Int)(l59:LI)(x60 x61:Int)(so3:BA):St:=⟨[(2,(.str s2)),(3,(.ptr 3 0 0)),(43,(.list AC [.z,.list AD [.int .u64]] l43)),(44,(.i x44)),(45,(.i x45)),(59,(.list AD [.int .u64] l59)),(60,(.i x60)),(61,(.i x61))],[(3,(AA (.bld so3)))]⟩
theorem zaQ(N:Nat)(u04 u03 u00 u01 u02:Int)(u05:LI):EA (I3 N) LH [.tmp 2] [[.str]] [.agg [.i u04,.i u03,.i u00,.i u01,.i u02,.list AC [.z,.list AD [.int .u64]] u05]]=(cond (!EU {d:=u04,c:=u03,b0:=u00,b1:=u01,b2:=u02,ts:=u05}) (AA ((.str ({data:=#[]})),[])) (cond (CG (AN (A3 0 (AU 3 [IV.str {data:=#[102,111,114,101,115,116]},IV.str (DZ u04),IV.str (DZ u03)]))) 1000&&AE (AP CQ+AP (FW (BG IV.toStr (A3 0 (AU 3 [IV.str {data:=#[102,111,114,101,115,116]},IV.str (DZ u04),IV.str (DZ u03)]))))<=1000000000)) (cond (AE (0<=u03)&&AE (u03<=ic 3)) (D3 (I3 N) (DS LH [1,1,1,1,1,0,1,0,0]) ⟨[1,2,3,4,28,29,30],[1,3,500],[⟨(.tmp 4),500,9,AD,[.str]⟩]⟩ N (W2 ({data:=#[]}) 1 (AM u03) (ic (AM u03)) 0 u04 u03 u00 u01 u02 u05 (CQ++FW (BG IV.toStr (A3 0 (AU 3 [IV.str {data:=#[102,111,114,101,115,116]},IV.str (DZ u04),IV.str (DZ u03)])))) [(IV.str {data:=#[98,105,97,115]})]) (DW 0 (DX (I3 N) (DS LH [1,1,1,1,1,1]) (D2 (I3 N) AB [.tmp 2] [[.str]])))) AB) AB)):=AF
theorem oO(N:Nat)(s2:BA)(n4 n28:Nat)(x29 x30 u02 u03 u04 u05 u06:Int)(u00:LI)(so3:BA)(u01:LI)(again:St->DU)(k:Out->St->DU):EY (I3 N) (DS LH [1,1,1,1,1,0,1,0,0]) (W2 s2 n4 n28 x29 x30 u02 u03 u04 u05 u06 u00 so3 u01) (ES again ⟨[1,2,3,4,28,29,30],[1,3,500],[⟨(.tmp 4),500,9,AD,[.str]⟩]⟩ k)=(cond (AE (x30<x29)) (cond (AE (x30<ic n28)) (cond (AE (x30=ic 0)) (cond (AE ((n4+AN (A3 0 (AU 1 [IV.str (D5 u04)])))*TI.bytes (Env.tyd (I3 N) 9)<=EL)) (again (W2 s2 (n4+AN (A3 0 (AU 1 [IV.str (D5 u04)]))) n28 x29 (AI AJ (x30+1)) u02 u03 u04 u05 u06 u00 so3 (AU n4 u01++A3 0 (AU 1 [IV.str (D5 u04)])))) AB) (cond (AE (x30=ic 1)) (cond (AE ((n4+AN (A3 0 (AU 1 [IV.str (D5 u05)])))*TI.bytes (Env.tyd (I3 N) 9)<=EL)) (again (W2 s2 (n4+AN (A3 0 (AU 1 [IV.str (D5 u05)]))) n28 x29 (AI AJ (x30+1)) u02 u03 u04 u05 u06 u00 so3 (AU n4 u01++A3 0 (AU 1 [IV.str (D5 u05)])))) AB) (cond (AE (x30=ic 2)) (cond (AE ((n4+AN (A3 0 (AU 1 [IV.str (D5 u06)])))*TI.bytes (Env.tyd (I3 N) 9)<=EL)) (again (W2 s2 (n4+AN (A3 0 (AU 1 [IV.str (D5 u06)]))) n28 x29 (AI AJ (x30+1)) u02 u03 u04 u05 u06 u00 so3 (AU n4 u01++A3 0 (AU 1 [IV.str (D5 u06)])))) AB) AB))) AB) (k (.exit 0) (W2 s2 n4 n28 x29 x30 u02 u03 u04 u05 u06 u00 so3 u01))):=AF
theorem ku(N:Nat)(s2:BA)(n4 n28:Nat)(x29 x30 u02 u03 u04 u05 u06:Int)(u00:LI)(so3:BA)(u01:LI):(DW 0 (DX (I3 N) (DS LH [1,1,1,1,1,1]) (D2 (I3 N) AB [.tmp 2] [[.str]]))) (.exit 0) (W2 s2 n4 n28 x29 x30 u02 u03 u04 u05 u06 u00 so3 u01)=(cond (CG (AN (A3 0 (AU n4 u01))) 1000&&AE (AP so3+AP (FW (BG IV.toStr (A3 0 (AU n4 u01))))<=1000000000)) (D3 (I3 N) (DS LH [1,1,1,1,1,1,1,0,1,0,0]) ⟨[2,3,43,44,45],[3],[]⟩ N (c4 s2 u00 (ic (AN u00)) 0 (so3++FW (BG IV.toStr (A3 0 (AU n4 u01))))) (DW 2 (DX (I3 N) (DS LH [1,1,1,1,1,1,1,1]) (D2 (I3 N) AB [.tmp 2] [[.str]])))) AB):=AF
theorem Ti(N:Nat)(s2:BA)(l43:LI)(x44 x45:Int)(so3:BA)(again:St->DU)(k:Out->St->DU):EY (I3 N) (DS LH [1,1,1,1,1,1,1,0,1,0,0]) (c4 s2 l43 x44 x45 so3) (ES again ⟨[2,3,43,44,45],[3],[]⟩ k)=(cond (AE (x45<x44)) (cond (AE (0<=x45)&&AE (x45<ic (AN l43))) (cond (CG (AN (A3 0 (AU 3 [IV.str {data:=#[116,114,101,101]},IV.str (DZ (IV.toInt (IV.cell (AR l43 (AM x45) default) 0))),IV.str (DZ (ic (AN (IV.toList (IV.cell (AR l43 (AM x45) default) 1)))))]))) 1000&&AE (AP so3+AP (FW (BG IV.toStr (A3 0 (AU 3 [IV.str {data:=#[116,114,101,101]},IV.str (DZ (IV.toInt (IV.cell (AR l43 (AM x45) default) 0))),IV.str (DZ (ic (AN (IV.toList (IV.cell (AR l43 (AM x45) default) 1)))))]))))<=1000000000)) (D3 (I3 N) (DS LH [1,1,1,1,1,1,1,0,1,0,0,1,1,0,0,1,1,1,0,0]) ⟨[2,3,43,44,45,59,60,61],[3],[]⟩ N (ZU s2 l43 x44 x45 (IV.toList (IV.cell (AR l43 (AM x45) default) 1)) (ic (AN (IV.toList (IV.cell (AR l43 (AM x45) default) 1)))) 0 (so3++FW (BG IV.toStr (A3 0 (AU 3 [IV.str {data:=#[116,114,101,101]},IV.str (DZ (IV.toInt (IV.cell (AR l43 (AM x45) default) 0))),IV.str (DZ (ic (AN (IV.toList (IV.cell (AR l43 (AM x45) default) 1)))))]))))) (DW 4 (DW 3 (DX (I3 N) (DS LH [1,1,1,1,1,1,1,0,1,0,0,1,1,1]) (ES again ⟨[2,3,43,44,45],[3],[]⟩ k))))) AB) AB) (k (.exit 2) (c4 s2 l43 x44 x45 so3))):=AF
theorem Tj(N:Nat)(s2:BA)(l43:LI)(x44 x45:Int)(l59:LI)(x60 x61:Int)(so3:BA)(again:St->DU)(k:Out->St->DU):EY (I3 N) (DS LH [1,1,1,1,1,1,1,0,1,0,0,1,1,0,0,1,1,1,0,0]) (ZU s2 l43 x44 x45 l59 x60 x61 so3) (ES again ⟨[2,3,43,44,45,59,60,61],[3],[]⟩ k)=(cond (AE (x61<x60)) (cond (AE (0<=x61)&&AE (x61<ic (AN l59))) (cond (Nd.lf (DT (IV.toInt (AR l59 (AM x61) default)))) (cond (CG (AN (A3 0 (AU 2 [IV.str {data:=#[108,101,97,102]},IV.str (D5 (Nd.v (DT (IV.toInt (AR l59 (AM x61) default)))))]))) 1000&&AE (AP so3+AP (FW (BG IV.toStr (A3 0 (AU 2 [IV.str {data:=#[108,101,97,102]},IV.str (D5 (Nd.v (DT (IV.toInt (AR l59 (AM x61) default)))))]))))<=1000000000)) (again (ZU s2 l43 x44 x45 l59 x60 (AI AJ (x61+1)) (so3++FW (BG IV.toStr (A3 0 (AU 2 [IV.str {data:=#[108,101,97,102]},IV.str (D5 (Nd.v (DT (IV.toInt (AR l59 (AM x61) default)))))])))))) AB) (cond (CG (AN (A3 0 (AU 8 [IV.str {data:=#[105,102]},IV.str (DZ (Nd.f (DT (IV.toInt (AR l59 (AM x61) default))))),IV.str {data:=#[60,61]},IV.str (D5 (Nd.a (DT (IV.toInt (AR l59 (AM x61) default))))),IV.str {data:=#[116,104,101,110]},IV.str (DZ (Nd.l (DT (IV.toInt (AR l59 (AM x61) default))))),IV.str {data:=#[101,108,115,101]},IV.str (DZ (Nd.r (DT (IV.toInt (AR l59 (AM x61) default)))))]))) 1000&&AE (AP so3+AP (FW (BG IV.toStr (A3 0 (AU 8 [IV.str {data:=#[105,102]},IV.str (DZ (Nd.f (DT (IV.toInt (AR l59 (AM x61) default))))),IV.str {data:=#[60,61]},IV.str (D5 (Nd.a (DT (IV.toInt (AR l59 (AM x61) default))))),IV.str {data:=#[116,104,101,110]},IV.str (DZ (Nd.l (DT (IV.toInt (AR l59 (AM x61) default))))),IV.str {data:=#[101,108,115,101]},IV.str (DZ (Nd.r (DT (IV.toInt (AR l59 (AM x61) default)))))]))))<=1000000000)) (again (ZU s2 l43 x44 x45 l59 x60 (AI AJ (x61+1)) (so3++FW (BG IV.toStr (A3 0 (AU 8 [IV.str {data:=#[105,102]},IV.str (DZ (Nd.f (DT (IV.toInt (AR l59 (AM x61) default))))),IV.str {data:=#[60,61]},IV.str (D5 (Nd.a (DT (IV.toInt (AR l59 (AM x61) default))))),IV.str {data:=#[116,104,101,110]},IV.str (DZ (Nd.l (DT (IV.toInt (AR l59 (AM x61) default))))),IV.str {data:=#[101,108,115,101]},IV.str (DZ (Nd.r (DT (IV.toInt (AR l59 (AM x61) default)))))])))))) AB)) AB) (k (.exit 4) (ZU s2 l43 x44 x45 l59 x60 x61 so3))):=AF
theorem kv(N:Nat)(s2:BA)(l43:LI)(x44 x45:Int)(so3:BA):(DW 2 (DX (I3 N) (DS LH [1,1,1,1,1,1,1,1]) (D2 (I3 N) AB [.tmp 2] [[.str]]))) (.exit 2) (c4 s2 l43 x44 x45 so3)=(AA (.str so3,[])):=AF
theorem kw(N:Nat)(again:St->DU)(k:Out->St->DU)(s2:BA)(l43:LI)(x44 x45:Int)(l59:LI)(x60 x61:Int)(so3:BA):(DW 4 (DW 3 (DX (I3 N) (DS LH [1,1,1,1,1,1,1,0,1,0,0,1,1,1]) (ES again ⟨[2,3,43,44,45],[3],[]⟩ k)))) (.exit 4) (ZU s2 l43 x44 x45 l59 x60 x61 so3)=(again (c4 s2 l43 x44 (AI AJ (x45+1)) so3)):=AF
def Yo(N:Nat):Env:=EE [(105,ZZ),(94,U3),(44,Z1)] [] 10 N
theorem zaS(N:Nat)(b:BA)(u00:LI):EA (Yo N) Cz [] [] [.bor [.bld b],.list AD [.str] u00]=(cond (AE (AN u00<=strMax)&&AE (AP (GU (BG IV.toStr u00) {data:=#[32]})<=strMax)) (cond (AE (AP b+AP (GU (BG IV.toStr u00) {data:=#[32]})<=strMax)) (cond (AE (AP (b++GU (BG IV.toStr u00) {data:=#[32]})+1<=strMax)) (AA (.tup [],[[(.bld (ByteArray.push (b++GU (BG IV.toStr u00) {data:=#[32]}) (N7 10)))]])) AB) AB) AB):=AF
def Yp(N:Nat):Env:=EE [(64,N6)] [] 26 N
theorem zaT(N:Nat)(u00:LI):EA (Yp N) Da [.tmp 2] [[.list AD [.str]]] [.bor [.list AD [.str] u00]]=(cond (ic (AN u00)==0) (AA (.list AD [.str] [],[[.list AD [.str] u00]])) (cond (AE (0<=0)&&AE (0<ic (AN u00))) (cond (AE (0<=1)&&AE (1<=ic (AN u00))) (cond (AE (AP (IV.toStr (AR u00 (AM 0) default))<4294967281)&&AE (1<=AP {data:=#[32]})) (AA ((.list AD [.str] (BG IV.str (EH (IV.toStr (AR u00 (AM 0) default)) {data:=#[32]}))),[[.list AD [.str] (A3 (AM 1) (AU (AN u00) u00))]])) AB) AB) AB)):=AF
def Ys(N:Nat):Env:=EE [] [] 13 N
theorem zaW(N:Nat)(l:LI)(i:Int):EA (Ys N) Dd [.tmp 4] [[.str]] [.list AD [.str] l,.i i]=(cond (AE (i>=ic (AN l))) (AA ((.str ({data:=#[]})),[])) (cond (AE (0<=i)&&AE (i<ic (AN l))) (AA (.str (IV.toStr (AR l (AM i) default)),[])) AB)):=AF
def Yn(N:Nat):Env:=EE [(122,R0)] [] 24 N
theorem zaR(N:Nat)(s:BA)(most:Int):EA (Yn N) Cy [.tmp 4] [[.z]] [.str s,.i most]=(cond (!MK s) (AA (.i 0,[])) (cond (AE (FT s<0)) (AA (.i 0,[])) (cond (AE (FT s>most)) (AA (.i 0,[])) (AA (.i (FT s),[]))))):=AF
def Yr(N:Nat):Env:=EE [(131,XE)] [] 11 N
theorem zaV(N:Nat)(s:BA):EA (Yr N) Dc [.tmp 2] [[.z]] [.str s]=(cond (AE (AP s<4294967281)) (AA (.i (GL s),[])) AB):=AF
def Yq(N:Nat):Env:=EE [(113,XH),(67,XP),(66,XQ),(69,XR),(68,XS)] [] 28 N
theorem zaU(N:Nat)(u00:LI):EA (Yq N) Db [.tmp 2] [[.int .u64]] [.bor [.list AD [.str] u00]]=(cond (K5 u00) (cond (A7 (D9 (FH u00) (AM 0))==A7 {data:=#[108,101,97,102]}) (cond (AE (AP (D9 (FH u00) (AM 1))<4294967281)) (AA ((.int .u64 (G9 {lf:=AC,v:=GL (D9 (FH u00) (AM 1)),f:=0,a:=0,l:=0,r:=0})),[[.list AD [.str] (A3 1 u00)]])) AB) (cond (AE (AP (D9 (FH u00) (AM 3))<4294967281)) (AA ((.int .u64 (G9 {lf:=AD,v:=0,f:=FU (D9 (FH u00) (AM 1)) 4,a:=GL (D9 (FH u00) (AM 3)),l:=FU (D9 (FH u00) (AM 5)) 31,r:=FU (D9 (FH u00) (AM 7)) 31})),[[.list AD [.str] (A3 1 u00)]])) AB)) AB):=AF
def Xo(N:Nat):Env:=EE [] [] 21 N
theorem zab(N:Nat)(s u00:BA):EA (Xo N) Bz [.tmp 4] [[.bool]] [.str s,.str u00]=(cond (AE (ic (AP s)>=ic (AP u00))) (cond (AE (0<=AI AJ (ic (AP s)-ic (AP u00)))&&AE (AI AJ (ic (AP s)-ic (AP u00))<=ic (AP s))) (AA (.bool (A7 (vaT s (AM (AI AJ (ic (AP s)-ic (AP u00)))) (AP s))==A7 u00),[])) AB) (AA (.bool AD,[]))):=AF
def Xp(N:Nat):Env:=EE [(186,fE)] [] 16 N
theorem zac(N:Nat)(s u00:BA):EA (Xp N) Ca [.tmp 4] [[.str]] [.str s,.str u00]=(cond (TW s u00) (cond (AE (0<=AI AJ (ic (AP s)-ic (AP u00)))&&AE (AI AJ (ic (AP s)-ic (AP u00))<=ic (AP s))) (AA (.str (vaT s 0 (AM (AI AJ (ic (AP s)-ic (AP u00))))),[])) AB) (AA (.str s,[]))):=AF
def Ym(N:Nat):Env:=EE [(130,fF)] [] 8 N
theorem zaO(N:Nat)(s u00:BA):EA (Ym N) Cx [.tmp 4] [[.str]] [.str s,.str u00]=(AA (.str (GN s u00),[])):=AF
open Go Go.Proofs
theorem ue(l:List BA)(h:∀w∈l,w.size<=100):(GU l HI).size<=101*l.length:=by
 have hs:(GU l HI).size=(Lib.join (l.map (·.data.toList)) [32]).length:=by
  show(Array.size (List.toArray _))=_;rw[DM]
 rw[hs];cases l with
 |nil=>simp[Lib.join_nil]
 |cons x r=>
  rw[A8,Lib.join_length]
  have:∀(r:List BA),(∀w∈r,w.size<=100)->Lib.lens (r.map (·.data.toList))<=100*r.length:=λr=>by
   induction r with
   |nil=>intro _;simp[Lib.lens]
   |cons y r ih=>
    intro h;have h1:=h y (AY ..);rw[UC]at h1;have h2:=ih (λw hw=>h w (A6 _ hw));rw[A8,AV];simp only[Lib.lens,A8,vbb]at h2 ⊢;omega
  have:=this (x::r) h
  rw[A8]at this;simp only[AV,BW,BN]at this ⊢;omega
theorem iQ(ws:List BA)(hl:ws.length<=8)(h:∀w∈ws,w.size<=100):(FW ws).size<=809:=by
 unfold FW
 have:=ue ws h
 rw[BC];have e:AP QS=1:=rfl;rw[e];omega
theorem xO:∀(a b:List (List BA)),GI (a++b)=GI a++GI b
 |[],b=>by
  show GI b=CQ++GI b;rw[ByteArray.empty_append]
 |l::a,b=>by
  rw[C9,GI,GI,xO a b,vai]
theorem xQ:∀(L:List (List BA)),(∀l∈L,l.length<=8/\∀w∈l,w.size<=100)->(GI L).size<=809*L.length
 |[],_=>by
  have:AP (GI [])=0:=rfl
  omega
 |l::L,h=>by
  have h1:=iQ l (h l (AY ..)).1 (h l (AY ..)).2;have h2:=xQ L λx hx=>h x (A6 _ hx)
  rw[GI,BC,AV];omega
theorem YN{n:Int}(h:EN n):(DZ n).size<=100:=by
 have:=aT h.1 h.2
 omega
theorem jE{n:Int}(h:EN n):(D5 n).size<=100:=by
 have:=(Y6 n h).2
 omega
theorem rP{n:Int}(h:E4 n=AC): -2147483648<=n/\n<=2147483647:=by
 unfold E4 at h
 rwa [AQ,AZ,AZ]at h
structure Nd.In (x:Nd):Prop where
 v: -2147483648<=x.v/\x.v<=2147483647
 f:0<=x.f/\x.f<4
 a: -2147483648<=x.a/\x.a<=2147483647
 l:0<=x.l/\x.l<31
 r:0<=x.r/\x.r<31
 lf:x.lf=AC->x.f=0/\x.a=0/\x.l=0/\x.r=0
 fk:x.lf=AD->x.v=0
theorem zcR{x:Nd}(h:IQ x=AC):x.In:=by
 obtain⟨lf,v,f,a,l,r⟩:=x;unfold IQ at h;cases lf with
 |true=>
  simp only[B5,AQ,Nd.eq,CF]at h;obtain⟨⟨_,_,h1,h2,h3,h4,_⟩,hv⟩:=h;subst h1 h2 h3 h4;have z4:(0:Int)<=0/\(0:Int)<4:=by decide
  have z31:(0:Int)<=0/\(0:Int)<31:=by decide
  have zf:(-2147483648:Int)<=0/\(0:Int)<=2147483647:=by decide
  exact⟨rP hv,z4,zf,z31,z31,λ_=>⟨rfl,rfl,rfl,rfl⟩,λh=>Bool.noConfusion h⟩
 |false=>
  simp only[BK,AQ,CF,AZ,O6]at h;obtain⟨hv,hf0,hf1,ha,⟨hl0,hl1⟩,hr0,hr1⟩:=h;subst hv;have zf:(-2147483648:Int)<=0/\(0:Int)<=2147483647:=by decide
  have l0:(0:Int)<=l:=by omega
  have r0:(0:Int)<=r:=by omega
  exact⟨zf,⟨hf0,hf1⟩,rP ha,⟨l0,hl1⟩,⟨r0,hr1⟩,λh=>Bool.noConfusion h,λ_=>rfl⟩
theorem Ju{x:Nd}(h:x.In):(MW x).length<=8/\∀w∈MW x,w.size<=100:=by
 have hv:EN x.v:=by have:=h.v;unfold EN;omega
 have hf:EN x.f:=by have:=h.f;unfold EN;omega
 have ha:EN x.a:=by have:=h.a;unfold EN;omega
 have hl:EN x.l:=by have:=h.l;unfold EN;omega
 have hr:EN x.r:=by have:=h.r;unfold EN;omega
 unfold MW;cases x.lf with
 |true=>
  refine⟨by simp,λw hw=>?_⟩;simp only[B5,AW,CC,C7]at hw;rcases hw with rfl|rfl
  .decide
  .exact jE hv
 |false=>
  refine⟨by simp,λw hw=>?_⟩;simp only[BK,AW,CC,C7]at hw;rcases hw with rfl|rfl|rfl|rfl|rfl|rfl|rfl|rfl
  .decide
  .exact YN hf
  .decide
  .exact jE ha
  .decide
  .exact YN hl
  .decide
  .exact YN hr
theorem Jy{dim n:Int}:∀{l:LI} {i:Nat},JH dim n i l=AC->∀w∈l,FQ w.toInt=AC
 |[],_,_,w,hw=>by cases hw
 |x::l,i,h,w,hw=>by
  unfold JH at h;rw[AQ,AQ]at h;rcases AW.1 hw with rfl|hw
  .exact h.1.1
  .exact Jy h.2 w hw
theorem Jt{w:Int}(h:FQ w=AC):(DT w).In:=by
 have hn:DT w=L9 w:=by unfold DT;rw[h];rfl
 unfold FQ at h;simp only[AQ,CE,CF,BH]at h;rw[hn];apply zcR;cases hr:IQ (L9 w)with
 |true=>rfl
 |false=>
  have:=h.2
  unfold G9 at this;rw[hr]at this;exact absurd this.symm h.1
theorem zeR:D6 PR B0 50 gB:=by
 refine EF [(105,ZZ),(94,U3),(44,Z1)] [] gB [] Tryz.func50 sq ⟨Qg,wV,Qi,trivial⟩ ?_;intro vs r hwf h;unfold gB at h;split at h
 .rename_i s ws;cases hc:(CG ws.length 1000&&AE (s.size+(FW (ws.map IV.toStr)).size<=1000000000))with
  |false=>rw[hc]at h;simp[R.get]at h
  |true=>
   rw[hc,R.get_br,DQ,R.get_ok]at h;rw[AQ,AZ]at hc;have h1:=AX hc.1;have h2:=hc.2;have m:strMax=140737488355327:=rfl;refine⟨0,?_⟩;rw[<-h];refine(zaS 0 s ws).trans ?_;have e:ByteArray.push (s++GU (ws.map IV.toStr) HI) (N7 10)=s++FW (ws.map IV.toStr):=by
    apply U9;unfold FW;simp;rfl
   have e2:(FW (ws.map IV.toStr)).size=(GU (ws.map IV.toStr) HI).size+1:=by
    unfold FW;rw[BC];rfl
   rw[e2]at h2;rw[AL (show ws.length<=strMax by omega),AL (show(GU (ws.map IV.toStr) HI).size<=strMax by omega),AL (show s.size+(GU (ws.map IV.toStr) HI).size<=strMax by omega),
    AL (show AP (s++GU (ws.map IV.toStr) HI)+1<=strMax by rw[BC];omega),BR,DQ,DQ,DQ,e]
 .simp[R.get]at h
theorem vd(s:BA)(hs:s.size<4294967281):∀i,(D9 (HT s) i).size<4294967281:=by
 intro i;unfold D9;rw[BY];cases h:(HT s)[i]? with
 |none=>decide
 |some x=>
  have hx:x∈HT s:=vaa h;unfold HT at hx;obtain⟨w,hw,rfl⟩:=CU.1 hx
  have:=(ZC HI _ s).2 w hw
  exact vbn this hs
theorem tS{ls:LI}(h:K5 ls=AC)(i:Nat):(D9 (FH ls) i).size<4294967281:=by
 unfold K5 at h;cases ls with
 |nil=>
  show AP (IV.toStr (AR [] i default))<_;rw[List.getD_nil];decide
 |cons l r=>
  rw[van,AQ,AZ]at h;exact vd _ h.1 i
theorem Y0{ls:LI}(h:K5 ls=AC)(k:Nat):K5 (ls.drop k)=AC:=by
 unfold K5 at h ⊢;rw[CZ]at h ⊢;exact λx hx=>h x (va7 hx)
theorem Qm:D6 PR B0 66 XQ:=by
 refine EF [(64,N6)] [] XQ [[.list AD [.str]]] Tryz.func66 sr ⟨cD,trivial⟩ ?_;intro vs r hwf h;unfold XQ at h;split at h
 .rename_i ls;cases hc:K5 ls with
  |false=>rw[hc]at h;simp[R.get]at h
  |true=>
   rw[hc,R.get_br,DQ,R.get_ok]at h;refine⟨0,?_⟩;rw[<-h];refine(zaT 0 ls).trans ?_;cases ls with
   |nil=>rfl
   |cons l r=>
    unfold K5 at hc;rw[van,AQ]at hc;have e0:(ic (AN (l::r))==0)=AD:=by
     rw[U7];exact AS (by simp only[ic,AV];omega)
    have e1:IV.toStr (AR (l::r) (AM 0) default)=l.toStr:=rfl;have e2:A3 (AM 1) (AU (AN (l::r)) (l::r))=A3 1 (l::r):=by rw[BS];rfl
    have e3:AE (1<=AP HI)=AC:=rfl;rw[e0,e1,e2,e3,hc.1,DR];simp only[AL (show(0:Int)<ic (AN (l::r)) by simp only[ic,AV];omega),AL (show(1:Int)<=ic (AN (l::r)) by simp only[ic,AV];omega)];rfl
 .simp[R.get]at h
theorem Qo:D6 PR B0 68 XS:=by
 refine EF [] [] XS [[.str]] Tryz.func68 sw trivial ?_;intro vs r hwf h;unfold XS at h;split at h
 .rename_i l i;cases hc:AE (0<=i)with
  |false=>rw[hc]at h;simp[R.get]at h
  |true=>
   rw[hc,R.get_br,DQ,R.get_ok]at h;have h0:=BB hc;refine⟨0,?_⟩;rw[<-h];refine(zaW 0 l i).trans ?_;cases hi:AE (i>=ic l.length)with
   |true=>
    have hi:=BB hi;simp only[ic]at hi;have e:D9 l i.toNat=CQ:=by
     unfold D9;rw[BY,B8 AG];rfl
    rw[e,DQ];rfl
   |false=>
    have hi:=BM hi;rw[DR,AL h0,AL (show i<ic l.length by omega),BR,DQ];rfl
 .simp[R.get]at h
theorem Ql:D6 PR B0 67 XP:=by
 refine EF [(122,R0)] [] XP [[.z]] Tryz.func67 sn ⟨oH,trivial⟩ ?_;intro vs r hwf h;unfold XP at h;split at h
 .rename_i s most;refine⟨0,?_⟩;rw[R.get_ok]at h;rw[<-h];refine(zaR 0 s most).trans ?_;unfold FU;cases MK s<;>cases AE (FT s<0)<;>cases AE (FT s>most)<;>rfl
 .simp[R.get]at h
theorem Qn:D6 PR B0 69 XR:=by
 refine EF [(131,XE)] [] XR [[.z]] Tryz.func69 su ⟨Ps,trivial⟩ ?_;intro vs r hwf h;unfold XR at h;split at h
 .rename_i s;cases hc:AE (s.size<4294967281)with
  |false=>rw[hc]at h;simp[R.get]at h
  |true=>
   rw[hc,R.get_br,DQ,R.get_ok]at h;refine⟨0,?_⟩;rw[<-h];refine(zaV 0 s).trans ?_;rw[hc,DQ]
 .simp[R.get]at h
theorem zeS:D6 PR B0 70 gC:=by
 refine EF [(113,XH),(67,XP),(66,XQ),(69,XR),(68,XS)] [] gC [[.int .u64]] Tryz.func70 ss ⟨Pz,Ql,Qm,Qn,Qo,trivial⟩ ?_;intro vs r hwf h;unfold gC at h;split at h
 .rename_i ls;cases hc:K5 ls with
  |false=>rw[hc]at h;simp[R.get]at h
  |true=>
   rw[hc,R.get_br,DQ,R.get_ok]at h;refine⟨0,?_⟩;rw[<-h];refine(zaU 0 ls).trans ?_;rw[hc,DQ,AL (tS hc (AM 1)),AL (tS hc (AM 3)),DQ,DQ];unfold OL;have e:(A7 (D9 (FH ls) (AM 0))==A7 {data:=#[108,101,97,102]})=((D9 (FH ls) 0).toList==UJ.toList):=rfl;rw[e];cases((D9 (FH ls) 0).toList==UJ.toList)<;>rfl
 .simp[R.get]at h
theorem zej:D6 PR B0 186 fE:=by
 refine EF [] [] fE [[.bool]] Tryz.func186 qr trivial ?_;intro vs r hwf h;unfold fE at h;split at h
 .rename_i s t;refine⟨0,?_⟩;rw[R.get_ok]at h;rw[<-h];refine(zab 0 s t).trans ?_;have hb:=hwf (by simp[MX]);have hs:s.size<=strMax:=hb.1;have m:strMax=140737488355327:=rfl;unfold TW;by_cases hl:t.size<=s.size
  .have e:AI AJ (ic s.size-ic t.size)=((s.size-t.size:Nat):Int):=by
    rw[ER (by simp only[ic];omega) (by simp only[ic];omega)];simp only[ic];omega
   rw[e,AL (show ic s.size>=ic t.size by simp only[ic];omega),DQ,AL (show(0:Int)<=((s.size-t.size:Nat):Int) by omega),AL (show((s.size-t.size:Nat):Int)<=ic s.size by simp only[ic];omega),BR,DQ,AL hl,BI,BE]
  .rw[AS (show¬ic s.size>=ic t.size by simp only[ic];omega),DR,AS hl,BP]
 .simp[R.get]at h
theorem zek:D6 PR B0 130 fF:=by
 refine EF [(186,fE)] [] fF [[.str]] Tryz.func130 qs ⟨zej,trivial⟩ ?_;intro vs r hwf h;unfold fF at h;split at h
 .rename_i s t;refine⟨0,?_⟩;rw[R.get_ok]at h;rw[<-h];refine(zac 0 s t).trans ?_;have hb:=hwf (by simp[MX]);have hs:s.size<=strMax:=hb.1;have m:strMax=140737488355327:=rfl;unfold GN;cases hh:TW s t with
  |false=>rfl
  |true=>
   have hl:t.size<=s.size:=by
    unfold TW at hh;rw[AQ,AZ]at hh;exact hh.1
   have e:AI AJ (ic s.size-ic t.size)=((s.size-t.size:Nat):Int):=by
    rw[ER (by simp only[ic];omega) (by simp only[ic];omega)];simp only[ic];omega
   rw[e,DQ,DQ,AL (show(0:Int)<=((s.size-t.size:Nat):Int) by omega),AL (show((s.size-t.size:Nat):Int)<=ic s.size by simp only[ic];omega),BR,DQ,BE]
 .simp[R.get]at h
theorem wX:D6 PR B0 65 TC:=by
 refine EF [(130,fF)] [] TC [[.str]] Tryz.func65 sj ⟨zek,trivial⟩ ?_;intro vs r hwf h;unfold TC at h;split at h
 .rename_i s t;refine⟨0,?_⟩;rw[R.get_ok]at h;rw[<-h];exact zaO 0 s t
 .simp[R.get]at h
abbrev Vq(ts:LI)(i:Int)(l:LI)(j:Int)(so:BA):St:=
 ⟨[(2,(.str {data:=#[]})),(3,(.ptr 3 0 0)),(43,(.list AC [.z,(.list AD [(.int .u64)])] ts)),(44,(.i (ic ts.length))),(45,(.i i)),(59,(.list AD [(.int .u64)] l)),(60,(.i (ic l.length))),(61,(.i j))],[(3,(AA (.bld so)))]⟩
theorem Ke(N:Nat)(ts:LI)(i:Int)(l:LI)(hl:l.length<=31)(hn:∀w∈l,FQ w.toInt=AC)(K:Out->St->DU):∀(d j n:Nat) (so:BA),j+d=l.length->d<n->so.size+809*d<=1000000000->
  D3 (I3 N) (DS LH [1,1,1,1,1,1,1,0,1,0,0,1,1,0,0,1,1,1,0,0]) ⟨[2,3,43,44,45,59,60,61],[3],[]⟩ n (Vq ts i l (j:Int) so) K=
   K (.exit 4) (Vq ts i l (ic l.length) (so++GI (IC (l.drop j))))
 |d,j,0,_,_,h,_=>absurd h AG
 |0,j,n+1,so,hd,_,_=>by
  have hj:j=l.length:=by omega
  subst hj;rw[D8,Tj,AS (show¬((l.length:Nat):Int)<ic l.length by simp only[ic];omega),DR,C8];have e:so++GI (IC [])=so:=by
   show so++CQ=so;rw[ByteArray.append_empty]
  rw[e]
 |d+1,j,n+1,so,hd,hn',hz=>by
  have hjl:j<l.length:=by omega
  have ej:AI AJ ((j:Int)+1)=((j+1:Nat):Int):=by
   rw[ER AG AG];omega
  have hg:l.getD (AM (j:Int)) default=l[j]:=by
   rw[BE,BY,BD hjl];rfl
  have hin:=Jt (hn l[j] (C0 hjl));have hw:=Ju hin;have hls:=iQ _ hw.1 hw.2;rw[D8,Tj,ej,hg,AL (show(j:Int)<ic l.length by simp only[ic];omega),DQ,AL (show(0:Int)<=(j:Int) by omega),BR,DQ,BJ hjl];have hr:GI (IC (l[j]::l.drop (j+1)))=FW (MW (DT l[j].toInt))++GI (IC (l.drop (j+1))):=rfl;rw[hr,<-vai];have ih:=Ke N ts i l hl hn K d (j+1) n (so++FW (MW (DT l[j].toInt))) AG AG (by rw[BC];omega);rw[<-ih];have hsz:AE (so.size+(FW (MW (DT l[j].toInt))).size<=1000000000)=AC:=AL AG;revert hsz;unfold MW;cases(DT l[j].toInt).lf with
  |true=>
   intro hsz;have hsz:AE (AP so+AP (FW [UJ,D5 (DT l[j].toInt).v])<=1000000000)=AC:=hsz;have e:BG IV.toStr (A3 0 (AU 2 [IV.str {data:=#[108,101,97,102]},IV.str (D5 (Nd.v (DT (IV.toInt l[j]))))]))=[UJ,D5 (DT l[j].toInt).v]:=rfl;rw[DQ,e,hsz];rfl
  |false=>
   intro hsz;have hsz:AE (AP so+AP (FW [o4,DZ (DT l[j].toInt).f,yD,D5 (DT l[j].toInt).a,yE,DZ (DT l[j].toInt).l,yC,DZ (DT l[j].toInt).r])<=1000000000)=AC:=hsz;have e:BG IV.toStr (A3 0 (AU 8 [IV.str {data:=#[105,102]},IV.str (DZ (Nd.f (DT (IV.toInt l[j])))),IV.str {data:=#[60,61]},IV.str (D5 (Nd.a (DT (IV.toInt l[j])))),IV.str {data:=#[116,104,101,110]},IV.str (DZ (Nd.l (DT (IV.toInt l[j])))),IV.str {data:=#[101,108,115,101]},IV.str (DZ (Nd.r (DT (IV.toInt l[j]))))]))=[o4,DZ (DT l[j].toInt).f,yD,D5 (DT l[j].toInt).a,yE,DZ (DT l[j].toInt).l,yC,DZ (DT l[j].toInt).r]:=rfl;rw[DR,e,hsz];rfl
theorem Uf{d c:Int}{t:IV}(h:HH d c t=AC):0<=(t.cell 0).toInt/\(t.cell 0).toInt<c/\1<=(t.cell 1).toList.length/\(t.cell 1).toList.length<=31/\∀w∈(t.cell 1).toList,FQ w.toInt=AC:=by
 unfold HH GP at h;simp only[AQ,CE,B3]at h;obtain⟨h1,h2,⟨h3,h4⟩,h5,_⟩:=h;exact⟨by omega,by omega,AX h3,AX h4,Jy h5⟩
theorem Uh{d c:Int}{t:IV}(hc:c<=3)(h:HH d c t=AC):(∀l∈UH t,l.length<=8/\∀w∈l,w.size<=100)/\(UH t).length<=32:=by
 obtain⟨h1,h2,h3,h4,h5⟩:=Uf h;constructor
 .intro l hl;unfold UH at hl;rcases AW.1 hl with rfl|hl
  .refine⟨by simp,λw hw=>?_⟩;simp only[AW,CC,C7]at hw;rcases hw with rfl|rfl|rfl
   .decide
   .exact YN (by unfold EN;omega)
   .exact YN (by unfold EN;simp only[ic];omega)
  .unfold IC at hl;obtain⟨w,hw,rfl⟩:=CU.1 hl;exact Ju (Jt (h5 w hw))
 .unfold UH IC;rw[AV,BW];omega
abbrev Vr(ts:LI)(i:Int)(so:BA):St:=
 ⟨[(2,(.str {data:=#[]})),(3,(.ptr 3 0 0)),(43,(.list AC [.z,(.list AD [(.int .u64)])] ts)),(44,(.i (ic ts.length))),(45,(.i i))],[(3,(AA (.bld so)))]⟩
theorem Ul(N:Nat)(hN:40<=N)(d c:Int)(hc:c<=3)(ts:LI)(hl:ts.length<=8)(ht:ts.all (HH d c)=AC)(K:Out->St->DU):∀(m i n:Nat) (so:BA),i+m=ts.length->m<n->so.size+30000*m<=1000000000->
  D3 (I3 N) (DS LH [1,1,1,1,1,1,1,0,1,0,0]) ⟨[2,3,43,44,45],[3],[]⟩ n (Vr ts (i:Int) so) K=
   K (.exit 2) (Vr ts (ic ts.length) (so++GI (G3 (ts.drop i))))
 |m,i,0,_,_,h,_=>absurd h AG
 |0,i,n+1,so,hd,_,_=>by
  have hi:i=ts.length:=by omega
  subst hi;rw[D8,Ti,AS (show¬((ts.length:Nat):Int)<ic ts.length by simp only[ic];omega),DR,C8];have e:so++GI (G3 [])=so:=by
   show so++CQ=so;rw[ByteArray.append_empty]
  rw[e]
 |m+1,i,n+1,so,hd,hn,hz=>by
  have hil:i<ts.length:=by omega
  have ei:AI AJ ((i:Int)+1)=((i+1:Nat):Int):=by
   rw[ER AG AG];omega
  have hg:ts.getD (AM (i:Int)) default=ts[i]:=by
   rw[BE,BY,BD hil];rfl
  have hok:=CZ.1 ht ts[i] (C0 hil);have hw:=Uh hc hok;have hts:=xQ _ hw.1;obtain⟨h1,h2,h3,h4,h5⟩:=Uf hok;have hh:∀w∈[PO,DZ (ts[i].cell 0).toInt,DZ (ic (ts[i].cell 1).toList.length)],w.size<=100:=(hw.1 _ (by unfold UH;exact AY ..)).2;have hls:=iQ _ (by simp) hh;have e:BG IV.toStr (A3 0 (AU 3 [IV.str {data:=#[116,114,101,101]},IV.str (DZ (IV.toInt (IV.cell ts[i] 0))),IV.str (DZ (ic (AN (IV.toList (IV.cell ts[i] 1)))))]))=[PO,DZ (ts[i].cell 0).toInt,DZ (ic (ts[i].cell 1).toList.length)]:=rfl;have el:CG (AN (A3 0 (AU 3 [IV.str {data:=#[116,114,101,101]},IV.str (DZ (IV.toInt (IV.cell ts[i] 0))),IV.str (DZ (ic (AN (IV.toList (IV.cell ts[i] 1)))))]))) 1000=AC:=rfl;rw[D8,Ti,hg,e,el,AL (show(i:Int)<ic ts.length by simp only[ic];omega),DQ,AL (show(0:Int)<=(i:Int) by omega),BR,DQ,
   AL (show so.size+(FW [PO,DZ (ts[i].cell 0).toInt,DZ (ic (ts[i].cell 1).toList.length)]).size<=1000000000 by omega),BR,DQ]
  refine(Ke N ts (i:Int) (ts[i].cell 1).toList h4 h5 _ (ts[i].cell 1).toList.length 0 N (so++FW [PO,DZ (ts[i].cell 0).toInt,DZ (ic (ts[i].cell 1).toList.length)]) AG AG (by rw[BC];omega)).trans ?_;rw[kw,ei,CD,BJ hil];have hr:GI (G3 (ts[i]::ts.drop (i+1)))=(FW [PO,DZ (ts[i].cell 0).toInt,DZ (ic (ts[i].cell 1).toList.length)]++GI (IC (ts[i].cell 1).toList))++GI (G3 (ts.drop (i+1))):=by
   rw[G3,xO];rfl
  rw[hr,<-vai (a:=so),<-vai (a:=so)];have hsz:(FW [PO,DZ (ts[i].cell 0).toInt,DZ (ic (ts[i].cell 1).toList.length)]++GI (IC (ts[i].cell 1).toList)).size<=26000:=by
   have:GI (UH ts[i])=FW [PO,DZ (ts[i].cell 0).toInt,DZ (ic (ts[i].cell 1).toList.length)]++GI (IC (ts[i].cell 1).toList):=rfl
   rw[<-this]
   have:=hw.2
   omega
  exact Ul N hN d c hc ts hl ht K m (i+1) n _ AG AG (by rw[vai,BC];omega)
abbrev cS(d c b0 b1 b2:Int)(ts:LI)(C:Nat)(so:BA)(ws:LI)(n:Nat)(i:Int):St:=
 ⟨[(1,(.ptr 1 0 0)),(2,(.str {data:=#[]})),(3,(.ptr 3 0 0)),(4,(.row 500 0 n)),(28,(.bview 1 2 3 1 C)),(29,(.i (ic C))),(30,(.i i))],[(1,(AA (.box [(.i d),(.i c),(.i b0),(.i b1),(.i b2),(.list AC [.z,(.list AD [(.int .u64)])] ts)]))),(3,(AA (.bld so))),(500,(AA (.row AC 9 AD [.str] ws)))]⟩
theorem o8(N:Nat)(d c b0 b1 b2:Int)(ts:LI)(C:Nat)(so:BA)(ws:LI)(n i:Nat)(b:Int)(hi:i<C)(hn:n<=10)(h:(i=0/\b=b0)\/(i=1/\b=b1)\/(i=2/\b=b2))(again:St->DU)(k:Out->St->DU):
  EY (I3 N) (DS LH [1,1,1,1,1,0,1,0,0]) (cS d c b0 b1 b2 ts C so ws n (i:Int)) (ES again ⟨[1,2,3,4,28,29,30],[1,3,500],[⟨.tmp 4,500,9,AD,[.str]⟩]⟩ k)=
   again (cS d c b0 b1 b2 ts C so (ws.take n++[.str (D5 b)]) (n+1) ((i+1:Nat):Int)):=by
 rw[oO];have ei:AI AJ ((i:Int)+1)=((i+1:Nat):Int):=by
  rw[ER AG AG];omega
 have eb:TI.bytes (Env.tyd (I3 N) 9)=16:=rfl;have e1:∀x:IV,AN (A3 0 (AU 1 [x]))=1:=λx=>rfl
 rw[ei,eb,e1,e1,e1,AL (show(i:Int)<ic C by simp only[ic];omega),DQ,DQ,AL (show(n+1)*16<=EL by unfold EL;omega)];rcases h with⟨rfl,rfl⟩|⟨rfl,rfl⟩|⟨rfl,rfl⟩<;>rfl
theorem zfX(N:Nat)(hN:10<=N)(d b0 b1 b2:Int)(ts:LI)(C:Nat)(h1:1<=C)(h3:C<=3)(so:BA)(K:Out->St->DU):
  D3 (I3 N) (DS LH [1,1,1,1,1,0,1,0,0]) ⟨[1,2,3,4,28,29,30],[1,3,500],[⟨.tmp 4,500,9,AD,[.str]⟩]⟩ N (cS d (C:Int) b0 b1 b2 ts C so [.str JP] 1 0) K=
   K (.exit 0) (cS d (C:Int) b0 b1 b2 ts C so ((JP::(([b0,b1,b2].take C).map D5)).map IV.str) (1+C) (C:Int)):=by
 obtain⟨M,rfl⟩:∃M,N=M+4:=⟨N-4,by omega⟩;have e0:cS d (C:Int) b0 b1 b2 ts C so [.str JP] 1 0=cS d (C:Int) b0 b1 b2 ts C so [.str JP] 1 ((0:Nat):Int):=rfl;rw[e0,D8,o8 (M+4) d (C:Int) b0 b1 b2 ts C so _ 1 0 b0 AG AG (by simp)]
 match C,h1,h3 with
 |1,_,_=>
  rw[D8,oO,AS (show¬((0+1:Nat):Int)<ic 1 by decide),DR];rfl
 |2,_,_=>
  rw[D8,o8 (M+4) d _ b0 b1 b2 ts 2 so _ _ 1 b1 AG AG (by simp),D8,oO,AS (show¬((1+1:Nat):Int)<ic 2 by decide),DR];rfl
 |3,_,_=>
  rw[D8,o8 (M+4) d _ b0 b1 b2 ts 3 so _ _ 1 b1 AG AG (by simp),D8,o8 (M+4) d _ b0 b1 b2 ts 3 so _ _ 2 b2 AG AG (by simp),D8,oO,AS (show¬((2+1:Nat):Int)<ic 3 by decide),DR];rfl
theorem tP{m:Md}(h:EU m=AC):(1<=m.d/\m.d<=4)/\(1<=m.c/\m.c<=3)/\m.ts.length<=8/\(GR m.c 0 m.b0=AC/\GR m.c 1 m.b1=AC/\GR m.c 2 m.b2=AC)/\m.ts.all (HH m.d m.c)=AC:=by
 unfold EU at h;simp only[AQ,CE,B3]at h;obtain⟨⟨h1,h2,h3,h4,h5⟩,⟨h6,h7,h8⟩,h9⟩:=h;exact⟨⟨by omega,by omega⟩,⟨by omega,by omega⟩,AX h5,⟨h6,h7,h8⟩,h9⟩
theorem pS{c j b:Int}(h:GR c j b=AC):(-2147483648<=b/\b<=2147483647)/\(c<=j->b=0):=by
 unfold GR at h;rw[AQ]at h;refine⟨rP h.1,λhj=>?_⟩
 have:=h.2
 rw[AL (show j>=c from hj)]at this;simpa using this
theorem Gs{m:Md}(h:EU m=AC):∀l∈TX m,l.length<=8/\∀w∈l,w.size<=100:=by
 obtain⟨hd,hc,_,⟨g0,g1,g2⟩,_⟩:=tP h;have i0:=(pS g0).1;have i1:=(pS g1).1;have i2:=(pS g2).1;intro l hl;unfold TX at hl;simp only[AW,CC,C7]at hl;rcases hl with rfl|rfl
 .refine⟨by simp,λw hw=>?_⟩;simp only[AW,CC,C7]at hw;rcases hw with rfl|rfl|rfl
  .decide
  .exact YN (by unfold EN;omega)
  .exact YN (by unfold EN;omega)
 .refine⟨by simp only[AV,BW,BL,BN];omega,λw hw=>?_⟩;rcases AW.1 hw with rfl|hw
  .decide
  .obtain⟨b,hb,rfl⟩:=CU.1 hw;have hb:=vaO hb;simp only[AW,CC,C7]at hb;rcases hb with rfl|rfl|rfl
   .exact jE (by unfold EN;omega)
   .exact jE (by unfold EN;omega)
   .exact jE (by unfold EN;omega)
set_option maxHeartbeats 1000000 in
theorem wY:D6 PR B0 13 TE:=by
 refine EF [(43,TA),(49,M9),(51,NA),(42,PZ),(47,U2),(50,gB)] [(7,⟨[1,2,3,4,28,29,30],[1,3,500],[⟨.tmp 4,500,9,false,[.str]⟩]⟩),(13,⟨[2,3,43,44,45],[3],[]⟩),(17,⟨[2,3,43,44,45,59,60,61],[3],[]⟩)] TE [[.str]] Tryz.func13 sm ⟨wS,cA,cB,jV,wU,zeR,trivial⟩ ?_;intro vs r hwf h;unfold TE at h;split at h
 ·rename_i d c b0 b1 b2 ts;refine ⟨40,?_⟩;rw [R.get_ok] at h;rw [← h];refine (zaQ 40 d c b0 b1 b2 ts).trans ?_;unfold HU;cases hm:EU ⟨d,c,b0,b1,b2,ts⟩ with
  | false=>rfl
  | true=>
   obtain ⟨hd,hc,hl,_,ht⟩:=tP hm;simp only at hd hc hl ht;have hh:=Gs hm;have hh1:=hh _ (List.mem_cons_self ..);have hh2:=hh _ (List.mem_cons_of_mem _ (List.mem_cons_self ..));have z1:=iQ _ hh1.1 hh1.2;have z2:=iQ _ hh2.1 hh2.2;obtain ⟨C,rfl⟩:∃ C:Nat,c=(C:Int):=⟨c.toNat,by omega⟩;have e1:List.map IV.toStr (List.drop 0 (List.take 3 [IV.str { data:=#[102,111,114,101,115,116] },IV.str (DZ d),IV.str (DZ (C:Int))]))=[OR,DZ d,DZ (C:Int)]:=rfl;have e2:Nat.ble (List.length (List.drop 0 (List.take 3 [IV.str { data:=#[102,111,114,101,115,116] },IV.str (DZ d),IV.str (DZ (C:Int))]))) 1000=true:=rfl;have e3:ByteArray.size ByteArray.empty=0:=rfl;have z1:(FW [OR,DZ d,DZ (C:Int)]).size≤809:=z1;rw [Bool.not_true,DR,DQ,e1,e2,e3,decide_eq_true (show 0+(FW [OR,DZ d,DZ (C:Int)]).size≤1000000000 by omega),Bool.and_self,DQ,decide_eq_true (show (0:Int)≤(C:Int) by omega),decide_eq_true (show (C:Int)≤ic 3 by simp only [ic]; omega),Bool.and_self,DQ,Int.toNat_natCast,ByteArray.empty_append];refine (zfX 40 (by omega) d b0 b1 b2 ts C (by omega) (by omega) (FW [OR,DZ d,DZ (C:Int)]) _).trans ?_;rw [ku];have e4:List.map IV.toStr (List.drop 0 (List.take (1+C) ((JP :: (([b0,b1,b2].take C).map D5)).map IV.str)))=JP :: (([b0,b1,b2].take C).map D5):=by
    match C,hc with
    | 0,hc=>exact absurd hc.1 (by decide)
    | 1,_=>rfl
    | 2,_=>rfl
    | 3,_=>rfl
    | C+4,hc=>exact absurd hc.2 (by omega)
   have e5:Nat.ble (List.length (List.drop 0 (List.take (1+C) ((JP :: (([b0,b1,b2].take C).map D5)).map IV.str)))) 1000=true:=by
    apply Nat.ble_eq_true_of_le;rw [List.length_drop,List.length_take];omega
   have z2:(FW (JP :: (([b0,b1,b2].take C).map D5))).size≤809:=by
    have:(([b0,b1,b2].take (C:Int).toNat).map D5)=(([b0,b1,b2].take C).map D5):=by rw [Int.toNat_natCast]
    rw [← this];exact z2
   rw [e4,e5,decide_eq_true (show (FW [OR,DZ d,DZ (C:Int)]).size+(FW (JP :: (([b0,b1,b2].take C).map D5))).size≤1000000000 by omega),Bool.and_self,DQ];refine (Ul 40 (by omega) d (C:Int) (by omega) ts hl ht _ ts.length 0 40 _ (by omega) (by omega) (by rw [ByteArray.size_append]; omega)).trans ?_;rw [kv,List.drop_zero];have e6:GI (MU ⟨d,(C:Int),b0,b1,b2,ts⟩)=FW [OR,DZ d,DZ (C:Int)]++FW (JP :: (([b0,b1,b2].take C).map D5))++GI (G3 ts):=by
    show GI (TX ⟨d,(C:Int),b0,b1,b2,ts⟩++G3 ts)=_;rw [xO];show FW [OR,DZ d,DZ (C:Int)]++(FW (JP :: (([b0,b1,b2].take (C:Int).toNat).map D5))++ByteArray.empty)++GI (G3 ts)=_;rw [ByteArray.append_empty,Int.toNat_natCast]
   rw [e6]
 ·simp [R.get] at h
open Go Go.Proofs
def H4(N:Nat):Env:=EE [(64,N6),(65,TC),(13,TE),(67,XP),(66,XQ),(70,gC),(69,XR),(68,XS)] [(6,⟨[0,2,3,4,6,7,28,29],[2,6,15],[]⟩),(10,⟨[0,2,3,4,6],[2,6,15,500],[⟨.cell 6 5,500,85,AC,[.z,.list AD [.int .u64]]⟩]⟩),(14,⟨[0,2,3,4,6,10,61,62],[2,6,10,15,500,501],[⟨.cell 6 5,500,85,AC,[.z,.list AD [.int .u64]]⟩,⟨.cell 10 1,501,106,AD,[.int .u64]⟩]⟩)] 88 N
abbrev W1(s0:BA)(b3:Bool)(l7:LI)(x28 x29 u01 u02 u03 u04 u05 u06 u07 u08 u09 u0a:Int)(u00:LI):St:=⟨[(0,(.str s0)),(2,(.ptr 2 0 0)),(3,(.bool b3)),(4,(.ptr 15 0 0)),(6,(.ptr 6 0 0)),(7,(.list AD [.str] l7)),(28,(.i x28)),(29,(.i x29))],[(2,(AA (.box [.i u01,.i u02,.i u03,.i u04,.i u05,.zs]))),(6,(AA (.box [.i u06,.i u07,.i u08,.i u09,.i u0a,.zs]))),(15,(AA (.box [.list AD [.str] u00])))]⟩
abbrev ZT(s0:BA)(b3:Bool)(u03 u04 u05 u06 u07 u08 u09 u0a u0b u0c:Int)(u02:Nat)(u00 u01:LI):St:=⟨[(0,(.str s0)),(2,(.ptr 2 0 0)),(3,(.bool b3)),(4,(.ptr 15 0 0)),(6,(.ptr 6 0 0))],[(2,(AA (.box [.i u03,.i u04,.i u05,.i u06,.i u07,.zs]))),(6,(AA (.box [.i u08,.i u09,.i u0a,.i u0b,.i u0c,.row 500 0 u02]))),(15,(AA (.box [.list AD [.str] u00]))),(500,(AA (.row AC 85 AC [.z,.list AD [.int .u64]] u01)))]⟩
abbrev cZ(s0:BA)(b3:Bool)(x61 x62 u06 u07 u08 u09 u0a u0b u0c u0d u0e u0f:Int)(u04:Nat)(u05:Int)(u03:Nat)(u00 u01 u02:LI):St:=⟨[(0,(.str s0)),(2,(.ptr 2 0 0)),(3,(.bool b3)),(4,(.ptr 15 0 0)),(6,(.ptr 6 0 0)),(10,(.ptr 10 0 0)),(61,(.i x61)),(62,(.i x62))],[(2,(AA (.box [.i u06,.i u07,.i u08,.i u09,.i u0a,.zs]))),(6,(AA (.box [.i u0b,.i u0c,.i u0d,.i u0e,.i u0f,.row 500 0 u04]))),(10,(AA (.box [.i u05,.row 501 0 u03]))),(15,(AA (.box [.list AD [.str] u00]))),(500,(AA (.row AC 85 AC [.z,.list AD [.int .u64]] u01))),(501,(AA (.row AC 106 AD [.int .u64] u02)))]⟩
theorem zaP(N:Nat)(s:BA):EA (H4 N) J4 [.cell 2 31,.tmp 3] [[.z,.z,.z,.z,.z,.list AC [.z,.list AD [.int .u64]]],[.bool]] [.str s]=(cond (AE (AP (GN s {data:=#[10]})<4294967281)&&AE (1<=AP {data:=#[10]})) (cond (K5 (BG IV.str (EH (GN s {data:=#[10]}) {data:=#[10]}))) (cond (K5 (A3 1 (BG IV.str (EH (GN s {data:=#[10]}) {data:=#[10]})))) (D3 (H4 N) (DS J4 [1,1,1,1,1,0,1,0,0]) ⟨[0,2,3,4,6,7,28,29],[2,6,15],[]⟩ N (W1 s AD (FH (A3 1 (BG IV.str (EH (GN s {data:=#[10]}) {data:=#[10]})))) (FU (D9 (FH (BG IV.str (EH (GN s {data:=#[10]}) {data:=#[10]}))) (AM 2)) 3) 0 0 0 0 0 0 (FU (D9 (FH (BG IV.str (EH (GN s {data:=#[10]}) {data:=#[10]}))) (AM 1)) 4) (FU (D9 (FH (BG IV.str (EH (GN s {data:=#[10]}) {data:=#[10]}))) (AM 2)) 3) 0 0 0 (A3 1 (A3 1 (BG IV.str (EH (GN s {data:=#[10]}) {data:=#[10]}))))) (DW 0 (DX (H4 N) (DS J4 [1,1,1,1,1,1]) (D2 (H4 N) AB [.cell 2 31,.tmp 3] [[.z,.z,.z,.z,.z,.list AC [.z,.list AD [.int .u64]]],[.bool]])))) AB) AB) AB):=AF
theorem j3(N:Nat)(s0:BA)(b3:Bool)(l7:LI)(x28 x29 u01 u02 u03 u04 u05 u06 u07 u08 u09 u0a:Int)(u00:LI)(again:St->DU)(k:Out->St->DU):EY (H4 N) (DS J4 [1,1,1,1,1,0,1,0,0]) (W1 s0 b3 l7 x28 x29 u01 u02 u03 u04 u05 u06 u07 u08 u09 u0a u00) (ES again ⟨[0,2,3,4,6,7,28,29],[2,6,15],[]⟩ k)=(cond (AE (x29<x28)) (cond (AE (0<=AI AJ (1+x29))) (cond (AE (AP (D9 l7 (AM (AI AJ (1+x29))))<4294967281)) (cond (AE (x29=ic 0)) (again (W1 s0 b3 l7 x28 (AI AJ (x29+1)) u01 u02 u03 u04 u05 u06 u07 (GL (D9 l7 (AM (AI AJ (1+x29))))) u09 u0a u00)) (cond (AE (x29=ic 1)) (again (W1 s0 b3 l7 x28 (AI AJ (x29+1)) u01 u02 u03 u04 u05 u06 u07 u08 (GL (D9 l7 (AM (AI AJ (1+x29))))) u0a u00)) (cond (AE (x29=ic 2)) (again (W1 s0 b3 l7 x28 (AI AJ (x29+1)) u01 u02 u03 u04 u05 u06 u07 u08 u09 (GL (D9 l7 (AM (AI AJ (1+x29))))) u00)) AB))) AB) AB) (k (.exit 0) (W1 s0 b3 l7 x28 x29 u01 u02 u03 u04 u05 u06 u07 u08 u09 u0a u00))):=AF
theorem kj(N:Nat)(s0:BA)(b3:Bool)(l7:LI)(x28 x29 u01 u02 u03 u04 u05 u06 u07 u08 u09 u0a:Int)(u00:LI):(DW 0 (DX (H4 N) (DS J4 [1,1,1,1,1,1]) (D2 (H4 N) AB [.cell 2 31,.tmp 3] [[.z,.z,.z,.z,.z,.list AC [.z,.list AD [.int .u64]]],[.bool]]))) (.exit 0) (W1 s0 b3 l7 x28 x29 u01 u02 u03 u04 u05 u06 u07 u08 u09 u0a u00)=(D3 (H4 N) (DS J4 [1,1,1,1,1,1,0,0,0]) ⟨[0,2,3,4,6],[2,6,15,500],[⟨(.cell 6 5),500,85,AC,[.z,.list AD [.int .u64]]⟩]⟩ N (ZT s0 b3 u01 u02 u03 u04 u05 u06 u07 u08 u09 u0a 0 u00 []) (DW 2 (DX (H4 N) (DS J4 [1,1,1,1,1,1,1]) (D2 (H4 N) AB [.cell 2 31,.tmp 3] [[.z,.z,.z,.z,.z,.list AC [.z,.list AD [.int .u64]]],[.bool]])))):=AF
theorem xH(N:Nat)(s0:BA)(b3:Bool)(u03 u04 u05 u06 u07 u08 u09 u0a u0b u0c:Int)(u02:Nat)(u00 u01:LI)(again:St->DU)(k:Out->St->DU):EY (H4 N) (DS J4 [1,1,1,1,1,1,0,0,0]) (ZT s0 b3 u03 u04 u05 u06 u07 u08 u09 u0a u0b u0c u02 u00 u01) (ES again ⟨[0,2,3,4,6],[2,6,15,500],[⟨(.cell 6 5),500,85,AC,[.z,.list AD [.int .u64]]⟩]⟩ k)=(cond (AE (ic (AN u00)>0)) (cond (AE (ic (u02-0)<=8)) (cond (K5 u00) (D3 (H4 N) (DS J4 [1,1,1,1,1,1,0,0,0,1,0,1,1,0,1,0,0]) ⟨[0,2,3,4,6,10,61,62],[2,6,10,15,500,501],[⟨(.cell 6 5),500,85,AC,[.z,.list AD [.int .u64]]⟩,⟨(.cell 10 1),501,106,AD,[.int .u64]⟩]⟩ N (cZ s0 b3 (FU (D9 (FH u00) (AM 2)) 31) 0 u03 u04 u05 u06 u07 u08 u09 u0a u0b u0c u02 (FU (D9 (FH u00) (AM 1)) 3) 0 (A3 1 u00) u01 []) (DW 4 (DX (H4 N) (DS J4 [1,1,1,1,1,1,0,0,0,1,0,1,1,1]) (DW 3 (ES again ⟨[0,2,3,4,6],[2,6,15,500],[⟨(.cell 6 5),500,85,AC,[.z,.list AD [.int .u64]]⟩]⟩ k))))) AB) (k (.exit 2) (ZT s0 b3 u03 u04 u05 u06 u07 u08 u09 u0a u0b u0c u02 u00 u01))) (k (.exit 2) (ZT s0 b3 u03 u04 u05 u06 u07 u08 u09 u0a u0b u0c u02 u00 u01))):=AF
theorem Th(N:Nat)(s0:BA)(b3:Bool)(x61 x62 u06 u07 u08 u09 u0a u0b u0c u0d u0e u0f:Int)(u04:Nat)(u05:Int)(u03:Nat)(u00 u01 u02:LI)(again:St->DU)(k:Out->St->DU):EY (H4 N) (DS J4 [1,1,1,1,1,1,0,0,0,1,0,1,1,0,1,0,0]) (cZ s0 b3 x61 x62 u06 u07 u08 u09 u0a u0b u0c u0d u0e u0f u04 u05 u03 u00 u01 u02) (ES again ⟨[0,2,3,4,6,10,61,62],[2,6,10,15,500,501],[⟨(.cell 6 5),500,85,AC,[.z,.list AD [.int .u64]]⟩,⟨(.cell 10 1),501,106,AD,[.int .u64]⟩]⟩ k)=(cond (AE (x62<x61)) (cond (K5 u00) (cond (AE ((u03+AN (A3 0 (AU 1 [IV.int (G9 (OL (FH u00)))])))*TI.bytes (Env.tyd (H4 N) 106)<=EL)) (again (cZ s0 b3 x61 (AI AJ (x62+1)) u06 u07 u08 u09 u0a u0b u0c u0d u0e u0f u04 u05 (u03+AN (A3 0 (AU 1 [IV.int (G9 (OL (FH u00)))]))) (A3 1 u00) u01 (AU u03 u02++A3 0 (AU 1 [IV.int (G9 (OL (FH u00)))])))) AB) AB) (k (.exit 4) (cZ s0 b3 x61 x62 u06 u07 u08 u09 u0a u0b u0c u0d u0e u0f u04 u05 u03 u00 u01 u02))):=AF
theorem ko(N:Nat)(s0:BA)(b3:Bool)(u03 u04 u05 u06 u07 u08 u09 u0a u0b u0c:Int)(u02:Nat)(u00 u01:LI):(DW 2 (DX (H4 N) (DS J4 [1,1,1,1,1,1,1]) (D2 (H4 N) AB [.cell 2 31,.tmp 3] [[.z,.z,.z,.z,.z,.list AC [.z,.list AD [.int .u64]]],[.bool]]))) (.exit 2) (ZT s0 b3 u03 u04 u05 u06 u07 u08 u09 u0a u0b u0c u02 u00 u01)=(cond (A7 s0==A7 {data:=#[]}) (AA (.tup [.agg [.i 0,.i 0,.i 0,.i 0,.i 0,.list AC [.z,.list AD [.int .u64]] []],.bool AD],[])) (cond (!A7 (HU {d:=u08,c:=u09,b0:=u0a,b1:=u0b,b2:=u0c,ts:=A3 0 (AU u02 u01)})==A7 s0) (AA (.tup [.agg [.i 0,.i 0,.i 0,.i 0,.i 0,.list AC [.z,.list AD [.int .u64]] []],.bool AD],[])) (AA (.tup [.agg [.i u08,.i u09,.i u0a,.i u0b,.i u0c,.list AC [.z,.list AD [.int .u64]] (A3 0 (AU u02 u01))],.bool AC],[])))):=AF
theorem kr(N:Nat)(again:St->DU)(k:Out->St->DU)(s0:BA)(b3:Bool)(x61 x62 u06 u07 u08 u09 u0a u0b u0c u0d u0e u0f:Int)(u04:Nat)(u05:Int)(u03:Nat)(u00 u01 u02:LI):(DW 4 (DX (H4 N) (DS J4 [1,1,1,1,1,1,0,0,0,1,0,1,1,1]) (DW 3 (ES again ⟨[0,2,3,4,6],[2,6,15,500],[⟨(.cell 6 5),500,85,AC,[.z,.list AD [.int .u64]]⟩]⟩ k)))) (.exit 4) (cZ s0 b3 x61 x62 u06 u07 u08 u09 u0a u0b u0c u0d u0e u0f u04 u05 u03 u00 u01 u02)=(cond (AE ((u04+AN (A3 0 (AU 1 [IV.agg [IV.int u05,IV.list (A3 0 (AU u03 u02))]])))*TI.bytes (Env.tyd (H4 N) 85)<=EL)) (again (ZT s0 b3 u06 u07 u08 u09 u0a u0b u0c u0d u0e u0f (u04+AN (A3 0 (AU 1 [IV.agg [IV.int u05,IV.list (A3 0 (AU u03 u02))]]))) u00 (AU u04 u01++A3 0 (AU 1 [IV.agg [IV.int u05,IV.list (A3 0 (AU u03 u02))]])))) AB):=AF
open Go Go.Proofs
theorem Ea(s:BA){most:Int}(h:0<=most):0<=FU s most/\FU s most<=most:=by
 unfold FU;cases ha:MK s<;>cases h1:AE (FT s<0)<;>cases h2:AE (FT s>most)
 all_goals simp only[A9,BF,BR,CK,DE,B5,BK]
 all_goals first
  |exact⟨by omega,by omega⟩
  |(have h1:=BM h1;have h2:=BM h2;omega)
theorem cJ(s t:BA):(GN s t).size<=s.size:=by
 unfold GN;cases TW s t with
 |true=>
  rw[DQ,vay];omega
 |false=>exact A4 _
theorem vm{s:BA}(h:s.size<4294967281):K5 (VT s)=AC:=by
 unfold K5 VT;rw[CZ];intro x hx;obtain⟨w,hw,rfl⟩:=CU.1 hx
 have:=(ZC QS _ (cH s)).2 w hw
 have h2:(cH s).size<=s.size:=cJ s QS;refine AL ?_;show w.size<4294967281;omega
abbrev sP:KP:=⟨[0,2,3,4,6,7,28,29],[2,6,15],[]⟩
abbrev mN:KP:=⟨[0,2,3,4,6],[2,6,15,500],[⟨.cell 6 5,500,85,AC,[.z,.list AD [.int .u64]]⟩]⟩
abbrev Ht:KP:=⟨[0,2,3,4,6,10,61,62],[2,6,10,15,500,501],[⟨.cell 6 5,500,85,AC,[.z,.list AD [.int .u64]]⟩,⟨.cell 10 1,501,106,AD,[.int .u64]⟩]⟩
abbrev cQ(s:BA)(W:LI)(C i d c b0 b1 b2:Int)(L:LI):St:=
 ⟨[(0,(.str s)),(2,(.ptr 2 0 0)),(3,(.bool AD)),(4,(.ptr 15 0 0)),(6,(.ptr 6 0 0)),(7,(.list AD [.str] W)),(28,(.i C)),(29,(.i i))],[(2,(AA (.box [(.i 0),(.i 0),(.i 0),(.i 0),(.i 0),.zs]))),(6,(AA (.box [(.i d),(.i c),(.i b0),(.i b1),(.i b2),.zs]))),(15,(AA (.box [(.list AD [.str] L)])))]⟩
theorem Z9(N:Nat)(s:BA)(W:LI)(hW:∀i,(D9 W i).size<4294967281)(C:Int)(i:Nat)(hi:(i:Int)<C)(h3:i<3)(d c b0 b1 b2:Int)(L:LI)(again:St->DU)(k:Out->St->DU):
  EY (H4 N) (DS J4 [1,1,1,1,1,0,1,0,0]) (cQ s W C (i:Int) d c b0 b1 b2 L) (ES again sP k)=
   again (cQ s W C ((i+1:Nat):Int) d c (cond (B2 i 0) (GL (D9 W (1+i))) b0) (cond (B2 i 1) (GL (D9 W (1+i))) b1) (cond (B2 i 2) (GL (D9 W (1+i))) b2) L):=by
 rw[j3];have ei:AI AJ ((i:Int)+1)=((i+1:Nat):Int):=by
  rw[ER AG AG];omega
 have ei':AI AJ (1+(i:Int))=((1+i:Nat):Int):=by
  rw[ER AG AG];omega
 rw[ei,ei',BE,AL hi,DQ,AL (show(0:Int)<=((1+i:Nat):Int) by omega),DQ,AL (hW (1+i)),DQ]
 match i,h3 with
 |0,_=>rfl
 |1,_=>rfl
 |2,_=>rfl
theorem ai(N:Nat)(s:BA)(LS W:LI)(hWe:W=FH (LS.drop 1))(hW:∀i,(D9 W i).size<4294967281)(C:Int)(h0:0<=C)(h3:C<=3)(hN:10<=N)(d c:Int)(L:LI)(K:Out->St->DU):
  D3 (H4 N) (DS J4 [1,1,1,1,1,0,1,0,0]) sP N (cQ s W C 0 d c 0 0 0 L) K=K (.exit 0) (cQ s W C C d c (L7 LS C 0) (L7 LS C 1) (L7 LS C 2) L):=by
 obtain⟨M,rfl⟩:∃M,N=M+4:=⟨N-4,by omega⟩;obtain⟨n,rfl⟩:∃n:Nat,C=(n:Int):=⟨C.toNat,by omega⟩;subst hWe;have e0:cQ s (FH (LS.drop 1)) (n:Int) 0 d c 0 0 0 L=cQ s (FH (LS.drop 1)) (n:Int) ((0:Nat):Int) d c 0 0 0 L:=rfl;rw[e0]
 match n,h3 with
 |0,_=>
  rw[D8,j3,AS (show¬((0:Nat):Int)<((0:Nat):Int) by omega),DR];rfl
 |1,_=>
  rw[D8,Z9 (M+4) s _ hW _ 0 AG AG,D8,j3,AS (show¬((0+1:Nat):Int)<((1:Nat):Int) by omega),DR];rfl
 |2,_=>
  rw[D8,Z9 (M+4) s _ hW _ 0 AG AG,D8,Z9 (M+4) s _ hW _ 1 AG AG,D8,j3,AS (show¬((1+1:Nat):Int)<((2:Nat):Int) by omega),DR];rfl
 |3,_=>
  rw[D8,Z9 (M+4) s _ hW _ 0 AG AG,D8,Z9 (M+4) s _ hW _ 1 AG AG,D8,Z9 (M+4) s _ hW _ 2 AG AG,D8,j3,AS (show¬((2+1:Nat):Int)<((3:Nat):Int) by omega),DR];rfl
 |n+4,h3=>exact absurd h3 AG
abbrev yK(s:BA)(d c b0 b1 b2:Int)(L T:LI)(cl k j:Int)(NL:LI):St:=
 ⟨[(0,(.str s)),(2,(.ptr 2 0 0)),(3,(.bool AD)),(4,(.ptr 15 0 0)),(6,(.ptr 6 0 0)),(10,(.ptr 10 0 0)),(61,(.i k)),(62,(.i j))],[(2,(AA (.box [(.i 0),(.i 0),(.i 0),(.i 0),(.i 0),.zs]))),(6,(AA (.box [(.i d),(.i c),(.i b0),(.i b1),(.i b2),(.row 500 0 T.length)]))),(10,(AA (.box [(.i cl),(.row 501 0 NL.length)]))),(15,(AA (.box [(.list AD [.str] L)]))),(500,(AA (.row AC 85 AC [.z,(.list AD [(.int .u64)])] T))),(501,(AA (.row AC 106 AD [(.int .u64)] NL)))]⟩
theorem zcw(L:LI)(j:Nat):NV L (j+1)=NV L j++[.int (G9 (OL (FH (L.drop j))))]:=by
 unfold NV;rw[List.range_succ,List.map_append];rfl
theorem jJ(L:LI)(j:Nat):(NV L j).length=j:=by
 unfold NV;rw[BW,List.length_range]
theorem Kf(N:Nat)(s:BA)(d c b0 b1 b2:Int)(T L:LI)(hL:K5 L=AC)(cl:Int)(k:Nat)(hk:k<=31)(K:Out->St->DU):∀(m j n:Nat),j+m=k->m<n->
  D3 (H4 N) (DS J4 [1,1,1,1,1,1,0,0,0,1,0,1,1,0,1,0,0]) Ht n (yK s d c b0 b1 b2 (L.drop j) T cl (k:Int) (j:Int) (NV L j)) K=
   K (.exit 4) (yK s d c b0 b1 b2 (L.drop k) T cl (k:Int) (k:Int) (NV L k))
 |m,j,0,_,h=>absurd h AG
 |0,j,n+1,hd,_=>by
  have hj:j=k:=by omega
  subst hj;rw[D8,Th,AS (show¬(j:Int)<(j:Int) by omega),DR]
 |m+1,j,n+1,hd,hn=>by
  have ej:AI AJ ((j:Int)+1)=((j+1:Nat):Int):=by
   rw[ER AG AG];omega
  have eb:TI.bytes (Env.tyd (H4 N) 106)=8:=rfl;have e1:∀x:IV,AN (A3 0 (AU 1 [x]))=1:=λx=>rfl
  have e2:∀x:IV,A3 0 (AU 1 [x])=[x]:=λx=>rfl
  rw[D8,Th,ej,eb,e1,e2,AL (show(j:Int)<(k:Int) by omega),DQ,Y0 hL j,DQ,jJ,AL (show(j+1)*8<=EL by unfold EL;omega),DQ];have e3:AU j (NV L j)=NV L j:=C2 (by rw[jJ];omega);rw[e3,<-zcw,List.drop_drop];have ih:=Kf N s d c b0 b1 b2 T L hL cl k hk K m (j+1) n AG AG;unfold yK at ih ⊢;rw[jJ]at ih;exact ih
abbrev pA(s:BA)(d c b0 b1 b2:Int)(L T:LI):St:=
 ⟨[(0,(.str s)),(2,(.ptr 2 0 0)),(3,(.bool AD)),(4,(.ptr 15 0 0)),(6,(.ptr 6 0 0))],[(2,(AA (.box [(.i 0),(.i 0),(.i 0),(.i 0),(.i 0),.zs]))),(6,(AA (.box [(.i d),(.i c),(.i b0),(.i b1),(.i b2),(.row 500 0 T.length)]))),(15,(AA (.box [(.list AD [.str] L)]))),(500,(AA (.row AC 85 AC [.z,(.list AD [(.int .u64)])] T)))]⟩
theorem Um(N:Nat)(hN:40<=N)(s:BA)(d c b0 b1 b2:Int)(K:Out->St->DU):∀(m n:Nat) (L T:LI),K5 L=AC->T.length+m=9->m<n->
  ∃L',D3 (H4 N) (DS J4 [1,1,1,1,1,1,0,0,0]) mN n (pA s d c b0 b1 b2 L T) K=K (.exit 2) (pA s d c b0 b1 b2 L' (T++L8 m L))
 |m,0,L,T,_,_,h=>absurd h AG
 |m,n+1,[],T,hL,hT,hn=>by
  refine⟨[],?_⟩;have e:L8 m []=[]:=by cases m<;>rfl
  rw[D8,xH,AS (show¬ic (AN ([]:LI))>0 by decide),DR,e,vab]
 |0,n+1,l::L,T,hL,hT,hn=>by
  refine⟨l::L,?_⟩;rw[D8,xH,AL (show ic (AN (l::L))>0 by simp only[ic,AV];omega),DQ,AS (show¬ic (T.length-0)<=8 by simp only[ic];omega),DR];show K (.exit 2) _=K (.exit 2) (pA s d c b0 b1 b2 (l::L) (T++[]));rw[vab]
 |m+1,n+1,l::L,T,hL,hT,hn=>by
  obtain⟨k0,k1⟩:=Ea (D9 (FH (l::L)) 2) (most:=31) AG;have hk:FU (D9 (FH (l::L)) 2) 31=((NU (l::L):Nat):Int):=by unfold NU;omega
  have hLd:=Y0 hL 1;have hk31:NU (l::L)<=31:=by unfold NU;omega
  have e2:AM 2=2:=rfl;have e1:AM 1=1:=rfl;rw[D8,xH,AL (show ic (AN (l::L))>0 by simp only[ic,AV];omega),DQ,AL (show ic (T.length-0)<=8 by simp only[ic];omega),DQ,hL,DQ,e2,e1,hk];have run:=Kf N s d c b0 b1 b2 T (A3 1 (l::L)) hLd (FU (D9 (FH (l::L)) 1) 3) (NU (l::L)) hk31
   (DW 4 (DX (H4 N) (DS J4 [1,1,1,1,1,1,0,0,0,1,0,1,1,1]) (DW 3 (ES (λs'=>D3 (H4 N) (DS J4 [1,1,1,1,1,1,0,0,0]) mN n s' K) mN K)))) (NU (l::L)) 0 N AG AG
  have eb:TI.bytes (Env.tyd (H4 N) 85)=32:=rfl;have e3:∀x:IV,AN (A3 0 (AU 1 [x]))=1:=λx=>rfl
  have e4:∀x:IV,A3 0 (AU 1 [x])=[x]:=λx=>rfl
  rw[kr,eb,e3,e4,AL (show(T.length+1)*32<=EL by unfold EL;omega),DQ,jJ]at run;have e5:AU T.length T=T:=C2 (A4 _);have e6:A3 0 (AU (NU (l::L)) (NV (A3 1 (l::L)) (NU (l::L))))=NV (A3 1 (l::L)) (NU (l::L)):=by
   rw[CD,C2 (by rw[jJ];omega)]
  rw[e5,e6]at run;obtain⟨L',hL'⟩:=Um N hN s d c b0 b1 b2 K m n (A3 (NU (l::L)) (A3 1 (l::L))) (T++[bN (l::L)]) (Y0 hLd _) (by rw[A2,AV,BN];omega) AG;refine⟨L',?_⟩;have e7:T++L8 (m+1) (l::L)=T++[bN (l::L)]++L8 m (A3 (NU (l::L)) (A3 1 (l::L))):=by
   rw[vaz];rfl
  rw[e7,<-hL'];refine Eq.trans ?_ (run.trans ?_)
  .rfl
  .have e8:(T++[bN (l::L)]).length=T.length+1:=by rw[A2];rfl
   unfold pA;rw[e8];rfl
set_option maxHeartbeats 1000000 in
theorem Qk:D6 PR B0 17 XO:=by
 refine EF [(64,N6),(65,TC),(13,TE),(67,XP),(66,XQ),(70,gC),(69,XR),(68,XS)] [(6,sP),(10,mN),(14,Ht)] XO [[.z,.z,.z,.z,.z,.list true [.z,.list false [.int .u64]]],[.bool]] Tryz.func17 sk ⟨cD,wX,wY,Ql,Qm,zeS,Qn,Qo,trivial⟩ ?_;intro vs r hwf h;unfold XO at h;split at h
 ·rename_i s;cases hc:decide (s.size < 4294967281) with
  | false=>rw [hc] at h; simp [R.get] at h
  | true=>
   rw [hc,R.get_br,DQ,R.get_ok] at h;have hs:=of_decide_eq_true hc;refine ⟨40,?_⟩;rw [← h];refine (zaP 40 s).trans ?_;have hok:=vm hs;have e0:List.map IV.str (EH (GN s { data:=#[10] }) { data:=#[10] })=VT s:=rfl;have e1:decide (1≤ByteArray.size { data:=#[10] })=true:=rfl;have ts:=cJ s QS;have e2:Int.toNat 2=2:=rfl;have e3:Int.toNat 1=1:=rfl;rw [e0,e1,e2,e3,decide_eq_true (show ByteArray.size (GN s { data:=#[10] }) < 4294967281 from Nat.lt_of_le_of_lt ts hs),Bool.and_self,DQ,hok,DQ,Y0 hok 1,DQ];generalize hLS:VT s=LS at hok ⊢;obtain ⟨c0,c3⟩:=Ea (D9 (FH LS) 2) (most:=3) (by omega);refine (ai 40 s LS (FH (LS.drop 1)) rfl (tS (Y0 hok 1)) (FU (D9 (FH LS) 2) 3) c0 c3 (by omega) (FU (D9 (FH LS) 1) 4) (FU (D9 (FH LS) 2) 3) (List.drop 1 (List.drop 1 LS)) _).trans ?_;rw [kj];obtain ⟨L',hL'⟩:=Um 40 (by omega) s (FU (D9 (FH LS) 1) 4) (FU (D9 (FH LS) 2) 3) (L7 LS (FU (D9 (FH LS) 2) 3) 0) (L7 LS (FU (D9 (FH LS) 2) 3) 1) (L7 LS (FU (D9 (FH LS) 2) 3) 2)
    (DW 2 (DX (H4 40) (DS J4 [1,1,1,1,1,1,1]) (D2 (H4 40) none [(ResultVar.cell 2 31),(ResultVar.tmp 3)] [[.z,.z,.z,.z,.z,(.list true [.z,(.list false [(.int .u64)])])],[.bool]])))
    9 40 (List.drop 1 (List.drop 1 LS)) [] (Y0 (Y0 hok 1) 1) rfl (by omega)
   refine hL'.trans ?_;rw [ko];have e4:([]:LI)++L8 9 (List.drop 1 (List.drop 1 LS))=L8 9 (LS.drop 2):=by
    rw [List.nil_append,List.drop_drop]
   have e5:List.drop 0 (List.take (([]:LI)++L8 9 (List.drop 1 (List.drop 1 LS))).length (([]:LI)++L8 9 (List.drop 1 (List.drop 1 LS))))=L8 9 (LS.drop 2):=by
    rw [List.drop_zero,List.take_of_length_le (Nat.le_refl _),e4]
   rw [e5];have e6:(⟨FU (D9 (FH LS) 1) 4,FU (D9 (FH LS) 2) 3,L7 LS (FU (D9 (FH LS) 2) 3) 0,L7 LS (FU (D9 (FH LS) 2) 3) 1,L7 LS (FU (D9 (FH LS) 2) 3) 2,L8 9 (LS.drop 2)⟩:Md)=aF s:=by
    unfold aF;rw [hLS];rfl
   unfold HN OQ;rw [← e6];cases (ByteArray.toList s==ByteArray.toList ZL) with
   | true=>rfl
   | false=>
    rw [DR,Bool.not_false,Bool.true_and];cases (ByteArray.toList (HU ⟨FU (D9 (FH LS) 1) 4,FU (D9 (FH LS) 2) 3,L7 LS (FU (D9 (FH LS) 2) 3) 0,L7 LS (FU (D9 (FH LS) 2) 3) 1,L7 LS (FU (D9 (FH LS) 2) 3) 2,L8 9 (LS.drop 2)⟩)==ByteArray.toList s) <;> rfl
 ·simp [R.get] at h
end Go.FM
