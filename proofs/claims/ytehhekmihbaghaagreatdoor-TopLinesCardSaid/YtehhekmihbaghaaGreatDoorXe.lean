/-
  A small machine that reckons what a call comes to; the functions of the program, one by one. (proof.Sums COMES TO WHAT IS SAID., check's FUNCTIONS COME TO WHAT IS SAID (1): Sums, shown, Pro, NORMAL FORMS: what the functions' runs come to (written by a, and so on.)
-/
import Derived.Test.YtehhekmihbaghaaGreatDoorXd
import Derived.Lib.LaidU8
import Derived.OpenShut
import Derived.ProofKit
import Derived.LaidMore
import Derived.Test.YtehhekmihbaghaaGreatDoorTie
import Derived.Test.YtehhekmihbaghaaGreatDoorCards
import Derived.Deep.DeepWitnessRowRef
set_option linter.all false
set_option maxRecDepth 100000
open Array renaming length_toList→CK,getElem?_eq_some_iff→DF,toList_append→vah
open Bool renaming and_eq_true→AH,not_true→A2,true_and→A6,not_false→A8,false_and→BM,and_true→B1,and_self→B3,not_eq_true'→B4,and_false→vae,or_eq_true→van,or_eq_false_iff→vaq,false_or→vaw,eq_iff_iff→va1
open ByteArray renaming size→AG,size_append→AV,toList→AW,empty→CI,append_assoc→C8,extract→vaM,size_push→va2,data_extract→vbe,size_extract→vbf
open Go.DataW renaming weights→vbz,weightsEach→vbJ
open Go.IntKind renaming wrap→AA,i64→AB
open Go.Lib renaming decDigits→BU,indexByte→DG,itoa→vaj,split→vav,cut→vaO,parseUint10→vaP,atoiAll→vbj,count_one→vbv
open Go.Lib.laidMet renaming reads→vbw
open Go.ResultVar renaming tmp→CE,cell→va4
open Go.World renaming cell?→vaL
open Int renaming toNat→AE,toNat_natCast→BF
open List renaming length→AF,getD→AI,take→AK,length_cons→AM,mem_cons_self→AN,mem_cons→AO,drop→AS,length_append→AT,mem_append→AX,mem_cons_of_mem→AY,map_cons→A0,map→A3,length_nil→A7,getElem?_eq_getElem→A9,length_take→BB,length_map→BE,drop_eq_getElem_cons→BG,mem_singleton→BL,take_length→BO,getElem?_eq_some_iff→BR,getD_eq_getElem?_getD→BV,not_mem_nil→BX,getElem?_cons_zero→BY,getElem?_eq_none→BZ,drop_zero→B2,getElem?_map→B9,map_nil→CA,mem_map→CJ,getElem?_take→CL,all_eq_true→CQ,drop_of_length_le→CS,cons_append→CT,take_of_length_le→CV,length_drop→CX,getElem_mem→C1,length_singleton→C3,nil_append→C5,size_toArray→C9,append_nil→DB,getElem?_append→vaf,mem_of_getElem?→vag,all_cons→vax,drop_length→vaA,range→vaC,length_set→vaF,append_assoc→vaH,mem_of_mem_take→vaI,mem_map_of_mem→vaS,map_map→vaY,mem_of_mem_drop→va5,mem_range→va6,count_eq_zero_of_not_mem→va8,getElem?_append_right→vbu,isPrefixOf→vbA
open List.cons renaming injEq→vas
open Nat renaming le_of_ble_eq_true→AP,le_refl→AZ,zero_add→BI,beq→BQ,blt→BS,zero_le→B5,ble→B6,lt_of_lt_of_le→CW,le_trans→C2,eq_of_beq_eq_true→vam,sub_zero→vaD,strongRecOn→vbr
open Option renaming map_eq_some_iff→DE,getD_some→vad,map_some→vat,getD→vbb
open Option.some renaming injEq→AC,inj→CR
open Prod.mk renaming injEq→AU
open UInt8 renaming toNat_ofNat_of_lt'→vaa,size→vbo
namespace Go.FM
open Go Go.Proofs
set_option maxRecDepth 100000
def RZ (l L:LI) (n:Nat) (out:LI) (m:Nat) (i:Int):St:=⟨[(4,.zs),(5,.bool false),(6,.row 500 0 n),(7,.row 501 0 m),(19,.list true EB l),(20,.int .i64 (ic l.length)),(21,.int .i64 i)],[(500,some (.row true 36 true FB L)),(501,some (.row true 36 true FB out))]⟩
abbrev pZ:KP:=⟨[4,5,6,7,19,20,21],[500,501],[⟨.tmp 6,500,36,true,FB⟩,⟨.tmp 7,501,36,true,FB⟩]⟩
def rS (p:Int) (f:Nat→DN):DN:=cond (decide (p=ic 0)) (f 0) (cond (decide (p=ic 1)) (f 1) (cond (decide (p=ic 2)) (f 2) (cond (decide (p=ic 3)) (f 3) (cond (decide (p=ic 4)) (f 4) none))))
def KZ (n:Nat):Int:=AA AB (ic (n - 0) - 1)
def pX (L:LI) (n:Nat):IV:=L.getD (0+(KZ n).toNat) default
noncomputable abbrev kC (N:Nat):Out→St→DN:=DQ 0 (DS (YY N) (DK ZF [1,1,1,1,1]) (DT (YY N) none [.tmp 4,.tmp 5] [[.list true FB],[.bool]]))
theorem zeG (N:Nat) (l:LI) (b:Bx):DZ (YY N) ZF [.tmp 4,.tmp 5] [[.list true FB],[.bool]] [b.V,.list true EB l] =
 cond (!decide (JQ l > 0)) (some (.tup [.list true FB [],.bool false],[])) (DY (YY N) (DK ZF [1,1,1,1,0,1,0,0]) pZ N (RZ l [b.I] 1 [] 0 0) (kC N)):=by kernel_rfl
theorem Zm (N:Nat) (l L out:LI) (n m:Nat) (i:Int):kC N (.exit 0) (RZ l L n out m i)=some (.tup [.list true FB (AK m out),.bool true],[]):=by kernel_rfl
theorem Bi (N:Nat) (l L out:LI) (n m:Nat) (i:Int):kC N .ret (RZ l L n out m i)=some (.tup [.list true FB [],.bool false],[]):=by kernel_rfl
theorem Nj (N:Nat) (l L out:LI) (n m:Nat) (i:Int) (again:St→DN) (k:Out→St→DN):E2 (YY N) (DK ZF [1,1,1,1,0,1,0,0]) (RZ l L n out m i) (EQ again pZ k) =
 cond (decide (i < ic l.length)) (cond (decide (0≤i)&&decide (i < ic l.length)) (cond (decide (0≤KZ n)&&decide (KZ n < ic (n - 0))) (cond (decide (0≤KZ n)&&decide (KZ n≤ic (n - 0)))
 (cond (GZ (l.getD i.toNat default)) (cond (decide ((m+1)*80≤EE)) (again (RZ l L (0+(KZ n).toNat) (out.take m++[(D7 (pX L n)).I]) (m+1) (FO (i+1)))) none)
 (rS (FD (l.getD i.toNat default)) fun j=>cond (decide (FR (l.getD i.toNat default) < cI (pX L n) (2*j))) (k .ret (RZ l L (0+(KZ n).toNat) out m i))
 (rS (FD (l.getD i.toNat default)) fun j=>cond (decide (FR (l.getD i.toNat default)≥cI (pX L n) (2*j+1))) (k .ret (RZ l L (0+(KZ n).toNat) out m i))
 (cond (H9 (FD (l.getD i.toNat default))) (cond (decide ((0+(KZ n).toNat+2)*80≤EE))
 (again (RZ l (L.take (0+(KZ n).toNat)++[((D7 (pX L n)).cutH (FD (l.getD i.toNat default)) (FR (l.getD i.toNat default))).I,((D7 (pX L n)).cutL (FD (l.getD i.toNat default)) (FR (l.getD i.toNat default))).I]) (0+(KZ n).toNat+2) out m (FO (i+1)))) none) none)))) none) none) none)
 (k (.exit 0) (RZ l L n out m i)):=by kernel_rfl
theorem Gv {p:Int} {a:Nat} (h:p=(a:Int)) (ha:a < 5) (f:Nat→DN):rS p f=f a:=by
 subst h
 match a,ha with
 | 0,_=>rfl
 | 1,_=>rfl
 | 2,_=>rfl
 | 3,_=>rfl
 | 4,_=>rfl
 | n+5,h=>omega
theorem Vi (x:IV):∀ {a:Nat},a < 5→(D7 x).g a=⟨cI x (2*a),cI x (2*a+1)⟩
 | 0,_=>rfl
 | 1,_=>rfl
 | 2,_=>rfl
 | 3,_=>rfl
 | 4,_=>rfl
 | n+5,h=>by omega
def r7 (o:Option (List IV × LI)):DN:=match o with
 | some lo=>some (.tup [.list true FB lo.2,.bool true],[])
 | none=>some (.tup [.list true FB [],.bool false],[])
theorem sA (N:Nat) (l:LI) (hl:l.length≤65536):∀ (d c i:Nat) (L:LI) (n:Nat) (out:LI) (most:Int) (st:Int × Int),i+d=l.length→d < c→n≤L.length→n≤i+1→out.length≤i→JF (l.drop i) (ic n,most)=some st →
  DY (YY N) (DK ZF [1,1,1,1,0,1,0,0]) pZ c (RZ l L n out out.length (i:Int)) (kC N)=r7 (ID (l.drop i) (L.take n,out))
 | d,0,_,_,_,_,_,_,_,h,_,_,_,_=>absurd h (by omega)
 | 0,c+1,i,L,n,out,most,st,hd,_,_,_,_,_=>by
  rw [D5,Nj,I5 (by omega),DJ,CS (by omega),Zm,BO];rfl
 | d+1,c+1,i,L,n,out,most,st,hd,hc,hn,hn2,ho,hdp=>by
  have hi:i < l.length:=by omega
  rw [BG hi,JF] at hdp;rw [D5,Nj,HA hi,DI,IL,B3,DI,H8 hi,BG hi,ID];have ei:FO ((i:Int)+1)=((i+1:Nat):Int):=HD (by omega);rw [ei];generalize l[i]=x at hdp ⊢;cases h1:LE (ic n,most) x with
  | none=>rw [h1] at hdp; cases hdp
  | some s1=>
   rw [h1] at hdp;obtain ⟨hne,hr,hcase⟩:=oR h1;obtain ⟨j,rfl⟩:∃ j,n=j+1:=⟨n - 1,by simp only [ic] at hne; omega⟩;have hlen:(L.take (j+1)).length=j+1:=by rw [BB]; omega
   have htop:E4 (L.take (j+1))=L.getD j default:=by
    unfold E4;rw [hlen,BV,BV,CL,BP (by omega)];rfl
   have hpop:F8 (L.take (j+1))=L.take j:=by
    unfold F8;rw [hlen,List.take_take];congr 1;omega
   have ew:KZ (j+1)=(j:Int):=by
    unfold KZ;rw [show ic (j+1 - 0) - 1=(j:Int) by simp only [ic]; omega];exact EL (by omega) (by omega)
   have ej:0+(KZ (j+1)).toNat=j:=by rw [ew]; omega
   have ex:pX L (j+1)=E4 (L.take (j+1)):=by unfold pX; rw [ej,htop]
   have i2:(decide (0≤KZ (j+1))&&decide (KZ (j+1) < ic (j+1 - 0)))=true:=by rw [ew,AD (by omega),AD (by simp only [ic]; omega)]; rfl
   have i3:(decide (0≤KZ (j+1))&&decide (KZ (j+1)≤ic (j+1 - 0)))=true:=by rw [ew,AD (by omega),AD (by simp only [ic]; omega)]; rfl
   have et:D0 (L.take (j+1))=D7 (E4 (L.take (j+1))):=rfl;rw [i2,DI,i3,DI,ej,ex];unfold LM;simp only [hpop,et];generalize E4 (L.take (j+1))=y;rcases hcase with ⟨hs,rfl⟩ | ⟨hs,rfl⟩
   ·rw [hs,DI,DI,AD (show (out.length+1)*80≤EE by unfold EE; omega),DI,BO]
    have:=sA N l hl d c (i+1) L j (out++[(D7 y).I]) most st (by omega) (by omega) (by omega) (by omega) (by simp only [AT,AM,A7]; omega) (by rw [show ic j=ic (j+1) - 1 by simp only [ic]; omega]; exact hdp)
    rw [show (out++[(D7 y).I]).length=out.length+1 by simp] at this;exact this
   ·have hpl:=sT hr hs;obtain ⟨a,ha⟩:∃ a:Nat,FD x=(a:Int):=⟨(FD x).toNat,by omega⟩;have ha5:a < 5:=by omega
    rw [hs,DJ,DJ,Gv ha ha5,Gv ha ha5];have eg:=Vi y ha5;rw [show (FD x).toNat=a by omega,eg];show cond (decide (FR x < cI y (2*a))) _ _=r7 (match cond (decide (FR x < cI y (2*a))||decide (FR x≥cI y (2*a+1))) none _ with | some st'=>ID (l.drop (i+1)) st' | none=>none);cases decide (FR x < cI y (2*a)) with
    | true=>rw [DI,Bi,Bool.true_or,DI]; rfl
    | false=>
     rw [DJ,vaw];cases decide (FR x≥cI y (2*a+1)) with
     | true=>rw [DI,Bi,DI]; rfl
     | false=>
      have hin:H9 (FD x)=true:=by unfold H9; rw [AD hpl.1,AD (by omega)]; rfl
      rw [DJ,DJ,hin,DI,AD (show (j+2)*80≤EE by unfold EE; omega),DI];have e2:∀ v1 v2:IV,(L.take j++[v1,v2]).take (j+2)=L.take j++[v1,v2]:=fun v1 v2=>CV (by simp only [AT,BB,AM,A7]; omega)
      have:=sA N l hl d c (i+1) (L.take j++[((D7 y).cutH (FD x) (FR x)).I,((D7 y).cutL (FD x) (FR x)).I]) (j+2) out (max most (ic (j+1)+1)) st (by omega) (by omega) (by simp only [AT,BB,AM,A7]; omega) (by omega) (by omega) (by rw [show ic (j+2)=ic (j+1)+1 by simp only [ic]; omega]; exact hdp)
      rw [e2] at this;exact this
theorem zih:DX PR B0 67 dH:=by
 refine D6 [(111,P0),(110,dG)] [(6,⟨[4,5,6,7,19,20,21],[500,501],[⟨.tmp 6,500,36,true,FB⟩,⟨.tmp 7,501,36,true,FB⟩]⟩)] dH [[.list true [.z,.z,.z,.z,.z,.z,.z,.z,.z,.z]],[.bool]] Tryz.func67 zbR ⟨lU,zig,trivial⟩ ?_;intro vs r hwf h;unfold dH at h;split at h
 ·rename_i b l;replace h:=J0 h;obtain ⟨b,rfl,h⟩:=h;rw [R.get_br] at h;refine ⟨l.length+1,(zeG (l.length+1) l b).trans ?_⟩;cases hd:decide (JQ l > 0) with
  | false=>
   have e:I7 b l=none:=by unfold I7; rw [hd,DJ]
   rw [e] at h;rw [A8,DI];exact h
  | true=>
   obtain ⟨st,hst⟩:=oP (A1 hd);have hl:l.length≤65536:=by
    have:=A1 hd
    unfold JQ at this;by_cases hc:ic l.length > 65536
    ·rw [AD hc,DI] at this; omega
    ·simp only [ic] at hc; omega
   have run:=sA (l.length+1) l hl l.length (l.length+1) 0 [b.I] 1 [] 1 st (by omega) (by omega) (AZ _) (by omega) (AZ _) hst;rw [B2] at run;have e:I7 b l=(ID l ([b.I],[])).map (·.2):=by unfold I7; rw [hd,DI]
   rw [A2,DJ];refine Eq.trans run ?_;show r7 (ID l ([b.I],[]))=_;rw [e] at h;cases hp:ID l ([b.I],[]) with
   | none=>rw [hp] at h; exact h
   | some lo=>rw [hp] at h; exact h
 ·simp [R.get] at h
open Go Go.Proofs
theorem nZ (N:Nat) (ts:LI) (b:Bx) (k:Int) (hts:ts.length≤8) (hT:∀ t∈ts,G1 (FI t) 4=true) (hb:F7 b=true):∀ (m i n:Nat) (lo hi:Int),i+m=ts.length→m < n→(-2147483648*(i+1)≤lo∧lo≤2147483648*(i+1))→(-2147483648*(i+1)≤hi∧hi≤2147483648*(i+1)) →
  DY (G3 N) (DK IT [1,1,1,0,1,0,0]) ⟨[1,5,6,7,8,9,40,41,42],[5],[]⟩ n ⟨[(1,(.int .i64 k)),(5,(.ptr 5 0 0)),(6,(.int .i64 0)),(7,(.int .i64 0)),(8,(.int .i64 lo)),(9,(.int .i64 hi)),(40,(.list true MY ts)),(41,(.int .i64 (ic ts.length))),(42,(.int .i64 (i:Int)))],[(5,(some (.box (Bx.cs b))))]⟩ (DQ 0 (DS (G3 N) (DK IT [1,1,1,1]) (DT (G3 N) none [(CE 6),(CE 7)] [[.z],[.z]]))) =
   some (.tup [.int .i64 (I9 (fun l=>IF l b) k (ts.drop i) lo),.int .i64 (I9 (fun l=>IE l b) k (ts.drop i) hi)],[])
 | m,i,0,_,_,_,h,_,_=>absurd h (by omega)
 | 0,i,n+1,lo,hi,hd,_,_,_=>by
  have hlt:i=ts.length:=by omega
  subst hlt;rw [D5,Mp,I5 (AZ _),DJ,vaA];exact Yk N b _ _ _ _ _ _ _ _
 | m+1,i,n+1,lo,hi,hd,hn,h1,h2=>by
  have hlt:i < ts.length:=by omega
  have ei:AA AB ((i:Int)+1)=((i+1:Nat):Int):=HD (by omega);rw [D5,Mp,ei,HA hlt,DI,IL,B3,DI,H8 hlt,BG hlt,I9,I9];obtain ⟨q1,q2⟩:=mH (FI ts[i]) b;have q1:=NP q1;have q2:=NP q2;have hti:G1 (IV.toList (IV.cell ts[i] 1)) 4=true:=hT _ (C1 hlt);cases ((ts[i].cell 0).toInt==k) with
  | true=>
   rw [DI,DI,DI,hti,hb,B3,DI];have ew:AA AB (lo+IF (FI ts[i]) b)=lo+IF (FI ts[i]) b:=EL (by omega) (by omega);have ew2:AA AB (hi+IE (FI ts[i]) b)=hi+IE (FI ts[i]) b:=EL (by omega) (by omega);have ih:=nZ N ts b k hts hT hb m (i+1) n (lo+IF (FI ts[i]) b) (hi+IE (FI ts[i]) b) (by omega) (by omega) (by omega) (by omega);rw [← ew,← ew2] at ih;refine Eq.trans ih ?_;rw [ew,ew2]
  | false=>
   rw [DJ,DJ,DJ];exact nZ N ts b k hts hT hb m (i+1) n lo hi (by omega) (by omega) (by omega) (by omega)
theorem zhF:DX PR B0 113 cD:=by
 refine D6 [(112,K9),(158,cE),(53,MO)] [(5,⟨[1,5,6,7,8,9,40,41,42],[5],[]⟩)] cD [[.z],[.z]] Tryz.func113 za3 ⟨YA,zhG,aM,trivial⟩ ?_;intro vs r hwf h;unfold cD at h;split at h
 ·rename_i m k b;replace h:=KE h;obtain ⟨m,rfl,h⟩:=h;replace h:=J0 h;obtain ⟨b,rfl,h⟩:=h;cases hg:(b.emp||F7 b) with
  | false=>rw [hg] at h; simp [R.get] at h
  | true=>
  rw [hg,R.get_br,DI,R.get_ok] at h;refine ⟨10,?_⟩;rw [← h];refine (zdR 10 m k b).trans ?_;unfold EA D8 G8;cases hm:EX m with
  | false=>rfl
  | true=>
   rw [A2,DJ];cases h0:decide (k < 0) with
   | true=>
    have:IH m k=false:=by unfold IH; rw [AL (show ¬ 0≤k by have:=A1 h0; omega)]; rfl
    rw [this];rfl
   | false=>
    rw [DJ];cases h1:decide (k≥m.c) with
    | true=>
     have:IH m k=false:=by unfold IH; rw [AL (show ¬ k < m.c by have:=A1 h1; omega),vae]
     rw [this];rfl
    | false=>
     have hc:IH m k=true:=by unfold IH; rw [AD (show 0≤k by have:=BH h0; omega),AD (show k < m.c by have:=BH h1; omega)]; rfl
     rw [DJ,hc];cases he:b.emp with
     | true=>rfl
     | false=>
      rw [he,vaw] at hg;have hb:=iW hm k;have run:=nZ 10 m.ts b k (MB hm).2.2.1 (fun t ht=>aR hm ht) hg m.ts.length 0 10 (LY m k) (LY m k) (by omega) (by have:=(MB hm).2.2.1; omega) (by omega) (by omega);rw [DJ];rcases oB hm hc with rfl | rfl | rfl <;> exact run
 ·simp [R.get] at h
theorem tG (N:Nat) (m:Md) (q:Qy) (b:Bx) (hb:(b.emp||F7 b)=true):∀ (d i n:Nat),((i+d:Nat):Int)=m.c→d < n→m.c < 1000 →
  DY (LU N) (DK OB [1,1,1,0,1,0,1,1,1,0,0,1,0,0]) ⟨[3,4,5,6,7,42,43],[3,4,5],[]⟩ n ⟨[(3,(.ptr 3 0 0)),(4,(.ptr 4 0 0)),(5,(.ptr 5 0 0)),(6,(.bool false)),(7,(.int .i64 (EA m q.c b))),(42,(.int .i64 m.c)),(43,(.int .i64 (i:Int)))],[(3,(some (.box (Md.cs m)))),(4,(some (.box (Qy.cs q)))),(5,(some (.box (Bx.cs b))))]⟩ (DQ 1 (DS (LU N) (DK OB [1,1,1,0,1,0,1,1,1,0,1]) (DQ 0 (DS (LU N) (DK OB [1,1,1,1]) (DT (LU N) none [(CE 6)] [[.bool]])))))=some (.bool (W6 m q b d i),[])
 | d,i,0,_,h,_=>absurd h (by omega)
 | 0,i,n+1,hd,_,_=>by
  rw [D5,Mq,AL (show ¬ (i:Int) < m.c by omega),DJ];exact Yl N m q b _ _ _ _
 | d+1,i,n+1,hd,hn,hc=>by
  have ei:AA AB ((i:Int)+1)=((i+1:Nat):Int):=HD (by omega);rw [D5,Mq,ei,AD (show (i:Int) < m.c by omega),DI,hb,DI,W6];have en:((i:Int) != q.c)=!((i:Int)==q.c):=rfl;rw [en];cases ((i:Int)==q.c) with
  | true=>
   rw [A2,DJ,BM,DJ];exact tG N m q b hb d (i+1) n (by omega) (by omega) hc
  | false=>
   rw [A8,DI,A6];cases decide (D8 m (i:Int) b≥EA m q.c b) with
   | true=>
    rw [DI,DI];exact Ym N m q b _ _ _ _
   | false=>
    rw [DJ,DJ];exact tG N m q b hb d (i+1) n (by omega) (by omega) hc
theorem zhH:DX PR B0 68 cF:=by
 refine D6 [(112,K9),(113,cD)] [(9,⟨[3,4,5,6,7,42,43],[3,4,5],[]⟩)] cF [[.bool]] Tryz.func68 za5 ⟨YA,zhF,trivial⟩ ?_;intro vs r hwf h;unfold cF at h;split at h
 ·rename_i m q b;replace h:=KE h;obtain ⟨m,rfl,h⟩:=h;replace h:=KS h;obtain ⟨q,rfl,h⟩:=h;replace h:=J0 h;obtain ⟨b,rfl,h⟩:=h;cases hg:(E8 m q&&(b.emp||F7 b)) with
  | false=>rw [hg] at h; simp [R.get] at h
  | true=>
  rw [hg,R.get_br,DI,R.get_ok] at h;rw [AH] at hg;obtain ⟨hr,hb⟩:=hg;have hb':b.emp=true∨b.good:=by
   rw [van] at hb;exact hb.imp id ZT.1
  refine ⟨1000,?_⟩;rw [← h,← zhj hr hb'];refine (zdS 1000 m q b).trans ?_;obtain ⟨hm,_,_,_,hk⟩:=VN hr;unfold tF;cases he:b.emp with
  | true=>rfl
  | false=>
   have hgd:F7 b=true:=by rw [he,vaw] at hb; exact hb
   rw [DJ,DJ,hgd,vaw,DI];rcases kF hk with ⟨e,_⟩ | ⟨e,h2,_⟩ | ⟨e,hf,_⟩
   ·rw [e];show cond (decide (q.lo≤EA m q.c b)) (some (V.bool (decide (D8 m q.c b≤q.hi)),[])) (some (V.bool false,[]))=some (V.bool (decide (q.lo≤EA m q.c b)&&decide (D8 m q.c b≤q.hi)),[]);cases decide (q.lo≤EA m q.c b) <;> rfl
   ·rw [e];have hc:=(MB hm).2.1;exact tG 1000 m q b (by rw [he,hgd]; rfl) m.c.toNat 0 1000 (by omega) (by omega) (by omega)
   ·rw [e];have hp:=rN hm e hf;have hg2:F7 (K3 q b)=true:=ZT.2 (VG (ZT.1 hgd) ((ZT.1 hgd) 4 (by omega)) (by rcases RY hp with e | e | e | e <;> rw [e] <;> decide));have fin:(cond (decide ((b.g q.ft.toNat).lo≥b.s4.hi)) (some (V.bool true,[])) (cond ((K3 q b).emp||F7 (K3 q b)) (cond q.fl (some (V.bool (decide (D8 m q.c (K3 q b)≤EA m q.c b)),[])) (some (V.bool (decide (EA m q.c (K3 q b)≥D8 m q.c b)),[]))) none):DN) =
      some (V.bool (cond (decide ((b.g q.ft.toNat).lo≥b.s4.hi)) true (cond q.fl (decide (D8 m q.c (K3 q b)≤EA m q.c b)) (decide (EA m q.c (K3 q b)≥D8 m q.c b)))),[]):=by
     rw [hg2,Bool.or_true,DI];cases decide ((b.g q.ft.toNat).lo≥b.s4.hi) <;> cases q.fl <;> rfl
    refine Eq.trans ?_ fin;unfold K3;rcases RY hp with e | e | e | e <;> rw [e] <;> rfl
 ·simp [R.get] at h
theorem Hj (N:Nat) (m:Md) (q:Qy) (hr:E8 m q=true) (l:LI) (hl:l.length < 100000) (hg:∀ y∈l,(D7 y).good):∀ (d i n:Nat),i+d=l.length→d < n →
  DY (J2 N) (DK L3 [1,1,1,0,1,0,1,0,1,0,1,0,0]) ⟨[3,4,6,9,29,30,31],[3,4],[]⟩ n ⟨[(3,(.ptr 3 0 0)),(4,(.ptr 4 0 0)),(6,(.bool false)),(9,(.bool true)),(29,(.list true FB l)),(30,(.int .i64 (ic l.length))),(31,(.int .i64 (i:Int)))],[(3,(some (.box (Md.cs m)))),(4,(some (.box (Qy.cs q))))]⟩ (DQ 1 (DS (J2 N) (DK L3 [1,1,1,0,1,0,1,0,1,1]) (DQ 0 (DS (J2 N) (DK L3 [1,1,1,1]) (DT (J2 N) none [(CE 6)] [[.bool]]))))) =
   some (.bool ((l.drop i).all fun x=>GW m q (D7 x)),[])
 | d,i,0,_,h=>absurd h (by omega)
 | 0,i,n+1,hd,_=>by
  rw [D5,uH,I5 (by omega),DJ,CS (by omega)];exact Bh N m q _ _ l _ _
 | d+1,i,n+1,hd,hn=>by
  have hi:i < l.length:=by omega
  have hgi:=hg _ (C1 hi);rw [D5,uH,HA hi,DI,IL,B3,DI,HD (by omega),H8 hi,BG hi,vax,hr,ZT.2 hgi,Bool.or_true,B3,DI];cases GW m q (D7 l[i]) with
  | false=>
   rw [A8,DI];exact Yj N m q _ _ l _ _
  | true=>
   rw [A2,DJ,A6];exact Hj N m q hr l hl hg d (i+1) n (by omega) (by omega)
theorem zgj {b:Bx} {l outs:LI} (h:I7 b l=some outs):outs.length≤65536:=by
 have key:∀ {l:LI} {st lo:LI × LI},ID l st=some lo→lo.2.length≤st.2.length+l.length:=by
  intro l
  induction l with
  | nil=>intro st lo h; obtain rfl:=CR h; exact AZ _
  | cons x l ih=>
   intro st lo h;rw [ID] at h;cases h1:LM st x with
   | none=>rw [h1] at h; cases h
   | some s1=>
    rw [h1] at h
    have:=ih h
    have h2:s1.2.length≤st.2.length+1:=by
     unfold LM at h1;cases hs:GZ x with
     | true=>rw [hs] at h1; obtain rfl:=CR h1; simp
     | false=>
      rw [hs,DJ] at h1;cases hc:(decide (FR x < ((D0 st.1).g (FD x).toNat).lo)||decide (FR x≥((D0 st.1).g (FD x).toNat).hi)) with
      | true=>rw [hc] at h1; cases h1
      | false=>rw [hc] at h1; obtain rfl:=CR h1; exact Nat.le_succ _
    simp only [AM];omega
 unfold I7 at h;cases hd:decide (JQ l > 0) with
 | false=>rw [hd,DJ] at h; cases h
 | true=>
  rw [hd,DI] at h;have hl:l.length≤65536:=by
   have:=A1 hd
   unfold JQ at this;by_cases hc:ic l.length > 65536
   ·rw [AD hc,DI] at this; omega
   ·simp only [ic] at hc; omega
  cases hp:ID l ([b.I],[]) with
  | none=>rw [hp] at h; cases h
  | some lo=>
   rw [hp] at h;obtain rfl:=CR h
   have:=key hp
   simp only [A7] at this;show lo.2.length≤65536;omega
theorem lW:DX PR B0 26 P2:=by
 refine D6 [(69,bW),(68,cF),(67,dH),(70,WT),(65,MQ),(66,WU)] [(8,⟨[3,4,6,9,29,30,31],[3,4],[]⟩)] P2 [[.bool]] Tryz.func26 za2 ⟨zhy,zhH,zih,Kw,aO,Kx,trivial⟩ ?_;intro vs r hwf h;unfold P2 at h;split at h
 ·rename_i m q v;replace h:=KE h;obtain ⟨m,rfl,h⟩:=h;replace h:=KS h;obtain ⟨q,rfl,h⟩:=h;replace h:=Qc h;obtain ⟨v,rfl,h⟩:=h;rw [R.get_ok] at h;refine ⟨70000,?_⟩;rw [← h];refine (zdQ 70000 m q v).trans ?_;unfold IC;cases hr:E8 m q with
  | false=>rfl
  | true=>
   rw [A2,DJ,A6];cases v.kind==1 with
   | true=>
    rw [DI,DI];cases hp:I7 (GE q) v.proof with
    | none=>
     show cond false _ _=_;rw [DJ,D5,uH];exact Bh 70000 m q _ _ [] _ _
    | some l=>
     show cond true _ _=_;rw [DI];have hl:=zgj hp
     have:=Hj 70000 m q hr l (by omega) (zgi (mE hr) hp) l.length 0 70000 (by omega) (by omega)
     rw [B2] at this;exact this
   | false=>
    rw [DJ,DJ];cases v.kind==2 with
    | false=>rfl
    | true=>
     rw [DI,DI];show cond ((GE q).has v.p v.twin) (some (V.bool (HJ m q v.p v.twin),[])) (some (V.bool false,[]))=some (V.bool ((GE q).has v.p v.twin&&HJ m q v.p v.twin),[]);cases (GE q).has v.p v.twin <;> rfl
 ·simp [R.get] at h
open Go Go.Proofs
def Q7 (N:Nat):Env:=D4 [] [(4,⟨[2,13,14,15],[],[]⟩)] 37 N
abbrev OV (b2:Bool) (l13:LI) (x14 x15:Int):St:=⟨[(2,(.bool b2)),(13,(.list true [.bool,.z,.z] l13)),(14,(.i x14)),(15,(.i x15))],[]⟩
theorem zdP (N:Nat) (l:LI):DZ (Q7 N) UV [.tmp 2] [[.bool]] [.list true [.bool,.z,.z] l]=(cond (decide (ic (AF l) < 1)) (some ((.bool false),[])) (cond (decide (ic (AF l) > 65536)) (some ((.bool false),[])) (DY (Q7 N) (DK UV [1,1,0,1,0,0]) ⟨[2,13,14,15],[],[]⟩ N (OV false l (ic (AF l)) 0) (DQ 0 (DS (Q7 N) (DK UV [1,1,1]) (DT (Q7 N) none [.tmp 2] [[.bool]])))))):=by kernel_rfl
theorem Mo (N:Nat) (b2:Bool) (l13:LI) (x14 x15:Int) (again:St→DN) (k:Out→St→DN):E2 (Q7 N) (DK UV [1,1,0,1,0,0]) (OV b2 l13 x14 x15) (EQ again ⟨[2,13,14,15],[],[]⟩ k)=(cond (decide (x15 < x14)) (cond (decide (0≤x15)&&decide (x15 < ic (AF l13))) (cond (IV.toBool (IV.cell (AI l13 (AE x15) default) 0)) (cond (! (IV.toBool (IV.cell (AI l13 (AE x15) default) 0)==true&&(IV.toInt (IV.cell (AI l13 (AE x15) default) 1)==0&&(IV.toInt (IV.cell (AI l13 (AE x15) default) 2)==0&&true)))) (k .ret (OV false l13 x14 x15)) (cond (decide (IV.toInt (IV.cell (AI l13 (AE x15) default) 1) < 0)) (k .ret (OV false l13 x14 x15)) (cond (decide (IV.toInt (IV.cell (AI l13 (AE x15) default) 1) > 4)) (k .ret (OV false l13 x14 x15)) (again (OV b2 l13 x14 (AA AB (x15+1))))))) (cond (decide (IV.toInt (IV.cell (AI l13 (AE x15) default) 1) < 0)) (k .ret (OV false l13 x14 x15)) (cond (decide (IV.toInt (IV.cell (AI l13 (AE x15) default) 1) > 4)) (k .ret (OV false l13 x14 x15)) (again (OV b2 l13 x14 (AA AB (x15+1))))))) none) (k (.exit 0) (OV b2 l13 x14 x15))):=by kernel_rfl
theorem Yh (N:Nat) (b2:Bool) (l13:LI) (x14 x15:Int):(DQ 0 (DS (Q7 N) (DK UV [1,1,1]) (DT (Q7 N) none [.tmp 2] [[.bool]]))) (.exit 0) (OV b2 l13 x14 x15)=(some ((.bool true),[])):=by kernel_rfl
theorem Yi (N:Nat) (b2:Bool) (l13:LI) (x14 x15:Int):(DQ 0 (DS (Q7 N) (DK UV [1,1,1]) (DT (Q7 N) none [.tmp 2] [[.bool]]))) .ret (OV b2 l13 x14 x15)=(some ((.bool b2),[])):=by kernel_rfl
def Rc (N:Nat):Env:=D4 [(106,cC)] [] 47 N
theorem zdL (N:Nat) (u00:Int) (u01:LI) (u04 u05 u06 u07 u03 u02:Int):DZ (Rc N) xM [.tmp 2] [[.bool]] [.agg [.i u00,.list true [.bool,.z,.z] u01,.i u04,.i u05,.i u06,.i u07,.i u03,.i u02]]=(cond (decide (u02 < 0)) (some ((.bool false),[])) (cond (decide (u02 > 65536)) (some ((.bool false),[])) (cond (u04==0&&(u05==0&&(u06==0&&(u07==0&&true)))) (cond (u00==1) (cond (u03==0) (some ((.bool (N0 u01)),[])) (some ((.bool false),[]))) (cond (u00==2) (some ((.bool (ic (AF u01)==0)),[])) (cond (u00==3) (cond (u03==0) (some ((.bool (ic (AF u01)==0)),[])) (some ((.bool false),[]))) (cond (u00==4) (cond (u03==0) (some ((.bool (ic (AF u01)==0)),[])) (some ((.bool false),[]))) (some ((.bool false),[])))))) (cond (u00==1) (some ((.bool false),[])) (cond (u00==2) (some ((.bool (ic (AF u01)==0)),[])) (cond (u00==3) (some ((.bool false),[])) (cond (u00==4) (some ((.bool false),[])) (some ((.bool false),[]))))))))):=by kernel_rfl
def UC (N:Nat):Env:=D4 [(43,O3),(97,Y1),(60,UH)] [(2,⟨[0,11,12,13],[900000],[]⟩)] 26 N
abbrev bC (l11:LI) (x12 x13:Int) (u00:BA):St:=⟨[(0,(.ptr 900000 0 0)),(11,(.list false [.z] l11)),(12,(.i x12)),(13,(.i x13))],[(900000,(some (.bld u00)))]⟩
theorem zdM (N:Nat) (b word:BA) (l:LI):DZ (UC N) W8 [] [] [.bor [.bld b],.str word,.list false [.z] l]=(cond (decide (AG b+AG word≤strMax)) (DY (UC N) (DK W8 [1,0,1,0,0]) ⟨[0,11,12,13],[900000],[]⟩ N (bC l (ic (AF l)) 0 (b++word)) (DQ 0 (DS (UC N) (DK W8 [1,1]) (DT (UC N) (some [.bld b]) [] [])))) none):=by kernel_rfl
theorem Mn (N:Nat) (l11:LI) (x12 x13:Int) (u00:BA) (again:St→DN) (k:Out→St→DN):E2 (UC N) (DK W8 [1,0,1,0,0]) (bC l11 x12 x13 u00) (EQ again ⟨[0,11,12,13],[900000],[]⟩ k)=(cond (decide (x13 < x12)) (cond (decide (0≤x13)&&decide (x13 < ic (AF l11))) (cond (decide (AG u00+1≤strMax)) (cond (decide (AG (ByteArray.push u00 (NI 32))+AG (DP (IV.toInt (AI l11 (AE x13) default)))≤strMax)) (again (bC l11 x12 (AA AB (x13+1)) (ByteArray.push u00 (NI 32)++DP (IV.toInt (AI l11 (AE x13) default))))) none) none) none) (k (.exit 0) (bC l11 x12 x13 u00))):=by kernel_rfl
theorem Ye (N:Nat) (b:BA) (l11:LI) (x12 x13:Int) (u00:BA):(DQ 0 (DS (UC N) (DK W8 [1,1]) (DT (UC N) (some [.bld b]) [] []))) (.exit 0) (bC l11 x12 x13 u00)=(cond (decide (AG u00+1≤strMax)) (some ((.tup []),[[.bld (ByteArray.push u00 (NI 10))]])) none):=by kernel_rfl
def Rd (N:Nat):Env:=D4 [(90,RC)] [] 20 N
theorem zdN (N:Nat) (l:LI) (i:Int):DZ (Rd N) xN [.tmp 4] [[.z]] [.list false [.str] l,.i i]=(cond (decide (i≥ic (AF l))) (some ((.i 0),[])) (cond (decide (0≤i)&&decide (i < ic (AF l))) (some ((.i (FJ (IV.toStr (AI l (AE i) default)))),[])) none)):=by kernel_rfl
open Go Go.Proofs
theorem Nx (N:Nat) (l:LI) (K:Out→St→DN) (hl:l.length≤65536)
  (hx:∀ b2 x14 x15,K (.exit 0) ⟨[(2,(.bool b2)),(13,(.list true [.bool,.z,.z] l)),(14,(.int .i64 x14)),(15,(.int .i64 x15))],[]⟩=some (.bool true,[]))
  (hr:∀ b2 x14 x15,K .ret ⟨[(2,(.bool b2)),(13,(.list true [.bool,.z,.z] l)),(14,(.int .i64 x14)),(15,(.int .i64 x15))],[]⟩=some (.bool b2,[])) :
  ∀ (d i n:Nat),i+d=l.length→d < n→DY (Q7 N) (DK UV [1,1,0,1,0,0]) ⟨[2,13,14,15],[],[]⟩ n ⟨[(2,(.bool false)),(13,(.list true [.bool,.z,.z] l)),(14,(.int .i64 (ic l.length))),(15,(.int .i64 (i:Int)))],[]⟩ K=some (.bool ((l.drop i).all PU),[])
 | 0,i,n+1,hd,_=>by
  rw [D5,Mo];rw [I5 (by omega),CS (by omega)];simp only [BC,List.all_nil];exact hx ..
 | d+1,i,n+1,hd,hn=>by
  rw [D5,Mo];have hi:i < l.length:=by omega
  rw [HA hi,IL,HD (by omega),H8 hi,BG hi,vax];generalize l[i]=x;have ih:=Nx N l K hl hx hr d (i+1) n (by omega) (by omega);rw [ih];generalize (AS (i+1) l).all PU=rest;unfold PU GZ FD FR;simp only [BJ,B1,oL,oM,UN];cases hs:IV.toBool (IV.cell x 0) <;> cases hp0:decide (IV.toInt (IV.cell x 1) < 0) <;> cases hp4:decide (4 < IV.toInt (IV.cell x 1)) <;> cases hz:decide (IV.toInt (IV.cell x 1)=0) <;> cases ha:decide (IV.toInt (IV.cell x 2)=0) <;>
   (simp only [BJ,BC,A2,A8,B1,vae,A6,BM,CY,hr]
    try rfl)
 | 0,_,0,_,h=>by omega
 | _+1,_,0,_,h=>by omega
theorem zhE:DX PR B0 106 cC:=by
 refine D6 [] [(4,⟨[2,13,14,15],[],[]⟩)] cC [[.bool]] Tryz.func106 za1 trivial ?_;intro vs r hwf h;unfold cC at h;split at h
 ·rename_i l;refine ⟨l.length+1,?_⟩;rw [← h];refine (zdP (l.length+1) l).trans ?_;simp only [R.get_ok];unfold N0;by_cases h1:l.length < 1
  ·have e1:decide (ic l.length < 1)=true:=AD (by show ((l.length:Nat):Int) < 1; omega);have e2:decide (1≤l.length)=false:=AL (by omega);rw [e1,e2]; rfl
  ·have e1:decide (ic l.length < 1)=false:=AL (by show ¬ ((l.length:Nat):Int) < 1; omega);have e2:decide (1≤l.length)=true:=AD (by omega);rw [e1,e2];simp only [BC,A6];by_cases h3:l.length≤65536
   ·have e3:decide (ic l.length > 65536)=false:=AL (by show ¬ ((l.length:Nat):Int) > 65536; omega);have e4:decide (l.length≤65536)=true:=AD h3;rw [e3,e4];simp only [BC,A6]
    have:=Nx (l.length+1) l _ h3 (fun b2 x14 x15=>Yh (l.length+1) b2 l x14 x15) (fun b2 x14 x15=>Yi (l.length+1) b2 l x14 x15) l.length 0 (l.length+1) (by omega) (by omega)
    rw [B2] at this;exact this
   ·have e3:decide (ic l.length > 65536)=true:=AD (by show ((l.length:Nat):Int) > 65536; omega);have e4:decide (l.length≤65536)=false:=AL h3;rw [e3,e4]; rfl
 ·simp [R.get] at h
theorem zcW (l:LI):(ic l.length==0)=l.isEmpty:=by
 cases l with
 | nil=>rfl
 | cons a l=>
  simp only [ic,List.isEmpty_cons,AM];rw [A5];omega
theorem zhA:DX PR B0 62 bY:=by
 refine D6 [(106,cC)] [] bY [[.bool]] Tryz.func62 zaX ⟨zhE,trivial⟩ ?_;intro vs r hwf h;unfold bY at h;split at h
 ·rename_i k p a b c d t s;refine ⟨0,?_⟩;rw [← h];refine (zdL 0 k p a b c d t s).trans ?_;simp only [R.get_ok,zcW];unfold Vd.right Vd.bare;simp only [oL,oM,B1];generalize N0 p=sp;generalize p.isEmpty=pe;cases decide (s < 0) <;> cases decide (65536 < s) <;> simp only [BJ,BC,A2,A8,A6,BM]
  by_cases k1:k=1
  ·subst k1;cases a==0 <;> cases b==0 <;> cases c==0 <;> cases d==0 <;> cases t==0 <;> cases sp <;> cases pe <;> rfl
  by_cases k2:k=2
  ·subst k2;cases a==0 <;> cases b==0 <;> cases c==0 <;> cases d==0 <;> cases t==0 <;> cases sp <;> cases pe <;> rfl
  by_cases k3:k=3
  ·subst k3;cases a==0 <;> cases b==0 <;> cases c==0 <;> cases d==0 <;> cases t==0 <;> cases sp <;> cases pe <;> rfl
  by_cases k4:k=4
  ·subst k4;cases a==0 <;> cases b==0 <;> cases c==0 <;> cases d==0 <;> cases t==0 <;> cases sp <;> cases pe <;> rfl
  simp only [A5.2 k1,A5.2 k2,A5.2 k3,A5.2 k4,BC,BM,Bool.or_false,Bool.cond_self]
 ·simp [R.get] at h
theorem kY:∀ (l:LI) (s:BA),s.size≤(M1 s l).size
 | [],s=>AZ _
 | x :: l,s=>by
  simp only [M1];refine C2 ?_ (kY l _);simp only [AV,va2];omega
theorem Dw (N:Nat) (l:LI) (K:Out→St→DN) (hl:l.length≤strMax) (z:DN)
  (hx:∀ s x12 x13,s=M1 s []→K (.exit 0) ⟨[(0,(.ptr 900000 0 0)),(11,(.list false [.z] l)),(12,(.int .i64 x12)),(13,(.int .i64 x13))],[(900000,(some (.bld s)))]⟩=cond (decide (s.size+1≤strMax)) (some (.tup [],[[.bld (s.push (NI 10))]])) none) :
  ∀ (d i n:Nat) (s:BA),i+d=l.length→d < n→(M1 s (l.drop i)).size≤strMax→DY (UC N) (DK W8 [1,0,1,0,0]) ⟨[0,11,12,13],[900000],[]⟩ n ⟨[(0,(.ptr 900000 0 0)),(11,(.list false [.z] l)),(12,(.int .i64 (ic l.length))),(13,(.int .i64 (i:Int)))],[(900000,(some (.bld s)))]⟩ K =
   cond (decide ((M1 s (l.drop i)).size+1≤strMax)) (some (.tup [],[[.bld ((M1 s (l.drop i)).push (NI 10))]])) none
 | 0,i,n+1,s,hd,_,_=>by
  rw [D5,Mn,I5 (by omega),CS (by omega)];simp only [BC,M1];exact hx s _ _ rfl
 | d+1,i,n+1,s,hd,hn,hs=>by
  have hi:i < l.length:=by omega
  unfold strMax at hl;rw [D5,Mn,HA hi,IL,HD (by omega),H8 hi];rw [BG hi] at hs ⊢;simp only [M1] at hs ⊢;have e32:NI 32=32:=rfl;rw [e32];have hsz:=kY (l.drop (i+1)) (s.push 32++DP l[i].toInt);have h1:decide (s.size+1≤strMax)=true:=AD (by
   simp only [AV,va2] at hsz;omega)
  have h2:decide ((s.push 32).size+(DP l[i].toInt).size≤strMax)=true:=AD (by
   simp only [AV] at hsz;omega)
  rw [h1,h2];simp only [BJ,B1];exact Dw N l K (by unfold strMax; omega) z hx d (i+1) n _ (by omega) (by omega) hs
 | 0,_,0,_,_,h,_=>by omega
 | _+1,_,0,_,_,h,_=>by omega
theorem zhB:DX PR B0 63 bZ:=by
 refine D6 [(43,O3),(97,Y1),(60,UH)] [(2,⟨[0,11,12,13],[900000],[]⟩)] bZ [] Tryz.func63 zaY ⟨gS,Lc,tV,trivial⟩ ?_;intro vs r hwf h;unfold bZ at h;split at h
 ·rename_i s w l;refine ⟨l.length+1,?_⟩;rw [← h];refine (zdM (l.length+1) s w l).trans ?_;simp only [R.get_br,R.get_ok,R.get_no];have hwf:=hwf (by simp [MD,GN]);simp only [TZ,SA,wfLs,wfL] at hwf;rw [R.get_br,R.get_ok,R.get_no] at h;cases hc:decide ((GO s w l).size≤strMax) with
  | false=>rw [hc] at h; cases h
  | true=>
   have hle:=A1 hc;unfold GO at hle ⊢;rw [va2] at hle;have h1:=kY l (s++w);have e1:decide (s.size+w.size≤strMax)=true:=AD (by rw [AV] at h1; omega);rw [e1];simp only [BJ]
   have:=Dw (l.length+1) l _ hwf.2.2.1.1 none (fun s' x12 x13 _=>Ye (l.length+1) s l x12 x13 s') l.length 0 (l.length+1) (s++w) (by omega) (by omega) (by rw [B2]; omega)
   rw [B2] at this;refine this.trans ?_;rw [AD hle];rfl
 ·simp [R.get] at h
theorem zhC:DX PR B0 105 cA:=by
 refine D6 [(90,RC)] [] cA [[.z]] Tryz.func105 zaZ ⟨lZ,trivial⟩ ?_;intro vs r hwf h;unfold cA at h;split at h
 ·rename_i l i;refine ⟨0,?_⟩;rw [← h];refine (zdN 0 l i).trans ?_;simp only [R.get_br,R.get_ok,R.get_no];unfold GK;rw [R.get_br,R.get_ok,R.get_no] at h;cases hc:decide (0≤i) with
  | false=>rw [hc] at h; cases h
  | true=>
   have h0:=A1 hc;simp only [BJ,A6];have e:decide (i≥ic l.length)=decide (ic l.length≤i):=rfl;rw [e];cases h2:decide (ic l.length≤i) with
   | true=>rfl
   | false=>
    have h3:=BH h2;rw [AD (show i < ic l.length by omega)];rfl
 ·simp [R.get] at h
open Go Go.Proofs
def G9 (N:Nat):Env:=D4 [(105,cA),(104,UI),(46,NF)] [(7,⟨[2,4,7],[2,7,51],[⟨.cell 7 1,51,127,true,[.bool,.z,.z]⟩]⟩),(16,⟨[2,6,7,66],[2,7],[]⟩)] 87 N
abbrev V4 (s4:BA) (u01 u02 u03 u04 u05 u06 u07 u08:Int) (u00:Nat) (u09 u0a u0b u0c u0d u0e:Int) (lo51:LI):St:=⟨[(2,(.ptr 2 0 0)),(4,(.str s4)),(7,(.ptr 7 0 0))],[(2,(some (.box [.i u01,.zs,.i u02,.i u03,.i u04,.i u05,.i u06,.i u07]))),(7,(some (.box [.i u08,.row 51 0 u00,.i u09,.i u0a,.i u0b,.i u0c,.i u0d,.i u0e]))),(51,(some (.row true 127 true EB lo51)))]⟩
abbrev T3 (l6:LI) (x66 u00 u01 u02 u03 u04 u05 u06 u07 u08 u09 u0a u0b u0c u0d:Int):St:=⟨[(2,(.ptr 2 0 0)),(6,(.list false [.str] l6)),(7,(.ptr 7 0 0)),(66,(.i x66))],[(2,(some (.box [.i u00,.zs,.i u01,.i u02,.i u03,.i u04,.i u05,.i u06]))),(7,(some (.box [.i u07,.zs,.i u08,.i u09,.i u0a,.i u0b,.i u0c,.i u0d])))]⟩
theorem zdO (N:Nat) (s:BA):DZ (G9 N) H7 [.cell 2 55] [[.z,.list true [.bool,.z,.z],.z,.z,.z,.z,.z,.z]] [.str s]=(cond (decide (AG s < 4294967281)) (cond (decide (AG (cutL s {data:=#[10]}) < 4294967281)&&decide (1≤AG {data:=#[32]})) (cond (decide (0≤0)&&decide (0 < ic (AF (A3 IV.str (D2 (cutL s {data:=#[10]}) {data:=#[32]}))))) (cond (AW (IV.toStr (AI (A3 IV.str (D2 (cutL s {data:=#[10]}) {data:=#[32]})) (AE 0) default))==AW {data:=#[104,111,108,100,115]}) (DY (G9 N) (DK H7 [1,1,1,1,0,1,0,1,0,1,0,0]) ⟨[2,4,7],[2,7,51],[⟨(.cell 7 1),51,127,true,EB⟩]⟩ N (V4 (FU s {data:=#[10]}) 0 0 0 0 0 0 0 1 0 0 0 0 0 0 (GK (A3 IV.str (D2 (cutL s {data:=#[10]}) {data:=#[32]})) 1) []) (DQ 1 (DQ 0 (DS (G9 N) (DK H7 [1,1,1,1,1]) (DT (G9 N) none [.cell 2 55] [[.z,.list true EB,.z,.z,.z,.z,.z,.z]]))))) (cond (AW (IV.toStr (AI (A3 IV.str (D2 (cutL s {data:=#[10]}) {data:=#[32]})) (AE 0) default))==AW {data:=#[102,97,105,108,115]}) (DY (G9 N) (DK H7 [1,1,1,1,0,1,0,1,1,1,0,1,0,1,0,0]) ⟨[2,6,7,66],[2,7],[]⟩ N (T3 (A3 IV.str (D2 (cutL s {data:=#[10]}) {data:=#[32]})) 0 0 0 0 0 0 0 0 2 0 0 0 0 0 (GK (A3 IV.str (D2 (cutL s {data:=#[10]}) {data:=#[32]})) 1)) (DQ 3 (DS (G9 N) (DK H7 [1,1,1,1,0,1,0,1,1,1,0,1,1]) (DQ 0 (DS (G9 N) (DK H7 [1,1,1,1,1]) (DT (G9 N) none [.cell 2 55] [[.z,.list true EB,.z,.z,.z,.z,.z,.z]])))))) (cond (AW (IV.toStr (AI (A3 IV.str (D2 (cutL s {data:=#[10]}) {data:=#[32]})) (AE 0) default))==AW {data:=#[117,110,107,110,111,119,110]}) (some ((.agg [.i 3,.list true EB [],.i 0,.i 0,.i 0,.i 0,.i 0,(.i (GK (A3 IV.str (D2 (cutL s {data:=#[10]}) {data:=#[32]})) 1))]),[])) (cond (AW (IV.toStr (AI (A3 IV.str (D2 (cutL s {data:=#[10]}) {data:=#[32]})) (AE 0) default))==AW {data:=#[119,114,111,110,103]}) (some ((.agg [.i 4,.list true EB [],.i 0,.i 0,.i 0,.i 0,.i 0,(.i (GK (A3 IV.str (D2 (cutL s {data:=#[10]}) {data:=#[32]})) 1))]),[])) (some ((.agg [.i 0,.list true EB [],.i 0,.i 0,.i 0,.i 0,.i 0,(.i (GK (A3 IV.str (D2 (cutL s {data:=#[10]}) {data:=#[32]})) 1))]),[])))))) none) none) none):=by kernel_rfl
theorem ziS (N:Nat) (s4:BA) (u01 u02 u03 u04 u05 u06 u07 u08:Int) (u00:Nat) (u09 u0a u0b u0c u0d u0e:Int) (lo51:LI) (again:St→DN) (k:Out→St→DN):E2 (G9 N) (DK H7 [1,1,1,1,0,1,0,1,0,1,0,0]) (V4 s4 u01 u02 u03 u04 u05 u06 u07 u08 u00 u09 u0a u0b u0c u0d u0e lo51) (EQ again ⟨[2,4,7],[2,7,51],[⟨(.cell 7 1),51,127,true,EB⟩]⟩ k)=(cond (!AW s4==AW {data:=#[]}) (cond (decide (ic (u00 - 0)≤65536)) (cond (decide (AG s4 < 4294967281)) (cond (decide (AG (cutL s4 {data:=#[10]}) < 4294967281)&&decide (1≤AG {data:=#[32]})) (cond (decide (0≤0)&&decide (0 < ic (AF (A3 IV.str (D2 (cutL s4 {data:=#[10]}) {data:=#[32]}))))) (cond (AW (IV.toStr (AI (A3 IV.str (D2 (cutL s4 {data:=#[10]}) {data:=#[32]})) (AE 0) default))==AW {data:=#[115,117,109]}) (cond (decide ((u00+1)*24≤EE)) (again (V4 (FU s4 {data:=#[10]}) u01 u02 u03 u04 u05 u06 u07 u08 (u00+1) u09 u0a u0b u0c u0d u0e (AK u00 lo51++[IV.agg [IV.bool true,IV.int 0,IV.int 0]]))) none) (cond (decide ((u00+1)*24≤EE)) (again (V4 (FU s4 {data:=#[10]}) u01 u02 u03 u04 u05 u06 u07 u08 (u00+1) u09 u0a u0b u0c u0d u0e (AK u00 lo51++[IV.agg [IV.bool false,IV.int (GK (A3 IV.str (D2 (cutL s4 {data:=#[10]}) {data:=#[32]})) 1),IV.int (GK (A3 IV.str (D2 (cutL s4 {data:=#[10]}) {data:=#[32]})) 2)]]))) none)) none) none) none) (k (.exit 1) (V4 s4 u01 u02 u03 u04 u05 u06 u07 u08 u00 u09 u0a u0b u0c u0d u0e lo51))) (k (.exit 1) (V4 s4 u01 u02 u03 u04 u05 u06 u07 u08 u00 u09 u0a u0b u0c u0d u0e lo51))):=by kernel_rfl
theorem gW (N:Nat) (l6:LI) (x66 u00 u01 u02 u03 u04 u05 u06 u07 u08 u09 u0a u0b u0c u0d:Int) (again:St→DN) (k:Out→St→DN):E2 (G9 N) (DK H7 [1,1,1,1,0,1,0,1,1,1,0,1,0,1,0,0]) (T3 l6 x66 u00 u01 u02 u03 u04 u05 u06 u07 u08 u09 u0a u0b u0c u0d) (EQ again ⟨[2,6,7,66],[2,7],[]⟩ k)=(cond (decide (x66 < 4)) (cond (decide (0≤AA AB (2+x66))) (cond (decide (x66=ic 0)) (again (T3 l6 (AA AB (x66+1)) u00 u01 u02 u03 u04 u05 u06 u07 (GK l6 (AA AB (2+x66))) u09 u0a u0b u0c u0d)) (cond (decide (x66=ic 1)) (again (T3 l6 (AA AB (x66+1)) u00 u01 u02 u03 u04 u05 u06 u07 u08 (GK l6 (AA AB (2+x66))) u0a u0b u0c u0d)) (cond (decide (x66=ic 2)) (again (T3 l6 (AA AB (x66+1)) u00 u01 u02 u03 u04 u05 u06 u07 u08 u09 (GK l6 (AA AB (2+x66))) u0b u0c u0d)) (cond (decide (x66=ic 3)) (again (T3 l6 (AA AB (x66+1)) u00 u01 u02 u03 u04 u05 u06 u07 u08 u09 u0a (GK l6 (AA AB (2+x66))) u0c u0d)) none)))) none) (k (.exit 3) (T3 l6 x66 u00 u01 u02 u03 u04 u05 u06 u07 u08 u09 u0a u0b u0c u0d))):=by kernel_rfl
theorem Yf (N:Nat) (s4:BA) (u01 u02 u03 u04 u05 u06 u07 u08:Int) (u00:Nat) (u09 u0a u0b u0c u0d u0e:Int) (lo51:LI):(DQ 1 (DQ 0 (DS (G9 N) (DK H7 [1,1,1,1,1]) (DT (G9 N) none [.cell 2 55] [[.z,.list true EB,.z,.z,.z,.z,.z,.z]])))) (.exit 1) (V4 s4 u01 u02 u03 u04 u05 u06 u07 u08 u00 u09 u0a u0b u0c u0d u0e lo51)=(some ((.agg [.i u08,.list true EB (AS 0 (AK u00 lo51)),.i u09,.i u0a,.i u0b,.i u0c,.i u0d,.i u0e]),[])):=by kernel_rfl
theorem Yg (N:Nat) (l6:LI) (x66 u00 u01 u02 u03 u04 u05 u06 u07 u08 u09 u0a u0b u0c u0d:Int):(DQ 3 (DS (G9 N) (DK H7 [1,1,1,1,0,1,0,1,1,1,0,1,1]) (DQ 0 (DS (G9 N) (DK H7 [1,1,1,1,1]) (DT (G9 N) none [.cell 2 55] [[.z,.list true EB,.z,.z,.z,.z,.z,.z]]))))) (.exit 3) (T3 l6 x66 u00 u01 u02 u03 u04 u05 u06 u07 u08 u09 u0a u0b u0c u0d)=(some ((.agg [.i u07,.list true EB [],.i u08,.i u09,.i u0a,.i u0b,.i (GK l6 6),.i u0d]),[])):=by kernel_rfl
def UB (N:Nat):Env:=D4 [(62,bY),(63,bZ),(56,UG)] [(9,⟨[2,3,25,26,27],[3],[]⟩)] 61 N
abbrev YS (s2:BA) (l25:LI) (x26 x27:Int) (so3:BA):St:=⟨[(2,(.str s2)),(3,(.ptr 3 0 0)),(25,(.list true EB l25)),(26,(.i x26)),(27,(.i x27))],[(3,(some (.bld so3)))]⟩
theorem zdK (N:Nat) (v:Vd):DZ (UB N) W7 [.tmp 2] [[.str]] [(Vd.V v)]=(cond (!Vd.right v) (some ((.str ({data:=#[]})),[])) (cond (Vd.kind v==1) (cond (decide (AG (GO CI {data:=#[104,111,108,100,115]} [IV.int (Vd.spent v),IV.int (ic (AF (Vd.proof v)))])≤strMax)) (DY (UB N) (DK W7 [1,1,1,0,1,0,1,0,1,1,0,0]) ⟨[2,3,25,26,27],[3],[]⟩ N (YS ({data:=#[]}) (Vd.proof v) (ic (AF (Vd.proof v))) 0 (GO CI {data:=#[104,111,108,100,115]} [IV.int (Vd.spent v),IV.int (ic (AF (Vd.proof v)))])) (DQ 1 (DQ 0 (DS (UB N) (DK W7 [1,1,1,1]) (DT (UB N) none [.tmp 2] [[.str]]))))) none) (cond (Vd.kind v==2) (cond (decide (AG (GO CI {data:=#[102,97,105,108,115]} (AS 0 (AK (1+4+1) (AK (1+4) (AK 1 [IV.int (Vd.spent v)]++[IV.int (Vd.w0 v),IV.int (Vd.w1 v),IV.int (Vd.w2 v),IV.int (Vd.w3 v)])++[IV.int (Vd.twin v)]))))≤strMax)) (some ((.str (GO CI {data:=#[102,97,105,108,115]} (AS 0 (AK (1+4+1) (AK (1+4) (AK 1 [IV.int (Vd.spent v)]++[IV.int (Vd.w0 v),IV.int (Vd.w1 v),IV.int (Vd.w2 v),IV.int (Vd.w3 v)])++[IV.int (Vd.twin v)]))))),[])) none) (cond (Vd.kind v==3) (cond (decide (AG (GO CI {data:=#[117,110,107,110,111,119,110]} [IV.int (Vd.spent v)])≤strMax)) (some ((.str (GO CI {data:=#[117,110,107,110,111,119,110]} [IV.int (Vd.spent v)])),[])) none) (cond (decide (AG (GO CI {data:=#[119,114,111,110,103]} [IV.int (Vd.spent v)])≤strMax)) (some ((.str (GO CI {data:=#[119,114,111,110,103]} [IV.int (Vd.spent v)])),[])) none))))):=by kernel_rfl
theorem Mm (N:Nat) (s2:BA) (l25:LI) (x26 x27:Int) (so3:BA) (again:St→DN) (k:Out→St→DN):E2 (UB N) (DK W7 [1,1,1,0,1,0,1,0,1,1,0,0]) (YS s2 l25 x26 x27 so3) (EQ again ⟨[2,3,25,26,27],[3],[]⟩ k)=(cond (decide (x27 < x26)) (cond (decide (0≤x27)&&decide (x27 < ic (AF l25))) (cond (IV.toBool (IV.cell (AI l25 (AE x27) default) 0)) (cond (decide (AG (GO so3 {data:=#[115,117,109]} [])≤strMax)) (again (YS s2 l25 x26 (AA AB (x27+1)) (GO so3 {data:=#[115,117,109]} []))) none) (cond (decide (AG (GO so3 {data:=#[99,117,116]} [IV.int (IV.toInt (IV.cell (AI l25 (AE x27) default) 1)),IV.int (IV.toInt (IV.cell (AI l25 (AE x27) default) 2))])≤strMax)) (again (YS s2 l25 x26 (AA AB (x27+1)) (GO so3 {data:=#[99,117,116]} [IV.int (IV.toInt (IV.cell (AI l25 (AE x27) default) 1)),IV.int (IV.toInt (IV.cell (AI l25 (AE x27) default) 2))]))) none)) none) (k (.exit 1) (YS s2 l25 x26 x27 so3))):=by kernel_rfl
theorem Yd (N:Nat) (s2:BA) (l25:LI) (x26 x27:Int) (so3:BA):(DQ 1 (DQ 0 (DS (UB N) (DK W7 [1,1,1,1]) (DT (UB N) none [.tmp 2] [[.str]])))) (.exit 1) (YS s2 l25 x26 x27 so3)=(some ((.str so3),[])):=by kernel_rfl
def Rb (N:Nat):Env:=D4 [(24,P1),(61,cB)] [] 17 N
theorem zdJ (N:Nat) (s:BA):DZ (Rb N) xL [.cell 2 55,.tmp 3] [[.z,.list true [.bool,.z,.z],.z,.z,.z,.z,.z,.z],[.bool]] [.str s]=(cond (decide (AG s < 4294967281)) (cond (AW s==AW {data:=#[]}) (some ((.tup [.agg [.i 0,.list true EB [],.i 0,.i 0,.i 0,.i 0,.i 0,.i 0],.bool false]),[])) (cond (decide (AG (EH (HT s))≤strMax)) (cond (!AW (EH (HT s))==AW s) (some ((.tup [.agg [.i 0,.list true EB [],.i 0,.i 0,.i 0,.i 0,.i 0,.i 0],.bool false]),[])) (some ((.tup [(Vd.V (HT s)),.bool true]),[]))) none)) none):=by kernel_rfl
open Go Go.Proofs
theorem ziJ (s sep:BA) (h:1≤sep.size):0 < ((D2 s sep).map IV.str).length:=by
 rw [BE];unfold D2;rw [Lib.splitB_all sep h 0 _ s rfl];omega
theorem uD (s:BA):decide (0 < ic (AF (A3 IV.str (D2 s VZ))))=true:=AD (by
 have:=ziJ s VZ (by decide)
 simp only [ic];omega)
theorem Ae {s sep:BA} (h:s.size < 4294967281):decide (AG (cutL s sep) < 4294967281)=true:=AD (by
 have:=(jI s sep).1
 omega)
theorem Wl {s:BA} (h:(s.toList==D9.toList)=false):(FU s EJ).size < s.size:=by
 have h0:0 < s.size:=by
  rcases Nat.eq_zero_or_pos s.size with e | e
  ·exfalso
   have:s=D9:=ByteArray.ext (Array.eq_empty_of_size_eq_zero e)
   rw [this] at h;simp at h
  ·exact e
 have h0:0 < s.data.toList.length:=h0;show (vaO s.data.toList EJ.data.toList).2.1.toArray.size < s.data.toList.length;rw [C9];unfold vaO;split
 ·have e1:(EJ.data.toList).length=1:=rfl;rw [CX,e1];omega
 ·exact h0
theorem Ar:decide (1≤AG VZ)=true:=rfl
theorem Id (N:Nat) (a0 a2 a3 a4 a5 a6 a7 b0 b2 b3 b4 b5 b6 b7:Int) (K:Out→St→DN)
  (hx:∀ s (p:LI),K (.exit 1) ⟨[(2,(.ptr 2 0 0)),(4,(.str s)),(7,(.ptr 7 0 0))],[(2,(some (.box [(.int .i64 a0),.zs,(.int .i64 a2),(.int .i64 a3),(.int .i64 a4),(.int .i64 a5),(.int .i64 a6),(.int .i64 a7)]))),(7,(some (.box [(.int .i64 b0),(.row 51 0 p.length),(.int .i64 b2),(.int .i64 b3),(.int .i64 b4),(.int .i64 b5),(.int .i64 b6),(.int .i64 b7)]))),(51,(some (.row true 127 true EB p)))]⟩=some ((.agg [(.int .i64 b0),(.list true EB (AS 0 (AK p.length p))),(.int .i64 b2),(.int .i64 b3),(.int .i64 b4),(.int .i64 b5),(.int .i64 b6),(.int .i64 b7)]),[])) :
  ∀ (m n:Nat) (s:BA) (p:LI),s.size < m→m≤n→s.size < 4294967281 →
   DY (G9 N) (DK H7 [1,1,1,1,0,1,0,1,0,1,0,0]) ⟨[2,4,7],[2,7,51],[⟨(.cell 7 1),51,127,true,EB⟩]⟩ n ⟨[(2,(.ptr 2 0 0)),(4,(.str s)),(7,(.ptr 7 0 0))],[(2,(some (.box [(.int .i64 a0),.zs,(.int .i64 a2),(.int .i64 a3),(.int .i64 a4),(.int .i64 a5),(.int .i64 a6),(.int .i64 a7)]))),(7,(some (.box [(.int .i64 b0),(.row 51 0 p.length),(.int .i64 b2),(.int .i64 b3),(.int .i64 b4),(.int .i64 b5),(.int .i64 b6),(.int .i64 b7)]))),(51,(some (.row true 127 true EB p)))]⟩ K =
   some ((.agg [(.int .i64 b0),(.list true EB (TL m s p)),(.int .i64 b2),(.int .i64 b3),(.int .i64 b4),(.int .i64 b5),(.int .i64 b6),(.int .i64 b7)]),[])
 | m+1,n+1,s,p,hm,hn,hs=>by
  rw [D5,ziS];have ep:AS 0 (AK p.length p)=p:=by rw [B2,BO]
  have e65:decide (ic (p.length - 0)≤65536)=decide (p.length≤65536):=by
   rw [va1];simp only [AQ,ic];omega
  unfold TL;rw [e65];cases h1:(s.toList==D9.toList) with
  | true=>
   simp only [A2,DJ,BM];refine (hx s p).trans ?_;rw [ep]
  | false=>
   simp only [A8,DI,A6];cases h2:decide (p.length≤65536) with
   | false=>
    simp only [DJ];refine (hx s p).trans ?_;rw [ep]
   | true=>
    have h2:=A1 h2;simp only [DI];have hlt:=Wl h1;rw [AD hs,Ae hs,Ar,uD];simp only [AZ,decide_true,B1,DI];rw [AD (show (p.length+1)*24≤EE by unfold EE; omega)];simp only [DI];have el:∀ x:IV,p.length+1=(p++[x]).length:=fun x=>by
     rw [AT]; rfl
    have ih:=fun x:IV=>Id N a0 a2 a3 a4 a5 a6 a7 b0 b2 b3 b4 b5 b6 b7 K hx m n (FU s EJ) (p++[x]) (by omega) (by omega) (by omega)
    unfold aE ML;have ez:AE 0=0:=rfl;rw [ez];unfold II;cases h3:(AW (IV.toStr (AI (A3 IV.str (D2 (cutL s EJ) VZ)) 0 default))==AW R8) with
    | true=>
     simp only [DI];rw [BO,el];exact ih _
    | false=>
     simp only [DJ];rw [BO,el];exact ih _
 | 0,_,_,_,h,_,_=>by omega
 | _+1,0,_,_,_,h,_=>by omega
theorem VY {a b c:Int} (h:AA .i64 (a+b)=c):AA .i64 (a+b)=c:=h
theorem zgB (N n:Nat) (l:LI) (x w0 w1 w2 w3:Int) (K:Out→St→DN):DY (G9 N) (DK H7 [1,1,1,1,0,1,0,1,1,1,0,1,0,1,0,0]) ⟨[2,6,7,66],[2,7],[]⟩ (n+1) ⟨[(2,(.ptr 2 0 0)),(6,(.list false [.str] l)),(7,(.ptr 7 0 0)),(66,(.int .i64 0))],[(2,(some (.box [(.int .i64 0),.zs,(.int .i64 0),(.int .i64 0),(.int .i64 0),(.int .i64 0),(.int .i64 0),(.int .i64 0)]))),(7,(some (.box [(.int .i64 2),.zs,(.int .i64 w0),(.int .i64 w1),(.int .i64 w2),(.int .i64 w3),(.int .i64 0),(.int .i64 x)])))]⟩ K =
  DY (G9 N) (DK H7 [1,1,1,1,0,1,0,1,1,1,0,1,0,1,0,0]) ⟨[2,6,7,66],[2,7],[]⟩ n ⟨[(2,(.ptr 2 0 0)),(6,(.list false [.str] l)),(7,(.ptr 7 0 0)),(66,(.int .i64 1))],[(2,(some (.box [(.int .i64 0),.zs,(.int .i64 0),(.int .i64 0),(.int .i64 0),(.int .i64 0),(.int .i64 0),(.int .i64 0)]))),(7,(some (.box [(.int .i64 2),.zs,(.int .i64 (GK l 2)),(.int .i64 w1),(.int .i64 w2),(.int .i64 w3),(.int .i64 0),(.int .i64 x)])))]⟩ K:=by
 rw [D5,gW,VY (a:=2) (b:=0) (c:=2) rfl,VY (a:=0) (b:=1) (c:=1) rfl];simp only [show decide ((0:Int) < 4)=true from rfl,show decide ((0:Int)≤2)=true from rfl,show decide ((0:Int)=ic 0)=true from rfl,DI]
theorem zgC (N n:Nat) (l:LI) (x w0 w1 w2 w3:Int) (K:Out→St→DN):DY (G9 N) (DK H7 [1,1,1,1,0,1,0,1,1,1,0,1,0,1,0,0]) ⟨[2,6,7,66],[2,7],[]⟩ (n+1) ⟨[(2,(.ptr 2 0 0)),(6,(.list false [.str] l)),(7,(.ptr 7 0 0)),(66,(.int .i64 1))],[(2,(some (.box [(.int .i64 0),.zs,(.int .i64 0),(.int .i64 0),(.int .i64 0),(.int .i64 0),(.int .i64 0),(.int .i64 0)]))),(7,(some (.box [(.int .i64 2),.zs,(.int .i64 w0),(.int .i64 w1),(.int .i64 w2),(.int .i64 w3),(.int .i64 0),(.int .i64 x)])))]⟩ K =
  DY (G9 N) (DK H7 [1,1,1,1,0,1,0,1,1,1,0,1,0,1,0,0]) ⟨[2,6,7,66],[2,7],[]⟩ n ⟨[(2,(.ptr 2 0 0)),(6,(.list false [.str] l)),(7,(.ptr 7 0 0)),(66,(.int .i64 2))],[(2,(some (.box [(.int .i64 0),.zs,(.int .i64 0),(.int .i64 0),(.int .i64 0),(.int .i64 0),(.int .i64 0),(.int .i64 0)]))),(7,(some (.box [(.int .i64 2),.zs,(.int .i64 w0),(.int .i64 (GK l 3)),(.int .i64 w2),(.int .i64 w3),(.int .i64 0),(.int .i64 x)])))]⟩ K:=by
 rw [D5,gW,VY (a:=2) (b:=1) (c:=3) rfl,VY (a:=1) (b:=1) (c:=2) rfl];simp only [show decide ((1:Int) < 4)=true from rfl,show decide ((0:Int)≤3)=true from rfl,show decide ((1:Int)=ic 0)=false from rfl,show decide ((1:Int)=ic 1)=true from rfl,DI,DJ]
theorem zgD (N n:Nat) (l:LI) (x w0 w1 w2 w3:Int) (K:Out→St→DN):DY (G9 N) (DK H7 [1,1,1,1,0,1,0,1,1,1,0,1,0,1,0,0]) ⟨[2,6,7,66],[2,7],[]⟩ (n+1) ⟨[(2,(.ptr 2 0 0)),(6,(.list false [.str] l)),(7,(.ptr 7 0 0)),(66,(.int .i64 2))],[(2,(some (.box [(.int .i64 0),.zs,(.int .i64 0),(.int .i64 0),(.int .i64 0),(.int .i64 0),(.int .i64 0),(.int .i64 0)]))),(7,(some (.box [(.int .i64 2),.zs,(.int .i64 w0),(.int .i64 w1),(.int .i64 w2),(.int .i64 w3),(.int .i64 0),(.int .i64 x)])))]⟩ K =
  DY (G9 N) (DK H7 [1,1,1,1,0,1,0,1,1,1,0,1,0,1,0,0]) ⟨[2,6,7,66],[2,7],[]⟩ n ⟨[(2,(.ptr 2 0 0)),(6,(.list false [.str] l)),(7,(.ptr 7 0 0)),(66,(.int .i64 3))],[(2,(some (.box [(.int .i64 0),.zs,(.int .i64 0),(.int .i64 0),(.int .i64 0),(.int .i64 0),(.int .i64 0),(.int .i64 0)]))),(7,(some (.box [(.int .i64 2),.zs,(.int .i64 w0),(.int .i64 w1),(.int .i64 (GK l 4)),(.int .i64 w3),(.int .i64 0),(.int .i64 x)])))]⟩ K:=by
 rw [D5,gW,VY (a:=2) (b:=2) (c:=4) rfl,VY (a:=2) (b:=1) (c:=3) rfl];simp only [show decide ((2:Int) < 4)=true from rfl,show decide ((0:Int)≤4)=true from rfl,show decide ((2:Int)=ic 0)=false from rfl,show decide ((2:Int)=ic 1)=false from rfl,show decide ((2:Int)=ic 2)=true from rfl,DI,DJ]
theorem zgE (N n:Nat) (l:LI) (x w0 w1 w2 w3:Int) (K:Out→St→DN):DY (G9 N) (DK H7 [1,1,1,1,0,1,0,1,1,1,0,1,0,1,0,0]) ⟨[2,6,7,66],[2,7],[]⟩ (n+1) ⟨[(2,(.ptr 2 0 0)),(6,(.list false [.str] l)),(7,(.ptr 7 0 0)),(66,(.int .i64 3))],[(2,(some (.box [(.int .i64 0),.zs,(.int .i64 0),(.int .i64 0),(.int .i64 0),(.int .i64 0),(.int .i64 0),(.int .i64 0)]))),(7,(some (.box [(.int .i64 2),.zs,(.int .i64 w0),(.int .i64 w1),(.int .i64 w2),(.int .i64 w3),(.int .i64 0),(.int .i64 x)])))]⟩ K =
  DY (G9 N) (DK H7 [1,1,1,1,0,1,0,1,1,1,0,1,0,1,0,0]) ⟨[2,6,7,66],[2,7],[]⟩ n ⟨[(2,(.ptr 2 0 0)),(6,(.list false [.str] l)),(7,(.ptr 7 0 0)),(66,(.int .i64 4))],[(2,(some (.box [(.int .i64 0),.zs,(.int .i64 0),(.int .i64 0),(.int .i64 0),(.int .i64 0),(.int .i64 0),(.int .i64 0)]))),(7,(some (.box [(.int .i64 2),.zs,(.int .i64 w0),(.int .i64 w1),(.int .i64 w2),(.int .i64 (GK l 5)),(.int .i64 0),(.int .i64 x)])))]⟩ K:=by
 rw [D5,gW,VY (a:=2) (b:=3) (c:=5) rfl,VY (a:=3) (b:=1) (c:=4) rfl];simp only [show decide ((3:Int) < 4)=true from rfl,show decide ((0:Int)≤5)=true from rfl,show decide ((3:Int)=ic 0)=false from rfl,show decide ((3:Int)=ic 1)=false from rfl,show decide ((3:Int)=ic 2)=false from rfl,show decide ((3:Int)=ic 3)=true from rfl,DI,DJ]
theorem zgF (N n:Nat) (l:LI) (x w0 w1 w2 w3:Int):DY (G9 N) (DK H7 [1,1,1,1,0,1,0,1,1,1,0,1,0,1,0,0]) ⟨[2,6,7,66],[2,7],[]⟩ (n+1) ⟨[(2,(.ptr 2 0 0)),(6,(.list false [.str] l)),(7,(.ptr 7 0 0)),(66,(.int .i64 4))],[(2,(some (.box [(.int .i64 0),.zs,(.int .i64 0),(.int .i64 0),(.int .i64 0),(.int .i64 0),(.int .i64 0),(.int .i64 0)]))),(7,(some (.box [(.int .i64 2),.zs,(.int .i64 w0),(.int .i64 w1),(.int .i64 w2),(.int .i64 w3),(.int .i64 0),(.int .i64 x)])))]⟩ (DQ 3 (DS (G9 N) (DK H7 [1,1,1,1,0,1,0,1,1,1,0,1,1]) (DQ 0 (DS (G9 N) (DK H7 [1,1,1,1,1]) (DT (G9 N) none [(va4 2 55)] [[.z,(.list true EB),.z,.z,.z,.z,.z,.z]]))))) =
  some ((.agg [(.int .i64 2),(.list true EB []),(.int .i64 w0),(.int .i64 w1),(.int .i64 w2),(.int .i64 w3),(.int .i64 (GK l 6)),(.int .i64 x)]),[]):=by
 rw [D5,gW];simp only [show decide ((4:Int) < 4)=false from rfl,DJ];exact Yg N _ _ _ _ _ _ _ _ _ _ _ _ _ _ _ _
theorem zgG (N n:Nat) (l:LI) (x:Int):DY (G9 N) (DK H7 [1,1,1,1,0,1,0,1,1,1,0,1,0,1,0,0]) ⟨[2,6,7,66],[2,7],[]⟩ (n+1+1+1+1+1) ⟨[(2,(.ptr 2 0 0)),(6,(.list false [.str] l)),(7,(.ptr 7 0 0)),(66,(.int .i64 0))],[(2,(some (.box [(.int .i64 0),.zs,(.int .i64 0),(.int .i64 0),(.int .i64 0),(.int .i64 0),(.int .i64 0),(.int .i64 0)]))),(7,(some (.box [(.int .i64 2),.zs,(.int .i64 0),(.int .i64 0),(.int .i64 0),(.int .i64 0),(.int .i64 0),(.int .i64 x)])))]⟩ (DQ 3 (DS (G9 N) (DK H7 [1,1,1,1,0,1,0,1,1,1,0,1,1]) (DQ 0 (DS (G9 N) (DK H7 [1,1,1,1,1]) (DT (G9 N) none [(va4 2 55)] [[.z,(.list true EB),.z,.z,.z,.z,.z,.z]]))))) =
  some ((.agg [(.int .i64 2),(.list true EB []),(.int .i64 (GK l 2)),(.int .i64 (GK l 3)),(.int .i64 (GK l 4)),(.int .i64 (GK l 5)),(.int .i64 (GK l 6)),(.int .i64 x)]),[]):=
 (zgB N (n+1+1+1+1) l x 0 0 0 0 _).trans ((zgC N (n+1+1+1) l x _ 0 0 0 _).trans ((zgD N (n+1+1) l x _ _ 0 0 _).trans ((zgE N (n+1) l x _ _ _ 0 _).trans (zgF N n l x _ _ _ _))))
theorem zhD:DX PR B0 61 cB:=by
 refine D6 [(105,cA),(104,UI),(46,NF)] [(7,⟨[2,4,7],[2,7,51],[⟨.cell 7 1,51,127,true,[.bool,.z,.z]⟩]⟩),(16,⟨[2,6,7,66],[2,7],[]⟩)] cB [[.z,.list true [.bool,.z,.z],.z,.z,.z,.z,.z,.z]] Tryz.func61 za0 ⟨zhC,tW,aP,trivial⟩ ?_;intro vs r hwf h;unfold cB at h;split at h
 ·rename_i s;refine ⟨s.size+1+1+1+1+1+1,?_⟩;rw [← h];refine (zdO (s.size+1+1+1+1+1+1) s).trans ?_;simp only [R.get_br,R.get_ok,R.get_no];cases hs:decide (s.size < 4294967281) with
  | false=>rfl
  | true=>
   have hs:=A1 hs;simp only [DI];rw [Ae hs,Ar,uD];simp only [AZ,decide_true,B1,DI];have ez:AE 0=0:=rfl;rw [ez];unfold HT ML II;have hlt:=(jI s EJ).2;generalize A3 IV.str (D2 (cutL s EJ) VZ)=l;generalize (AW (IV.toStr (AI l 0 default))==AW I3)=q1;generalize (AW (IV.toStr (AI l 0 default))==AW QW)=q2;generalize (AW (IV.toStr (AI l 0 default))==AW QX)=q3;generalize (AW (IV.toStr (AI l 0 default))==AW QY)=q4;cases q1
   ·cases q2
    ·cases q3
     ·cases q4 <;> simp only [DI,DJ]
     ·simp only [DI,DJ]
    ·simp only [DI,DJ];exact zgG _ (s.size+1) _ _
   ·simp only [DI];exact Id _ _ _ _ _ _ _ _ _ _ _ _ _ _ _ _ (fun s' p=>Yf _ s' _ _ _ _ _ _ _ _ _ _ _ _ _ _ _ p) ((FU s EJ).size+1) _ (FU s EJ) [] (by omega) (by omega) (by omega)
 ·simp [R.get] at h
theorem Du (s w:BA) (l:LI):s.size≤(GO s w l).size:=by
 unfold GO
 have:=kY l (s++w)
 rw [AV] at this;rw [va2];omega
theorem rY:∀ (l:LI) (s:BA),s.size≤(K1 s l).size
 | [],s=>AZ _
 | x :: l,s=>by
  unfold K1;refine C2 ?_ (rY l _);cases GZ x
  ·exact Du _ _ _
  ·exact Du _ _ _
theorem Hg (N:Nat) (l:LI) (t:BA) (K:Out→St→DN) (hl:l.length≤65536)
  (hx:∀ s x26 x27,K (.exit 1) ⟨[(2,(.str t)),(3,(.ptr 3 0 0)),(25,(.list true EB l)),(26,(.int .i64 x26)),(27,(.int .i64 x27))],[(3,(some (.bld s)))]⟩=some (.str s,[])) :
  ∀ (d i n:Nat) (s:BA),i+d=l.length→d < n→(K1 s (l.drop i)).size≤strMax →
   DY (UB N) (DK W7 [1,1,1,0,1,0,1,0,1,1,0,0]) ⟨[2,3,25,26,27],[3],[]⟩ n ⟨[(2,(.str t)),(3,(.ptr 3 0 0)),(25,(.list true EB l)),(26,(.int .i64 (ic l.length))),(27,(.int .i64 (i:Int)))],[(3,(some (.bld s)))]⟩ K=some (.str (K1 s (l.drop i)),[])
 | 0,i,n+1,s,hd,_,_=>by
  rw [D5,Mm,I5 (by omega),CS (l:=l) (i:=i) (by omega)];simp only [DJ,K1];exact hx s _ _
 | d+1,i,n+1,s,hd,hn,hs=>by
  have hi:i < l.length:=by omega
  rw [D5,Mm,HA hi,IL,HD (by omega),H8 hi];rw [BG hi] at hs ⊢;simp only [K1] at hs ⊢;simp only [DI,B1];have hsz:=rY (l.drop (i+1)) (cond (GZ l[i]) (GO s R8 []) (GO s YM [.int (FD l[i]),.int (FR l[i])]));have ih:=fun s' h'=>Hg N l t K hl hx d (i+1) n s' (by omega) (by omega) h'
  have es:(l[i].cell 0).toBool=GZ l[i]:=rfl;rw [es];cases hc:GZ l[i] with
  | true=>
   rw [hc] at hsz hs;simp only [DI] at hsz hs ⊢;rw [AD (show (GO s R8 []).size≤strMax by omega)];simp only [DI];exact ih _ hs
  | false=>
   rw [hc] at hsz hs;simp only [DJ] at hsz hs ⊢;have e2:[IV.int (IV.toInt (IV.cell l[i] 1)),IV.int (IV.toInt (IV.cell l[i] 2))]=[.int (FD l[i]),.int (FR l[i])]:=rfl;rw [e2,AD (show (GO s YM [.int (FD l[i]),.int (FR l[i])]).size≤strMax by omega)];simp only [DI];exact ih _ hs
 | 0,_,0,_,_,h,_=>by omega
 | _+1,_,0,_,_,h,_=>by omega
theorem zgS {v:Vd} (h:v.right=true):v.proof.length≤65536:=by
 unfold Vd.right at h;simp only [AH,van] at h;rcases h.2.2 with h1 | h1 | h1
 ·have:=h1.2.2
  unfold N0 at this;simp only [AH,AQ] at this;exact this.2.1
 ·have:=h1.2
  cases hp:v.proof with
  | nil=>simp
  | cons a b=>rw [hp] at this; cases this
 ·have:=h1.2.2
  cases hp:v.proof with
  | nil=>simp
  | cons a b=>rw [hp] at this; cases this
theorem lV:DX PR B0 24 P1:=by
 refine D6 [(62,bY),(63,bZ),(56,UG)] [(9,⟨[2,3,25,26,27],[3],[]⟩)] P1 [[.str]] Tryz.func24 zaW ⟨zhA,zhB,tU,trivial⟩ ?_;intro vs r hwf h;unfold P1 at h;split at h
 ·rename_i k p a b c d t s;obtain ⟨v,hv⟩:∃ v:Vd,v=⟨k,p,a,b,c,d,t,s⟩:=⟨_,rfl⟩;refine ⟨v.proof.length+1,?_⟩;rw [← h];rw [← hv] at h ⊢;have hn:=zdK (v.proof.length+1) v;rw [show Vd.V v = .agg [.int .i64 k,.list true [.bool,.z,.z] p,.int .i64 a,.int .i64 b,.int .i64 c,.int .i64 d,.int .i64 t,.int .i64 s] by rw [hv]; rfl] at hn;refine hn.trans ?_;clear hn;rw [R.get_br,R.get_ok,R.get_no] at h;simp only [R.get_br,R.get_ok,R.get_no];cases hc:decide ((EH v).size≤strMax) with
  | false=>rw [hc] at h; cases h
  | true=>
   have hle:=A1 hc;simp only [DI];unfold EH at hle ⊢;cases hr:Vd.right v with
   | false=>rfl
   | true=>
    rw [hr] at hle;simp only [A2,DI,DJ] at hle ⊢;have e0:CI=D9:=rfl;simp only [e0];cases k1:v.kind==1 with
    | true=>
     rw [k1] at hle;simp only [DI] at hle ⊢;have h1:=rY v.proof (GO D9 I3 [.int v.spent,.int (ic v.proof.length)]);rw [AD (show (GO D9 I3 [.int v.spent,.int (ic v.proof.length)]).size≤strMax by omega)];simp only [DI]
     have:=Hg (v.proof.length+1) v.proof D9 _ (zgS hr) (fun s' x26 x27=>Yd (v.proof.length+1) D9 v.proof x26 x27 s') v.proof.length 0 (v.proof.length+1) (GO D9 I3 [.int v.spent,.int (ic v.proof.length)]) (by omega) (by omega) (by rw [B2]; exact hle)
     rw [B2] at this;exact this
    | false=>
     rw [k1] at hle;simp only [DJ] at hle ⊢;cases k2:v.kind==2 with
     | true=>
      rw [k2] at hle;simp only [DI] at hle ⊢;have ew:(AS 0 (AK (1+4+1) (AK (1+4) (AK 1 [IV.int (Vd.spent v)]++[IV.int (Vd.w0 v),IV.int (Vd.w1 v),IV.int (Vd.w2 v),IV.int (Vd.w3 v)])++[IV.int (Vd.twin v)])))=[.int v.spent,.int v.w0,.int v.w1,.int v.w2,.int v.w3,.int v.twin]:=rfl;rw [ew,AD hle];rfl
     | false=>
      rw [k2] at hle;simp only [DJ] at hle ⊢;cases k3:v.kind==3 with
      | true=>
       rw [k3] at hle;simp only [DI] at hle ⊢;rw [AD hle];rfl
      | false=>
       rw [k3] at hle;simp only [DJ] at hle ⊢;rw [AD hle];rfl
 ·simp [R.get] at h
theorem Kl:DX PR B0 23 WL:=by
 refine D6 [(24,P1),(61,cB)] [] WL [[.z,.list true [.bool,.z,.z],.z,.z,.z,.z,.z,.z],[.bool]] Tryz.func23 zaV ⟨lV,zhD,trivial⟩ ?_;intro vs r hwf h;unfold WL at h;split at h
 ·rename_i s;refine ⟨0,?_⟩;rw [← h];refine (zdJ 0 s).trans ?_;simp only [R.get_br,R.get_ok,R.get_no] at h ⊢;cases h1:decide (s.size < 4294967281) with
  | false=>rfl
  | true=>
   rw [h1] at h;simp only [DI] at h ⊢;cases h2:decide ((EH (HT s)).size≤strMax) with
   | false=>rw [h2] at h; cases h
   | true=>
    simp only [DI];unfold IB QJ;cases h3:(s.toList==D9.toList) with
    | true=>rfl
    | false=>
     cases h4:((EH (HT s)).toList==s.toList) with
     | true=>rfl
     | false=>rfl
 ·simp [R.get] at h
open Go
abbrev MK:BA:=⟨#[113,117,101,114,121,32]⟩
abbrev Pw:BA:=⟨#[109,111,100,101,108,10]⟩
def E6 (s:BA):LI:=cond (s.toList==D9.toList) [] ((D2 (GH s EJ) EJ).map IV.str)
def WQ:DV
 | [.str s]=>.br (decide (s.size < 4294967281)) (.ok (.list false [.str] (E6 s)) []) .no
 | _=>.no
def mW:Vd:=⟨4,[],0,0,0,0,0,0⟩
def NG (m:Md) (l:BA):Bool:=NH l&&(MS l==m.d&&E8 m (EZ l))
def UL (m:Md) (q:Qy):Vd:=cond ((EC m q).kind==3||IC m q (EC m q)) (EC m q) mW
def JD (m:Md) (l:BA):Vd:=cond (NG m l) (UL m (EZ l)) mW
def cS:DV
 | [m,.str l]=>J1 m fun m=>.br (decide (l.size < 4294967281)) (.ok (JD m l).V []) .no
 | _=>.no
def HL (i:Nat):BA:=(MK++DP (i:Int))++EJ
def U6 (i:Int):BA:=(MK++DP i)++EJ
def VJ (m:Md):BA→Nat→LI→BA
 | s,_,[]=>s
 | s,i,x :: l=>VJ m (s++HL i++EH (JD m x.toStr)) (i+1) l
def F9 (a b:BA):BA:=cond (K6 a) (VJ (FS a) D9 0 (E6 b)) Pw
def P4:DV
 | [.str a,.str b]=>.br (decide (a.size < 4294967281)&&(decide (b.size < 4294967281)&&decide ((F9 a b).size≤strMax))) (.ok (.str (F9 a b)) []) .no
 | _=>.no
def iM:DV
 | [.str s,.int .u8 c]=>.ok (.int .i64 (DG s.data.toList c.toNat.toUInt8)) []
 | _=>.no
def PF (l:List UInt8):Nat→Nat→Option Nat
 | 0,at_=>some at_
 | n+1,at_=>cond (decide (DG (l.drop at_) 10 < 0)) none (PF l n (at_+(DG (l.drop at_) 10).toNat+1))
def LD (s:BA) (n:Int):Bool:=(PF s.data.toList n.toNat 0).isSome
def eO (s:BA) (n:Int):Nat:=(PF s.data.toList n.toNat 0).getD 0
def JE (s:BA) (n:Int):BA:=cond (LD s n) (s.extract 0 (eO s n)) D9
def S4 (s:BA) (n:Int):BA:=cond (LD s n) (s.extract (eO s n) s.size) D9
def bP:DV
 | [.str s,.int .i64 n]=>.br (decide (s.size < 4294967281)) (.ok (.tup [.str (JE s n),.str (S4 s n),.bool (LD s n)]) []) .no
 | _=>.no
def NT (s:BA):LI:=(D2 (GH s EJ) VZ).map IV.str
def LG (s:BA):Int:=
 cond (!((ML (NT s)).toList==I3.toList)||!(ic (NT s).length==3)) 1
  (cond (!(KU (DW (NT s) 2))||(decide (FJ (DW (NT s) 2) < 0)||decide (FJ (DW (NT s) 2) > 65536))) 1 (FO (1+FJ (DW (NT s) 2))))
def bQ:DV
 | [.str s]=>.br (decide (s.size < 4294967281)) (.ok (.int .i64 (LG s)) []) .no
 | _=>.no
abbrev TC:List Kd:=[.z,.list true [.bool,.z,.z],.z,.z,.z,.z,.z,.z]
def Vd.I (v:Vd):IV:=.agg [.int v.kind,.list v.proof,.int v.w0,.int v.w1,.int v.w2,.int v.w3,.int v.twin,.int v.spent]
def JY (x:IV):Vd:=⟨cI x 0,(x.cell 1).toList,cI x 2,cI x 3,cI x 4,cI x 5,cI x 6,cI x 7⟩
def J9 (s:BA) (i:Nat):BA:=GG s (HL i)
def QN (s:BA) (i:Nat):BA:=JE (J9 s i) (LG (JE (J9 s i) 1))
def aI (s:BA) (i:Nat):BA:=S4 (J9 s i) (LG (JE (J9 s i) 1))
def lJ (s:BA) (i:Nat):Bool:=OH s (HL i)&&(LD (J9 s i) 1&&(LD (J9 s i) (LG (JE (J9 s i) 1))&&QJ (QN s i)))
def TU:Nat→Nat→BA→LI→Option LI
 | 0,_,_,_=>none
 | n+1,i,s,out=>cond (s.toList==D9.toList) (some out) (cond (lJ s i) (TU n (i+1) (aI s i) (out++[(IB (QN s i)).I])) none)
def KD (s:BA):Option LI:=TU (s.size+1) 0 s []
def SK:DV
 | [.str s]=>.br (decide (s.size < 4294967281)) (.br (KD s).isSome (.ok (.tup [.list true TC ((KD s).getD []),.bool true]) []) (.ok (.tup [.list true TC [],.bool false]) [])) .no
 | _=>.no
def QO (s:BA) (i:Int):BA:=GG s (U6 i)
def PO (s:BA) (i:Int):BA:=JE (QO s i) (LG (JE (QO s i) 1))
def Iy (s:BA) (i:Int):BA:=S4 (QO s i) (LG (JE (QO s i) 1))
def O6 (m:Md) (l:BA) (v:Vd):Bool:=
 cond (NG m l) (cond (v.kind==3) (v.spent==(EZ l).bu)
   (cond (v.kind==1||v.kind==2) (decide (v.spent≥1)&&(decide (v.spent≤(EZ l).bu)&&IC m (EZ l) v)) false))
  (v.kind==4&&v.spent==0)
def bO:DV
 | [m,.str l,v]=>J1 m fun m=>vF v fun v=>.br (decide (l.size < 4294967281)) (.ok (.bool (O6 m l v)) []) .no
 | _=>.no
def UM (m:Md):LI→LI→Bool
 | [],_=>true
 | v :: r,ls=>O6 m (ls.getD 0 default).toStr (JY v)&&UM m r (ls.drop 1)
def aG (a b r:BA):Bool:=
 cond (K6 a) (match KD r with
  | some vs=>ic vs.length==ic (E6 b).length&&UM (FS a) vs (E6 b)
  | none=>false) (r.toList==Pw.toList)
def bN:DV
 | [.str a,.str b,.str r]=>.br (decide (a.size < 4294967281)&&(decide (b.size < 4294967281)&&decide (r.size < 4294967281))) (.ok (.bool (aG a b r)) []) .no
 | _=>.no
open Go Go.Proofs
theorem pH:∀ (l:List UInt8) (c:UInt8),-1≤DG l c∧DG l c < l.length
 | [],_=>⟨by show (-1:Int) ≤ -1; omega,by show (-1:Int) < 0; omega⟩
 | b :: l,c=>by
  have ih:=pH l c;unfold DG;rw [AM];split
  ·omega
  ·split
   ·omega
   ·omega
theorem ziz:DX PR B0 102 iM:=by
 intro w X γ vs xs r out hsp hg hx hR hV;unfold iM at hsp;simp only at hsp;split at hsp
 ·rename_i s c;simp only [R.get,AC,AU] at hsp;obtain ⟨rfl,rfl⟩:=hsp;obtain ⟨x0,x1,rfl⟩:∃ x0 x1,xs=[x0,x1]:=by
   have:=hV.length
   simp at this
   match xs,this with
   | [a,b],_=>exact ⟨a,b,rfl⟩
  simp only [A0,CA,ER,VRels,VRel,B7] at hV;obtain ⟨⟨rfl,hs⟩,rfl,_⟩:=hV;refine QQ hR rfl rfl (Does.of_calls Tryz.func102 (by kernel_rfl) (by kernel_rfl) ((Tryz.strings_IndexByte s c w).mono ?_));rintro e w' ⟨rfl,rfl⟩;refine ⟨_,rfl,Keep.refl _ _,fun O _=>?_⟩;simp only [VRel];have hb:=pH s.data.toList c.toNat.toUInt8;have hz:s.data.toList.length=s.size:=by rw [CK]; rfl
  have e1:AB.min = -9223372036854775808:=rfl;have e2:AB.max=9223372036854775807:=rfl;unfold strMax at hs;exact ⟨by first | rfl | trivial,by omega,by omega⟩
 ·simp [R.get] at hsp
open Go Go.Proofs
def Rz (N:Nat):Env:=D4 [(46,NF),(47,SS)] [] 8 N
theorem zei (N:Nat) (s:BA):DZ (Rz N) yH [.tmp 2] [[.list false [.str]]] [.str s]=(cond (AW s==AW {data:=#[]}) (some ((.list false [.str] []),[])) (cond (decide (AG (GH s {data:=#[10]}) < 4294967281)&&decide (1≤AG {data:=#[10]})) (some ((.list false [.str] (A3 IV.str (D2 (GH s {data:=#[10]}) {data:=#[10]}))),[])) none)):=by kernel_rfl
def Ry (N:Nat):Env:=D4 [(73,WG),(26,P2),(65,MQ),(35,SR)] [] 46 N
theorem zeh (N:Nat) (m:Md) (line:BA):DZ (Ry N) yG [.cell 4 55] [[.z,.list true [.bool,.z,.z],.z,.z,.z,.z,.z,.z]] [(Md.V m),.str line]=(cond (decide (AG line < 4294967281)) (cond (!NH line) (some ((.agg [.i 4,.list true EB [],.i 0,.i 0,.i 0,.i 0,.i 0,.i 0]),[])) (cond (MS line != Md.d m) (some ((.agg [.i 4,.list true EB [],.i 0,.i 0,.i 0,.i 0,.i 0,.i 0]),[])) (cond (!E8 m (EZ line)) (some ((.agg [.i 4,.list true EB [],.i 0,.i 0,.i 0,.i 0,.i 0,.i 0]),[])) (cond (Vd.kind (EC m (EZ line))==3) (some ((Vd.V (EC m (EZ line))),[])) (cond (IC m (EZ line) (EC m (EZ line))) (some ((Vd.V (EC m (EZ line))),[])) (some ((.agg [.i 4,.list true EB [],.i 0,.i 0,.i 0,.i 0,.i 0,.i 0]),[]))))))) none):=by kernel_rfl
def UE (N:Nat):Env:=D4 [(24,P1),(32,cS),(31,WQ),(43,O3),(56,UG),(60,UH),(19,ST)] [(6,⟨[4,5,7,18,19,20],[5,7],[]⟩)] 37 N
abbrev V7 (u00 s4:BA) (l18:LI) (x19 x20:Int) (so7:BA):St:=⟨[(4,(.str s4)),(5,(.ptr 5 0 0)),(7,(.ptr 7 0 0)),(18,(.list false [.str] l18)),(19,(.i x19)),(20,(.i x20))],[(5,(some (.box (Md.cs (FS u00))))),(7,(some (.bld so7)))]⟩
theorem zej (N:Nat) (u00 u01:BA):DZ (UE N) XA [.tmp 4] [[.str]] [.str u00,.str u01]=(cond (decide (AG u00 < 4294967281)) (cond (!K6 u00) (some ((.str ({data:=#[109,111,100,101,108,10]})),[])) (cond (decide (AG u01 < 4294967281)) (DY (UE N) (DK XA [1,1,1,1,0,1,0,0]) ⟨[4,5,7,18,19,20],[5,7],[]⟩ N (V7 u00 ({data:=#[]}) (E6 u01) (ic (AF (E6 u01))) 0 CI) (DQ 0 (DS (UE N) (DK XA [1,1,1,1,1]) (DT (UE N) none [.tmp 4] [[.str]])))) none)) none):=by kernel_rfl
theorem My (N:Nat) (u00 s4:BA) (l18:LI) (x19 x20:Int) (so7:BA) (again:St→DN) (k:Out→St→DN):E2 (UE N) (DK XA [1,1,1,1,0,1,0,0]) (V7 u00 s4 l18 x19 x20 so7) (EQ again ⟨[4,5,7,18,19,20],[5,7],[]⟩ k)=(cond (decide (x20 < x19)) (cond (decide (0≤x20)&&decide (x20 < ic (AF l18))) (cond (decide (AG {data:=#[113,117,101,114,121,32]}+AG (DP x20)≤strMax)) (cond (decide (AG ({data:=#[113,117,101,114,121,32]}++DP x20)+AG {data:=#[10]}≤strMax)) (cond (decide (AG so7+AG (U6 x20)≤strMax)) (cond (decide (AG (IV.toStr (AI l18 (AE x20) default)) < 4294967281)) (cond (decide (AG (EH (JD (FS u00) (IV.toStr (AI l18 (AE x20) default))))≤strMax)) (cond (decide (AG (so7++(U6 x20))+AG (EH (JD (FS u00) (IV.toStr (AI l18 (AE x20) default))))≤strMax)) (again (V7 u00 s4 l18 x19 (AA AB (x20+1)) (so7++(U6 x20)++EH (JD (FS u00) (IV.toStr (AI l18 (AE x20) default)))))) none) none) none) none) none) none) none) (k (.exit 0) (V7 u00 s4 l18 x19 x20 so7))):=by kernel_rfl
theorem Za (N:Nat) (u00 s4:BA) (l18:LI) (x19 x20:Int) (so7:BA):(DQ 0 (DS (UE N) (DK XA [1,1,1,1,1]) (DT (UE N) none [.tmp 4] [[.str]]))) (.exit 0) (V7 u00 s4 l18 x19 x20 so7)=(some ((.str so7),[])):=by kernel_rfl
def Q4 (N:Nat):Env:=D4 [(102,iM)] [(3,⟨[0,4,5,6,7,9,10],[],[]⟩)] 29 N
abbrev Q1 (s0 s4 s5:BA) (b6:Bool) (x7 x9 x10:Int):St:=⟨[(0,(.str s0)),(4,(.str s4)),(5,(.str s5)),(6,(.bool b6)),(7,(.i x7)),(9,(.i x9)),(10,(.i x10))],[]⟩
theorem zdx (N:Nat) (s:BA) (n:Int):DZ (Q4 N) US [.tmp 4,.tmp 5,.tmp 6] [[.str],[.str],[.bool]] [.str s,.i n]=(DY (Q4 N) (DK US [1,1,0,1,0,0]) ⟨[0,4,5,6,7,9,10],[],[]⟩ N (Q1 s ({data:=#[]}) ({data:=#[]}) false 0 n 0) (DQ 0 (DS (Q4 N) (DK US [1,1,1]) (DT (Q4 N) none [.tmp 4,.tmp 5,.tmp 6] [[.str],[.str],[.bool]])))):=by kernel_rfl
theorem ziR (N:Nat) (s0 s4 s5:BA) (b6:Bool) (x7 x9 x10:Int) (again:St→DN) (k:Out→St→DN):E2 (Q4 N) (DK US [1,1,0,1,0,0]) (Q1 s0 s4 s5 b6 x7 x9 x10) (EQ again ⟨[0,4,5,6,7,9,10],[],[]⟩ k)=(cond (decide (x10 < x9)) (cond (decide (0≤x7)&&decide (x7≤ic (AG s0))) (cond (decide (DG (Array.toList (ByteArray.data (vaM s0 (AE x7) (AG s0)))) (Nat.toUInt8 (AE 10)) < 0)) (k .ret (Q1 s0 ({data:=#[]}) ({data:=#[]}) false x7 x9 x10)) (again (Q1 s0 s4 s5 b6 (AA AB (x7+AA AB (DG (Array.toList (ByteArray.data (vaM s0 (AE x7) (AG s0)))) (Nat.toUInt8 (AE 10))+1))) x9 (AA AB (x10+1))))) none) (k (.exit 0) (Q1 s0 s4 s5 b6 x7 x9 x10))):=by kernel_rfl
theorem Xy (N:Nat) (s0 s4 s5:BA) (b6:Bool) (x7 x9 x10:Int):(DQ 0 (DS (Q4 N) (DK US [1,1,1]) (DT (Q4 N) none [.tmp 4,.tmp 5,.tmp 6] [[.str],[.str],[.bool]]))) (.exit 0) (Q1 s0 s4 s5 b6 x7 x9 x10)=(cond (decide (0≤x7)&&decide (x7≤ic (AG s0))) (cond (decide (0≤x7)&&decide (x7≤ic (AG s0))) (some ((.tup [.str (vaM s0 0 (AE x7)),.str (vaM s0 (AE x7) (AG s0)),.bool true]),[])) none) none):=by kernel_rfl
theorem Xz (N:Nat) (s0 s4 s5:BA) (b6:Bool) (x7 x9 x10:Int):(DQ 0 (DS (Q4 N) (DK US [1,1,1]) (DT (Q4 N) none [.tmp 4,.tmp 5,.tmp 6] [[.str],[.str],[.bool]]))) .ret (Q1 s0 s4 s5 b6 x7 x9 x10)=(some ((.tup [.str s4,.str s5,.bool b6]),[])):=by kernel_rfl
def Qp (N:Nat):Env:=D4 [(90,RC),(46,NF),(47,SS)] [] 37 N
theorem zdy (N:Nat) (u00:BA):DZ (Qp N) xA [.tmp 2] [[.z]] [.str u00]=(cond (decide (AG (GH u00 {data:=#[10]}) < 4294967281)&&decide (1≤AG {data:=#[32]})) (cond (decide (0≤0)&&decide (0 < ic (AF (A3 IV.str (D2 (GH u00 {data:=#[10]}) {data:=#[32]}))))) (cond (!AW (IV.toStr (AI (A3 IV.str (D2 (GH u00 {data:=#[10]}) {data:=#[32]})) (AE 0) default))==AW {data:=#[104,111,108,100,115]}) (some ((.i 1),[])) (cond (ic (AF (A3 IV.str (D2 (GH u00 {data:=#[10]}) {data:=#[32]}))) != 3) (some ((.i 1),[])) (cond (decide (0≤2)&&decide (2 < ic (AF (A3 IV.str (D2 (GH u00 {data:=#[10]}) {data:=#[32]}))))) (cond (!KU (IV.toStr (AI (A3 IV.str (D2 (GH u00 {data:=#[10]}) {data:=#[32]})) (AE 2) default))) (some ((.i 1),[])) (cond (decide (FJ (IV.toStr (AI (A3 IV.str (D2 (GH u00 {data:=#[10]}) {data:=#[32]})) (AE 2) default)) < 0)) (some ((.i 1),[])) (cond (decide (FJ (IV.toStr (AI (A3 IV.str (D2 (GH u00 {data:=#[10]}) {data:=#[32]})) (AE 2) default)) > 65536)) (some ((.i 1),[])) (some ((.i (AA AB (1+FJ (IV.toStr (AI (A3 IV.str (D2 (GH u00 {data:=#[10]}) {data:=#[32]})) (AE 2) default))))),[]))))) none))) none) none):=by kernel_rfl
def Qo (N:Nat):Env:=D4 [(73,WG),(26,P2),(65,MQ)] [] 66 N
theorem zdw (N:Nat) (m:Md) (a1:BA) (a2:Vd):DZ (Qo N) w9 [.tmp 6] [[.bool]] [(Md.V m),.str a1,(Vd.V a2)]=(cond (decide (AG a1 < 4294967281)) (cond (!NH a1) (cond (Vd.kind a2==4) (some ((.bool (Vd.spent a2==0)),[])) (some ((.bool false),[]))) (cond (MS a1 != Md.d m) (cond (Vd.kind a2==4) (some ((.bool (Vd.spent a2==0)),[])) (some ((.bool false),[]))) (cond (!E8 m (EZ a1)) (cond (Vd.kind a2==4) (some ((.bool (Vd.spent a2==0)),[])) (some ((.bool false),[]))) (cond (Vd.kind a2==3) (some ((.bool (Vd.spent a2==Qy.bu (EZ a1))),[])) (cond (Vd.kind a2==1) (cond (decide (Vd.spent a2≥1)) (cond (decide (Vd.spent a2≤Qy.bu (EZ a1))) (some ((.bool (IC m (EZ a1) a2)),[])) (some ((.bool false),[]))) (some ((.bool false),[]))) (cond (Vd.kind a2==2) (cond (decide (Vd.spent a2≥1)) (cond (decide (Vd.spent a2≤Qy.bu (EZ a1))) (some ((.bool (IC m (EZ a1) a2)),[])) (some ((.bool false),[]))) (some ((.bool false),[]))) (some ((.bool false),[])))))))) none):=by kernel_rfl
open Go
theorem eC {s t:BA} (h:s.data.toList=t.data.toList):s=t:=ByteArray.ext (Array.ext' h)
theorem ZD (s t:BA):(s.toList==t.toList)=decide (s=t):=by
 rw [Lib.toList_data,Lib.toList_data];by_cases h:s=t
 ·subst h; simp
 ·rw [AL h,A5];exact fun e=>h (eC e)
theorem TQ (s:BA):s.size=s.data.toList.length:=by rw [CK]; rfl
theorem oK (u:Nat):∀ c∈BU u,48≤c.toNat∧c.toNat≤57:=by
 induction u using vbr with
 | _ u ih=>
  intro c hc;rw [BU] at hc;split at hc
  ·rename_i h;simp only [BL] at hc;subst hc;rw [vaa (by simp [vbo]; omega)];omega
  ·rename_i h;rw [AX,BL] at hc;rcases hc with hc | hc
   ·exact ih (u / 10) (by omega) c hc
   ·subst hc;rw [vaa (by simp [vbo]; omega)];omega
theorem An (u:Nat):BU u≠[]:=by
 rw [BU];split <;> simp
theorem zcC (n:Int):∀ c∈vaj n,c.toNat=45∨(48≤c.toNat∧c.toNat≤57):=by
 intro c hc;unfold vaj at hc;split at hc
 ·rcases AO.1 hc with h | h
  ·subst h; exact .inl rfl
  ·exact .inr (oK _ c h)
 ·exact .inr (oK _ c hc)
theorem Cu (n:Int) (c:UInt8) (hc:c.toNat < 45):c ∉ vaj n:=by
 intro h;rcases zcC n c h with h1 | h1 <;> omega
theorem zf0 (u:Nat):∀ (acc:Nat) (r:List UInt8),acc*10 ^ (BU u).length+u < 18446744073709551616 →
  vaP acc (BU u++r)=vaP (acc*10 ^ (BU u).length+u) r:=by
 induction u using vbr with
 | _ u ih=>
  intro acc r hlt;rw [BU] at hlt ⊢;split at hlt
  ·rename_i h;rw [dif_pos h];simp only [C3,Nat.pow_one,List.singleton_append] at hlt ⊢;have hc:(UInt8.ofNat (48+u)).toNat=48+u:=vaa (by simp [vbo]; omega);rw [vaP,hc,BP (by omega),BD (by omega),BD (by omega)];congr 1;omega
  ·rename_i h;rw [dif_neg h];simp only [AT,C3,Nat.pow_succ,vaH,List.singleton_append] at hlt ⊢;have ea:acc*(10 ^ (BU (u / 10)).length*10)=acc*10 ^ (BU (u / 10)).length*10:=by rw [Nat.mul_assoc]
   rw [ea] at hlt ⊢;rw [ih (u / 10) (by omega) acc _ (by omega)];have hc:(UInt8.ofNat (48+u % 10)).toNat=48+u % 10:=vaa (by simp [vbo]; omega);rw [vaP,hc,BP (by omega),BD (by omega),BD (by omega)];congr 1;omega
theorem Gq (u:Nat) (h:u < 18446744073709551616):Lib.parseMag (BU u) = .ok u:=by
 unfold Lib.parseMag;rw [BD (An u)]
 have:=zf0 u 0 [] (by omega)
 rw [DB] at this;rw [this,Nat.zero_mul,BI];rfl
theorem wF (n:Int) (h0 : -9223372036854775808≤n) (h1:n≤9223372036854775807):vbj (vaj n) = .ok n:=by
 unfold vaj;split
 ·rename_i hn;unfold vbj;have e:(45:UInt8).toNat=45:=rfl;simp only [e,or_true,CP,Gq n.natAbs (by omega),vba,false_and,if_false,vaz];rw [BD (by omega)];congr 1;omega
 ·rename_i hn;obtain ⟨c,r,hl⟩:∃ c r,BU n.toNat=c :: r:=by
   cases h:BU n.toNat with
   | nil=>exact absurd h (An _)
   | cons c r=>exact ⟨c,r,rfl⟩
  have hc:=oK n.toNat c (by rw [hl]; exact AN ..);have hm:=Gq n.toNat (by omega);rw [hl] at hm ⊢;unfold vbj;have e1:¬ c.toNat=43:=by omega
  have e2:¬ c.toNat=45:=by omega
  simp only [e1,e2,or_self,if_false,hm,false_and,not_false_eq_true,vaz];rw [BD (by omega)];congr 1;omega
theorem wD {s:BA} {n:Int} (h:s.data.toList=vaj n) (h0 : -9223372036854775808≤n) (h1:n≤9223372036854775807):FJ s=n:=by
 unfold FJ;rw [h,wF n h0 h1]
theorem jZ:∀ (w r:List UInt8) (c:UInt8),c ∉ w→DG (w++c :: r) c=w.length
 | [],r,c,_=>by simp [DG]
 | b :: w,r,c,h=>by
  simp only [AO,not_or] at h;have e:(b==c)=false:=A5.2 (fun e=>h.1 e.symm);have e2:((w.length:Int) == -1)=false:=by rw [A5]; omega
  simp only [CT,DG,e,jZ w r c h.2,e2,AM];simp
theorem Wp (w r:List UInt8) (c:UInt8) (h:c ∉ w):vaO (w++c :: r) [c]=(w,r,true):=by
 unfold vaO;rw [Lib.index_one,jZ w r c h,BP (by omega)];simp
theorem ziG (w r:List UInt8) (c:UInt8) (h:c ∉ w):vav (w++c :: r) [c]=w :: vav r [c]:=by
 unfold vav;have ec:Lib.count (w++c :: r) [c]=Lib.count r [c]+1:=by
  rw [vbv,vbv,List.count_append,va8 h,List.count_cons_self,BI]
 rw [ec,Lib.splitK,Lib.index_one,jZ w r c h];have e2:((w.length:Int) == -1)=false:=by rw [A5]; omega
 rw [e2];simp
theorem ziH (w:List UInt8) (c:UInt8) (h:c ∉ w):vav w [c]=[w]:=by
 unfold vav;rw [vbv,va8 h];rfl
def HZ (w:List UInt8) (l:List Int):List UInt8:=w++l.flatMap fun n=>32 :: vaj n
theorem zc9 (w:List UInt8) (n:Int) (l:List Int):HZ w (n :: l)=w++32 :: HZ (vaj n) l:=by simp [HZ]
theorem XR (c:UInt8) (hc:c.toNat < 32) {w:List UInt8} (hw:c ∉ w) (l:List Int):c ∉ HZ w l:=by
 unfold HZ;rw [AX,List.mem_flatMap];rintro (h | ⟨n,_,h⟩)
 ·exact hw h
 ·rcases AO.1 h with e | e
  ·subst e
   have:(32:UInt8).toNat=32:=rfl
   omega
  ·exact Cu n c (by omega) e
theorem uC:∀ (l:List Int) (w:List UInt8),(32:UInt8) ∉ w→vav (HZ w l) [32]=w :: l.map vaj
 | [],w,h=>by simp only [HZ,List.flatMap_nil,DB,CA]; exact ziH w 32 h
 | n :: l,w,h=>by
  rw [zc9,ziG w _ 32 h,uC l (vaj n) (Cu n 32 (by decide))];rfl
theorem tZ (s sep:BA):(D2 s sep).map (·.data.toList)=vav s.data.toList sep.data.toList:=by
 unfold D2 vav;rw [Lib.splitB_data]
open Go
theorem XE (s t:BA):(s++t).data.toList=s.data.toList++t.data.toList:=by simp
theorem Am (s:BA) (c:UInt8):(s.push c).data.toList=s.data.toList++[c]:=by simp [ByteArray.push]
theorem zcz (n:Int):(DP n).data.toList=vaj n:=rfl
theorem Fq:∀ (l:LI) (s:BA),(M1 s l).data.toList=s.data.toList++(l.map IV.toInt).flatMap fun n=>32 :: vaj n
 | [],s=>by simp [M1]
 | x :: l,s=>by
  rw [M1,Fq l,XE,Am,zcz];simp
theorem QF (s w:BA) (l:LI):(GO s w l).data.toList=s.data.toList++(HZ w.data.toList (l.map IV.toInt)++[10]):=by
 unfold GO HZ;rw [Am,Fq,XE];simp
def VR (x:IV):List UInt8:=cond (GZ x) (HZ R8.data.toList []) (HZ YM.data.toList [FD x,FR x])
def N1:LI→List UInt8
 | []=>[]
 | x :: l=>VR x++10 :: N1 l
theorem rX:∀ (l:LI) (s:BA),(K1 s l).data.toList=s.data.toList++N1 l
 | [],s=>by simp [K1,N1]
 | x :: l,s=>by
  rw [K1,rX l,N1];unfold VR;cases GZ x
  ·simp only [BC];rw [QF];simp [IV.toInt]
  ·simp only [BJ];rw [QF];simp
def G7 (n:Int):Prop := -9223372036854775808≤n∧n≤9223372036854775807
def NZ (x:IV):Prop:=G7 (FD x)∧G7 (FR x)
structure Vd.rng (v:Vd):Prop where
 w0:G7 v.w0
 w1:G7 v.w1
 w2:G7 v.w2
 w3:G7 v.w3
 twin:G7 v.twin
 spent:G7 v.spent
 proof:∀ x∈v.proof,NZ x
theorem Fs:∀ (l:LI) (s:BA),(∀ x∈l,G7 x.toInt)→(M1 s l).size≤s.size+22*l.length
 | [],s,_=>AZ _
 | x :: l,s,h=>by
  rw [M1];refine C2 (Fs l _ (fun y hy=>h y (AY _ hy))) ?_;have hx:=h x (AN ..)
  have:=ZW (n:=x.toInt) hx.1 hx.2
  rw [AV,va2,AM];omega
theorem Z1 (s w:BA) (l:LI) (h:∀ x∈l,G7 x.toInt):(GO s w l).size≤s.size+w.size+22*l.length+1:=by
 unfold GO
 have:=Fs l (s++w) h
 rw [AV] at this;rw [va2];omega
theorem Hc:∀ (l:LI) (s:BA),(∀ x∈l,NZ x)→(K1 s l).size≤s.size+48*l.length
 | [],s,_=>AZ _
 | x :: l,s,h=>by
  rw [K1];refine C2 (Hc l _ (fun y hy=>h y (AY _ hy))) ?_;have hx:=h x (AN ..);rw [AM];cases GZ x
  ·have:=Z1 s YM [.int (FD x),.int (FR x)] (fun y hy=>by
    simp only [AO,List.mem_nil_iff,CO] at hy;rcases hy with rfl | rfl
    ·exact hx.1
    ·exact hx.2)
   have e:YM.size=3:=rfl;simp only [BC,AM,A7] at this ⊢;omega
  ·have:=Z1 s R8 [] (fun y hy=>by cases hy)
   have e:R8.size=3:=rfl;simp only [BJ,A7] at this ⊢;omega
open Go
theorem sU {v:Vd} (h:v.right=true):v.proof.length≤65536:=by
 unfold Vd.right at h;simp only [AH,van] at h;rcases h.2.2 with h1 | h1 | h1
 ·have:=h1.2.2
  unfold N0 at this;simp only [AH,AQ] at this;exact this.2.1
 ·have:=h1.2
  cases hp:v.proof with
  | nil=>simp
  | cons a b=>rw [hp] at this; cases this
 ·have:=h1.2.2
  cases hp:v.proof with
  | nil=>simp
  | cons a b=>rw [hp] at this; cases this
theorem pI {l:List Int} (h:∀ n∈l,G7 n):∀ x∈l.map IV.int,G7 x.toInt:=by
 intro x hx;obtain ⟨n,hn,rfl⟩:=CJ.1 hx;exact h n hn
theorem Dm {n:Nat} (h:n≤65536):G7 (ic n):=by unfold G7 ic; omega
theorem gB {v:Vd} (hr:v.rng):(EH v).size≤4000000:=by
 unfold EH;cases h:v.right with
 | false=>simp only [BC]; decide
 | true=>
  simp only [BJ];have hp:=sU h;cases v.kind==1 with
  | true=>
   simp only [BJ];have h1:=Hc v.proof (GO D9 I3 [.int v.spent,.int (ic v.proof.length)]) hr.proof;have h2:=Z1 D9 I3 [.int v.spent,.int (ic v.proof.length)] (pI (l:=[v.spent,ic v.proof.length]) (by
    intro n hn;simp only [AO,List.mem_nil_iff,CO] at hn;rcases hn with rfl | rfl
    ·exact hr.spent
    ·exact Dm hp))
   have e1:D9.size=0:=rfl;have e2:I3.size=5:=rfl;simp only [AM,A7] at h2;omega
  | false=>
   simp only [BC];cases v.kind==2 with
   | true=>
    simp only [BJ];have h2:=Z1 D9 QW [.int v.spent,.int v.w0,.int v.w1,.int v.w2,.int v.w3,.int v.twin] (pI (l:=[v.spent,v.w0,v.w1,v.w2,v.w3,v.twin]) (by
     intro n hn;simp only [AO,List.mem_nil_iff,CO] at hn;rcases hn with rfl | rfl | rfl | rfl | rfl | rfl
     ·exact hr.spent
     ·exact hr.w0
     ·exact hr.w1
     ·exact hr.w2
     ·exact hr.w3
     ·exact hr.twin))
    have e1:D9.size=0:=rfl;have e2:QW.size=5:=rfl;simp only [AM,A7] at h2;omega
   | false=>
    simp only [BC];have hs:∀ x∈[IV.int v.spent],G7 x.toInt:=pI (l:=[v.spent]) (by
     intro n hn;simp only [AO,List.mem_nil_iff,CO] at hn;subst hn;exact hr.spent)
    have e1:D9.size=0:=rfl;cases v.kind==3 with
    | true=>
     simp only [BJ];have h2:=Z1 D9 QX [.int v.spent] hs;have e2:QX.size=7:=rfl;simp only [AM,A7] at h2;omega
    | false=>
     simp only [BC];have h2:=Z1 D9 QY [.int v.spent] hs;have e2:QY.size=5:=rfl;simp only [AM,A7] at h2;omega
theorem PM (l:LI) (i:Int):G7 (GK l i):=by
 unfold GK;cases decide (ic l.length≤i) with
 | true=>simp only [BJ]; unfold G7; omega
 | false=>
  simp only [BC]
  have:=wB (l.getD i.toNat default).toStr
  exact this
theorem F5:G7 0:=⟨by decide,by decide⟩
theorem zgA (s:BA):NZ (aE s):=by
 unfold aE;cases ((ML (II s)).toList==R8.toList) with
 | true=>exact ⟨F5,F5⟩
 | false=>exact ⟨PM _ _,PM _ _⟩
theorem Ia:∀ (m:Nat) (s:BA) (p:LI),(∀ x∈p,NZ x)→∀ x∈TL m s p,NZ x
 | 0,_,_,h=>h
 | m+1,s,p,h=>by
  unfold TL;cases (!(s.toList==D9.toList)&&decide (p.length≤65536)) with
  | false=>exact h
  | true=>
   simp only [BJ];refine Ia m _ _ (fun x hx=>?_);rcases AX.1 hx with h1 | h1
   ·exact h x h1
   ·rw [BL.1 h1];exact zgA s
theorem Ic (s:BA):(HT s).rng:=by
 unfold HT;cases ((ML (II s)).toList==I3.toList) with
 | true=>exact ⟨F5,F5,F5,F5,F5,PM _ _,Ia _ _ _ (fun x hx=>by cases hx)⟩
 | false=>
  cases ((ML (II s)).toList==QW.toList) with
  | true=>exact ⟨PM _ _,PM _ _,PM _ _,PM _ _,PM _ _,PM _ _,fun x hx=>by cases hx⟩
  | false=>
   cases ((ML (II s)).toList==QX.toList) with
   | true=>exact ⟨F5,F5,F5,F5,F5,PM _ _,fun x hx=>by cases hx⟩
   | false=>
    cases ((ML (II s)).toList==QY.toList) with
    | true=>exact ⟨F5,F5,F5,F5,F5,PM _ _,fun x hx=>by cases hx⟩
    | false=>exact ⟨F5,F5,F5,F5,F5,PM _ _,fun x hx=>by cases hx⟩
theorem Wj (s sep:BA):(cutL s sep).data.toList=(vaO s.data.toList sep.data.toList).1:=rfl
theorem Wk (s sep:BA):(FU s sep).data.toList=(vaO s.data.toList sep.data.toList).2.1:=rfl
theorem ZR {s:BA} {w r:List UInt8} {l:List Int} (h:s.data.toList=HZ w l++10 :: r) (h32:(32:UInt8) ∉ w) (h10:(10:UInt8) ∉ w) :
  (II s).map (fun x=>x.toStr.data.toList)=w :: l.map vaj∧(FU s EJ).data.toList=r:=by
 have hc:vaO s.data.toList EJ.data.toList=(HZ w l,r,true):=by
  rw [h];exact Wp _ r 10 (XR 10 (by decide) h10 l)
 constructor
 ·unfold II;rw [vaY]
  have:((fun x=>x.toStr.data.toList) ∘ IV.str)=fun b:BA=>b.data.toList:=rfl
  rw [this,tZ,Wj,hc];exact uC l w h32
 ·rw [Wk,hc]
theorem N5 {L:LI} {w:List UInt8} {ws:List (List UInt8)} (h:L.map (fun x=>x.toStr.data.toList)=w :: ws) (t:BA):((ML L).toList==t.toList)=(w==t.data.toList):=by
 cases L with
 | nil=>cases h
 | cons x L=>
  simp only [A0,vas] at h;unfold ML;rw [Lib.toList_data,Lib.toList_data];simp only [List.getD_cons_zero];rw [h.1]
theorem QG {L:LI} {ws:List (List UInt8)} (h:L.map (fun x=>x.toStr.data.toList)=ws) (i:Nat) {n:Int} (hi:ws[i]?=some (vaj n)) (hn:G7 n):GK L (i:Int)=n:=by
 subst h;rw [B9] at hi;cases hx:L[i]? with
 | none=>rw [hx] at hi; cases hi
 | some x=>
  rw [hx] at hi;simp only [vat,AC] at hi;have hl:=(BR.1 hx).1;unfold GK;rw [AL (show ¬ ic L.length≤(i:Int) by simp only [ic]; omega)];simp only [BC]
  have:(L.getD (i:Int).toNat default)=x:=by
   rw [BF,BV,hx];rfl
  rw [this];exact wD hi hn.1 hn.2
def ZH (x:IV):IV:=cond (GZ x) (RR true 0 0) (RR false (FD x) (FR x))
theorem Vs {x:IV} (h:PU x=true):TS (ZH x) x=true:=by
 unfold ZH;unfold PU at h;unfold TS;cases hs:GZ x with
 | true=>
  rw [hs] at h;simp only [A6,AH,Bool.not_not,B8] at h;have e1:GZ (RR true 0 0)=true:=rfl;have e2:FD (RR true 0 0)=0:=rfl;have e3:FR (RR true 0 0)=0:=rfl;simp only [BJ,e1,e2,e3,h.1.1,h.1.2];rfl
 | false=>
  have e1:GZ (RR false (FD x) (FR x))=false:=rfl;have e2:FD (RR false (FD x) (FR x))=FD x:=rfl;have e3:FR (RR false (FD x) (FR x))=FR x:=rfl;simp only [BC,e1,e2,e3,CY,B3]
theorem zN:∀ {l:LI},l.all PU=true→FH (l.map ZH) l=true
 | [],_=>rfl
 | x :: l,h=>by
  simp only [vax,AH] at h;simp only [A0,FH,Vs h.1,zN h.2,B3]
theorem Fm {s:BA}:(s.toList==D9.toList)=s.data.toList.isEmpty:=by
 rw [ZD];cases h:s.data.toList with
 | nil=>
  have:s=D9:=eC (h.trans rfl)
  rw [AD this];rfl
 | cons a l=>
  rw [AL (fun e=>by rw [e] at h; cases h)];rfl
theorem Ib:∀ (l:LI) (m:Nat) (s:BA) (p:LI),s.data.toList=N1 l→l.length < m→p.length+l.length≤65536→(∀ x∈l,NZ x)→TL m s p=p++l.map ZH
 | [],m+1,s,p,hs,_,_,_=>by
  unfold TL;rw [Fm,hs];simp [N1]
 | x :: l,m+1,s,p,hs,hm,hp,hx=>by
  have hne:(s.toList==D9.toList)=false:=by
   rw [Fm,hs,N1];simp
  unfold TL;simp only [AM] at hm hp;rw [hne,AD (show p.length≤65536 by omega)];simp only [A8,B3,BJ];have hr:=hx x (AN ..);have key:aE s=ZH x∧(FU s EJ).data.toList=N1 l:=by
   rw [N1] at hs;unfold VR at hs;unfold ZH aE;cases hc:GZ x with
   | true=>
    rw [hc] at hs;simp only [BJ] at hs ⊢;obtain ⟨h1,h2⟩:=ZR hs (by decide) (by decide);refine ⟨?_,h2⟩;rw [N5 h1];simp only [CY,BJ]
   | false=>
    rw [hc] at hs;simp only [BC] at hs ⊢;obtain ⟨h1,h2⟩:=ZR hs (by decide) (by decide);refine ⟨?_,h2⟩;rw [N5 h1];have e:(YM.data.toList==R8.data.toList)=false:=by decide
    rw [e];simp only [BC];have n1:=QG h1 1 (n:=FD x) rfl hr.1;have n2:=QG h1 2 (n:=FR x) rfl hr.2;have c1:((1:Nat):Int)=1:=rfl;have c2:((2:Nat):Int)=2:=rfl;rw [c1] at n1;rw [c2] at n2;rw [n1,n2]
  rw [key.1,Ib l m _ _ key.2 (by omega) (by simp only [AT,C3]; omega) (fun y hy=>hx y (AY _ hy))];simp
 | [],0,_,_,_,h,_,_=>by omega
 | _ :: _,0,_,_,_,h,_,_=>by simp at h
open Go
theorem ziO (x:IV):TS x x=true:=by simp [TS]
theorem R6 {x y:IV}:TS x y=true↔GZ x=GZ y∧FD x=FD y∧FR x=FR y:=by simp [TS]
theorem Jn:∀ l:LI,FH l l=true
 | []=>rfl
 | x :: l=>by simp [FH,ziO,Jn l]
theorem Jo:∀ {l m:LI},FH l m=true→FH m l=true
 | [],[],_=>rfl
 | [],_ :: _,h=>by simp [FH] at h
 | _ :: _,[],h=>by simp [FH] at h
 | x :: l,y :: m,h=>by
  simp only [FH,AH] at h ⊢;obtain ⟨h1,h2,h3⟩:=R6.1 h.1;exact ⟨R6.2 ⟨h1.symm,h2.symm,h3.symm⟩,Jo h.2⟩
theorem Jp:∀ {l m n:LI},FH l m=true→FH m n=true→FH l n=true
 | [],[],[],_,_=>rfl
 | [],[],_ :: _,_,h=>by simp [FH] at h
 | [],_ :: _,_,h,_=>by simp [FH] at h
 | _ :: _,[],_,h,_=>by simp [FH] at h
 | _ :: _,_ :: _,[],_,h=>by simp [FH] at h
 | x :: l,y :: m,z :: n,h,k=>by
  simp only [FH,AH] at h k ⊢;obtain ⟨h1,h2,h3⟩:=R6.1 h.1;obtain ⟨k1,k2,k3⟩:=R6.1 k.1;exact ⟨R6.2 ⟨h1.trans k1,h2.trans k2,h3.trans k3⟩,Jp h.2 k.2⟩
structure VSame (a b:Vd):Prop where
 kind:a.kind=b.kind
 proof:FH a.proof b.proof=true
 w0:a.w0=b.w0
 w1:a.w1=b.w1
 w2:a.w2=b.w2
 w3:a.w3=b.w3
 twin:a.twin=b.twin
 spent:a.spent=b.spent
theorem u6 {a b:Vd}:YK a b=true↔VSame a b:=by
 unfold YK;simp only [AH,B8];exact ⟨fun ⟨h1,h2,h3,h4,h5,h6,h7,h8⟩=>⟨h1,h2,h3,h4,h5,h6,h7,h8⟩,fun ⟨h1,h2,h3,h4,h5,h6,h7,h8⟩=>⟨h1,h2,h3,h4,h5,h6,h7,h8⟩⟩
theorem VSame.rfl' (a:Vd):VSame a a:=⟨rfl,Jn _,rfl,rfl,rfl,rfl,rfl,rfl⟩
theorem VSame.symm {a b:Vd} (h:VSame a b):VSame b a:=⟨h.kind.symm,Jo h.proof,h.w0.symm,h.w1.symm,h.w2.symm,h.w3.symm,h.twin.symm,h.spent.symm⟩
theorem VSame.trans {a b c:Vd} (h:VSame a b) (k:VSame b c):VSame a c:=⟨h.kind.trans k.kind,Jp h.proof k.proof,h.w0.trans k.w0,h.w1.trans k.w1,h.w2.trans k.w2,h.w3.trans k.w3,h.twin.trans k.twin,h.spent.trans k.spent⟩
theorem lN:∀ {l m:LI},FH l m=true→l.length=m.length
 | [],[],_=>rfl
 | [],_ :: _,h=>by simp [FH] at h
 | _ :: _,[],h=>by simp [FH] at h
 | _ :: l,_ :: m,h=>by
  simp only [FH,AH] at h;simp only [AM,lN h.2]
theorem Ji:∀ {l m:LI},FH l m=true→l.all PU=m.all PU
 | [],[],_=>rfl
 | [],_ :: _,h=>by simp [FH] at h
 | _ :: _,[],h=>by simp [FH] at h
 | x :: l,y :: m,h=>by
  simp only [FH,AH] at h;obtain ⟨h1,h2,h3⟩:=R6.1 h.1;simp only [vax,Ji h.2];unfold PU;rw [h1,h2,h3]
theorem Jl:∀ {l m:LI} (s:BA),FH l m=true→K1 s l=K1 s m
 | [],[],_,_=>rfl
 | [],_ :: _,_,h=>by simp [FH] at h
 | _ :: _,[],_,h=>by simp [FH] at h
 | x :: l,y :: m,s,h=>by
  simp only [FH,AH] at h;obtain ⟨h1,h2,h3⟩:=R6.1 h.1;simp only [K1,h1,h2,h3];exact Jl _ h.2
theorem zhb {l m:LI} (h:FH l m=true):l.isEmpty=m.isEmpty:=by
 cases l <;> cases m <;> first | rfl | (simp [FH] at h)
theorem zgT {a b:Vd} (h:VSame a b):a.right=b.right:=by
 unfold Vd.right Vd.bare N0;rw [h.kind,h.w0,h.w1,h.w2,h.w3,h.twin,h.spent,lN h.proof,Ji h.proof,zhb h.proof]
theorem Hh {a b:Vd} (h:VSame a b):EH a=EH b:=by
 unfold EH;rw [zgT h,h.kind,h.w0,h.w1,h.w2,h.w3,h.twin,h.spent,lN h.proof,Jl _ h.proof]
theorem zgc {v:Vd} (h:v.right=false):EH v=D9:=by
 unfold EH;rw [h];rfl
theorem kM (s w:BA) (l:LI):0 < (GO s w l).size:=by
 unfold GO;rw [va2];omega
theorem Hb:∀ (l:LI) (s:BA),s.size≤(K1 s l).size
 | [],s=>AZ _
 | x :: l,s=>by
  rw [K1];refine C2 ?_ (Hb l _);have key:∀ w k,s.size≤(GO s w k).size:=fun w k=>by
   rw [TQ,TQ,QF,AT];omega
  cases GZ x
  ·exact key _ _
  ·exact key _ _
theorem zgb {v:Vd} (h:v.right=true):0 < (EH v).size:=by
 unfold EH;rw [h];simp only [BJ];cases v.kind==1 with
 | true=>simp only [BJ]; exact CW (kM _ _ _) (Hb _ _)
 | false=>
  simp only [BC];cases v.kind==2 with
  | true=>exact kM _ _ _
  | false=>
   simp only [BC];cases v.kind==3 with
   | true=>exact kM _ _ _
   | false=>exact kM _ _ _
theorem Nv:∀ l:LI,l.length≤(N1 l).length
 | []=>AZ _
 | x :: l=>by
  have:=Nv l
  simp only [N1,AT,AM];omega
theorem d9 {v:Vd} (h:v.bare=true):v.w0=0∧v.w1=0∧v.w2=0∧v.w3=0∧v.twin=0:=by
 unfold Vd.bare at h;simpa using h
theorem sJ {v:Vd} (hr:v.right=true) (hv:v.rng):VSame (HT (EH v)) v:=by
 have hlen:=sU hr;have hr':=hr;unfold Vd.right at hr;simp only [AH,van,B8] at hr;have c1:((1:Nat):Int)=1:=rfl;have c2:((2:Nat):Int)=2:=rfl;have c3:((3:Nat):Int)=3:=rfl;have c4:((4:Nat):Int)=4:=rfl;have c5:((5:Nat):Int)=5:=rfl;have c6:((6:Nat):Int)=6:=rfl;rcases hr.2.2 with ⟨hk,hb,hs⟩ | ⟨hk,he⟩ | ⟨hk,hb,he⟩
 ·have hd:(EH v).data.toList=HZ I3.data.toList [v.spent,ic v.proof.length]++10 :: N1 v.proof:=by
   unfold EH;rw [hr',hk];have e1:((1:Int)==1)=true:=rfl;simp only [BJ,e1];rw [rX,QF];simp [IV.toInt]
  obtain ⟨h1,h2⟩:=ZR hd (by decide) (by decide);have n1:=QG h1 1 (n:=v.spent) rfl hv.spent;rw [c1] at n1;have hst:N0 v.proof=true:=hs;unfold N0 at hs;simp only [AH,AQ] at hs;have hread:=Ib v.proof ((FU (EH v) EJ).size+1) _ [] h2 (by
   have:=Nv v.proof
   rw [← h2,← TQ] at this;omega) (by simp only [A7]; omega) hv.proof
  unfold HT;rw [N5 h1];simp only [CY,BJ];obtain ⟨b0,b1,b2,b3,b4⟩:=d9 hb;refine ⟨hk.symm,?_,b0.symm,b1.symm,b2.symm,b3.symm,b4.symm,n1⟩;simp only;rw [hread,C5];exact zN hs.2.2
 ·have hp:v.proof=[]:=List.isEmpty_iff.1 he;have hd:(EH v).data.toList=HZ QW.data.toList [v.spent,v.w0,v.w1,v.w2,v.w3,v.twin]++10 :: []:=by
   unfold EH;rw [hr',hk];have e1:((2:Int)==1)=false:=rfl;have e2:((2:Int)==2)=true:=rfl;simp only [BJ,BC,e1,e2];rw [QF];simp [IV.toInt]
  obtain ⟨h1,_⟩:=ZR hd (by decide) (by decide);have n1:=QG h1 1 (n:=v.spent) rfl hv.spent;have n2:=QG h1 2 (n:=v.w0) rfl hv.w0;have n3:=QG h1 3 (n:=v.w1) rfl hv.w1;have n4:=QG h1 4 (n:=v.w2) rfl hv.w2;have n5:=QG h1 5 (n:=v.w3) rfl hv.w3;have n6:=QG h1 6 (n:=v.twin) rfl hv.twin;rw [c1] at n1;rw [c2] at n2;rw [c3] at n3;rw [c4] at n4;rw [c5] at n5;rw [c6] at n6;unfold HT;rw [N5 h1,N5 h1];have e1:(QW.data.toList==I3.data.toList)=false:=by decide
  simp only [e1,BC,CY,BJ];exact ⟨hk.symm,by rw [hp]; rfl,n2,n3,n4,n5,n6,n1⟩
 ·have hp:v.proof=[]:=List.isEmpty_iff.1 he;obtain ⟨b0,b1,b2,b3,b4⟩:=d9 hb;rcases hk with hk | hk
  ·have hd:(EH v).data.toList=HZ QX.data.toList [v.spent]++10 :: []:=by
    unfold EH;rw [hr',hk];have e1:((3:Int)==1)=false:=rfl;have e2:((3:Int)==2)=false:=rfl;have e3:((3:Int)==3)=true:=rfl;simp only [BJ,BC,e1,e2,e3];rw [QF];simp [IV.toInt]
   obtain ⟨h1,_⟩:=ZR hd (by decide) (by decide);have n1:=QG h1 1 (n:=v.spent) rfl hv.spent;rw [c1] at n1;unfold HT;rw [N5 h1,N5 h1,N5 h1];have e1:(QX.data.toList==I3.data.toList)=false:=by decide
   have e2:(QX.data.toList==QW.data.toList)=false:=by decide
   simp only [e1,e2,BC,CY,BJ];exact ⟨hk.symm,by rw [hp]; rfl,b0.symm,b1.symm,b2.symm,b3.symm,b4.symm,n1⟩
  ·have hd:(EH v).data.toList=HZ QY.data.toList [v.spent]++10 :: []:=by
    unfold EH;rw [hr',hk];have e1:((4:Int)==1)=false:=rfl;have e2:((4:Int)==2)=false:=rfl;have e3:((4:Int)==3)=false:=rfl;simp only [BJ,BC,e1,e2,e3];rw [QF];simp [IV.toInt]
   obtain ⟨h1,_⟩:=ZR hd (by decide) (by decide);have n1:=QG h1 1 (n:=v.spent) rfl hv.spent;rw [c1] at n1;unfold HT;rw [N5 h1,N5 h1,N5 h1,N5 h1];have e1:(QY.data.toList==I3.data.toList)=false:=by decide
   have e2:(QY.data.toList==QW.data.toList)=false:=by decide
   have e3:(QY.data.toList==QX.data.toList)=false:=by decide
   simp only [e1,e2,e3,BC,CY,BJ];exact ⟨hk.symm,by rw [hp]; rfl,b0.symm,b1.symm,b2.symm,b3.symm,b4.symm,n1⟩
theorem rP {v:Vd} (hv:v.rng):QJ (EH v)=v.right:=by
 unfold QJ;cases h:v.right with
 | false=>
  rw [zgc h];simp
 | true=>
  have hp:=zgb h;have hne:¬ EH v=D9:=fun e=>by rw [e] at hp; cases hp
  rw [ZD,ZD,AL hne,Hh (sJ h hv),AD rfl];rfl
open Go
theorem zcH (x y:List UInt8) (r:List (List UInt8)):Lib.join (x :: y :: r) [32]=x++32 :: Lib.join (y :: r) [32]:=by
 rw [Lib.join_cons,Lib.join_cons];simp [Lib.joinTail]
theorem Lz:∀ (x:List UInt8) (r:List (List UInt8)),(∀ w∈x :: r,(32:UInt8) ∉ w)→vav (Lib.join (x :: r) [32]) [32]=x :: r
 | x,[],h=>by rw [Lib.join_one]; exact Mb x 32 (h x (AN ..))
 | x,y :: r,h=>by
  rw [zcH,Ly x _ 32 (h x (AN ..)),Lz y r (fun w hw=>h w (AY _ hw))]
theorem kQ:∀ {l m:List BA},l.map (·.data.toList)=m.map (·.data.toList)→l=m
 | [],[],_=>rfl
 | [],_ :: _,h=>by simp at h
 | _ :: _,[],h=>by simp at h
 | x :: l,y :: m,h=>by
  simp only [A0,vas] at h;rw [UP h.1,kQ h.2]
theorem Dv (ws:List BA) (h0:ws≠[]) (h:∀ w∈ws,(32:UInt8) ∉ w.data.toList):HH (GP ws G5)=ws.map IV.str:=by
 unfold HH;congr 1;apply kQ;rw [Lx];cases ws with
 | nil=>exact absurd rfl h0
 | cons x r=>
  show vav (Lib.join ((x :: r).map (·.data.toList)) [32]) [32]=_;rw [A0];exact Lz _ _ (fun w hw=>by
   rcases AO.1 hw with rfl | hw
   ·exact h x (AN ..)
   ·obtain ⟨y,hy,rfl⟩:=CJ.1 hw;exact h y (AY _ hy))
theorem Kf (u:Nat):∀ c∈IP u,c.toNat=46∨(48≤c.toNat∧c.toNat≤57):=by
 intro c hc;rw [gR] at hc;rcases AX.1 hc with h | h
 ·exact .inr (XF _ c h)
 ·split at h
  ·cases h
  ·rename_i h0;rcases AO.1 h with rfl | h
   ·exact .inl rfl
   ·exact .inr ((jK h0 (by omega:u % 256 < 256)).2.1 c h)
theorem rW (n:Int):∀ c∈K0 n,45≤c.toNat∧c.toNat≤57:=by
 intro c hc;unfold K0 at hc;split at hc
 ·rcases AO.1 hc with rfl | h
  ·exact ⟨by decide,by decide⟩
  ·have:=Kf _ c h
   omega
 ·have:=Kf _ c hc
  omega
theorem zcD (n:Int):∀ c∈vaj n,45≤c.toNat∧c.toNat≤57:=by
 intro c hc
 have:=zcB n c hc
 omega
theorem zcE (n:Int):vaj n≠[]:=by
 unfold vaj;split
 ·simp
 ·exact jJ _
theorem TG {l:List UInt8} (h:∀ c∈l,45≤c.toNat∧c.toNat≤57):(32:UInt8) ∉ l:=fun hc=>by
 have:=(h _ hc).1
 revert this;decide
theorem eB {x y:BA} (h:x≠y):(x.toList==y.toList)=false:=by rw [i8]; exact AL h
theorem UO (x:BA):(x.toList==x.toList)=true:=by simp
theorem Eu {w x:BA} (hw:∀ c∈w.data.toList,97≤c.toNat) (hx:x.data.toList≠[]) (h:∀ c∈x.data.toList,45≤c.toNat∧c.toNat≤57):(w.toList==x.toList)=false:=by
 refine eB (fun e=>?_);subst e;cases hl:w.data.toList with
 | nil=>exact hx hl
 | cons c r=>
  have h1:=hw c (by rw [hl]; exact AN ..);have h2:=h c (by rw [hl]; exact AN ..);omega
def LJ:List UInt8→Bool
 | []=>true
 | [c]=>!(c==46)
 | a :: b :: r=>!(a==46&&b==46)&&LJ (b :: r)
theorem qU:∀ {l:List UInt8},(∀ c∈l,c≠46)→LJ l=true
 | [],_=>rfl
 | [c],h=>by simp [LJ,h c (AN ..)]
 | a :: b :: r,h=>by
  have ha:=h a (AN ..);have e:(a==46)=false:=A5.2 ha;simp only [LJ,e,BM,A8,A6];exact qU (fun c hc=>h c (AY _ hc))
theorem qT:∀ {l:List UInt8} {c:UInt8} {r:List UInt8},(∀ c∈l,c≠46)→c≠46→LJ (c :: r)=true→LJ (l++46 :: c :: r)=true
 | [],c,r,_,hc,hr=>by
  have e:(c==46)=false:=A5.2 hc;simp only [C5,LJ,e,vae,A8,A6,hr]
 | [a],c,r,h,hc,hr=>by
  have e:(a==46)=false:=A5.2 (h a (AN ..))
  have:=qT (l:=[]) (fun c hc=>by cases hc) hc hr
  simp only [C5] at this;simp only [CT,C5,LJ,e,BM,A8,A6];simpa only [LJ] using this
 | a :: b :: l,c,r,h,hc,hr=>by
  have e:(a==46)=false:=A5.2 (h a (AN ..))
  have:=qT (l:=b :: l) (fun c hc=>h c (AY _ hc)) hc hr
  simp only [CT] at this ⊢;simp only [LJ,e,BM,A8,A6];exact this
theorem pM:∀ (w r:List UInt8),LJ w=true→Lib.index (w++46 :: 46 :: r) [46,46]=w.length
 | [],r,_=>by simp [Lib.index,vbA]
 | [c],r,h=>by
  have e:(c==46)=false:=by simpa [LJ] using h
  have e':((46:UInt8)==c)=false:=by rw [A5] at e ⊢; exact fun h=>e h.symm
  have h0:=pM [] r rfl;simp only [C5,A7] at h0;rw [List.singleton_append,Lib.index,h0];simp [vbA,e']
 | a :: b :: l,r,h=>by
  simp only [LJ,AH] at h;have ih:=pM (b :: l) r h.2;have e:[(46:UInt8),46].isPrefixOf (a :: b :: l++46 :: 46 :: r)=false:=by
   simp only [CT,vbA,B1];have h1:=h.1;cases ha:(a==46) with
   | false=>
    have:((46:UInt8)==a)=false:=by rw [A5] at ha ⊢; exact fun h=>ha h.symm
    rw [this,BM]
   | true=>
    rw [ha,A6] at h1;have hb:(b==46)=false:=by simpa using h1
    have:((46:UInt8)==b)=false:=by rw [A5] at hb ⊢; exact fun h=>hb h.symm
    rw [this,vae]
  have e2:(((b :: l).length:Int) == -1)=false:=by rw [A5]; simp only [AM]; omega
  rw [CT,Lib.index];rw [CT] at e;rw [e,ih,e2];simp
theorem Ey (u:Nat):LJ (IP u)=true:=by
 have hd:∀ c∈BU (u / 256),c≠46:=fun c hc e=>by
  subst e
  have:=XF _ _ hc
  revert this;decide
 rw [gR];by_cases h:u % 256=0
 ·rw [BP h,DB];exact qU hd
 ·rw [BD h];obtain ⟨_,h2,l,c,h3,_⟩:=jK h (by omega:u % 256 < 256);have hp:∀ c∈KI (u % 256),c≠46:=fun c hc e=>by
   subst e
   have:=h2 _ hc
   revert this;decide
  cases hl:KI (u % 256) with
  | nil=>rw [h3] at hl; simp at hl
  | cons x r=>
   rw [hl] at hp;exact qT hd (hp x (AN ..)) (qU hp)
theorem zfh (n:Int):LJ (K0 n)=true:=by
 unfold K0;split
 ·obtain ⟨c,r,h,_⟩:=tH n.natAbs
  have:=Ey n.natAbs
  rw [h] at this ⊢;simp only [LJ,AH];exact ⟨by rfl,this⟩
 ·exact Ey _
theorem Wq (w r:List UInt8) (h:LJ w=true):vaO (w++46 :: 46 :: r) [46,46]=(w,r,true):=by
 unfold vaO;rw [pM w r h,BP (by omega)];simp
theorem Lw (a b:Int):cutL (M9 a b) aW=DU a∧FU (M9 a b) aW=DU b:=by
 have e:(M9 a b).data.toList=K0 a++46 :: 46 :: K0 b:=by
  unfold M9;simp only [ByteArray.data_append,vah];show (K0 a++[46,46])++K0 b=_;simp
 unfold cutL FU;rw [e]
 have:=Wq (K0 a) (K0 b) (zfh a)
 show (⟨(vaO _ [46,46]).1.toArray⟩:BA)=_∧(⟨(vaO _ [46,46]).2.1.toArray⟩:BA)=_;rw [this];exact ⟨rfl,rfl⟩
theorem Qy.eq_of {p q:Qy} (h:p.eq q=true):p=q:=by
 cases p; cases q;simp only [Qy.eq,AH,B8,B7] at h;simp only [Qy.mk.injEq];exact h
theorem Qy.eq_self (p:Qy):p.eq p=true:=by
 simp [Qy.eq]
theorem RG {n:Int} (h:ED n):FJ (DP n)=n:=wC rfl h.1 h.2
theorem gO {n:Int} (h:ED n):GC (DU n)=n:=(zgh h).2
theorem aB (n:Int):∀ c∈(DU n).data.toList,45≤c.toNat∧c.toNat≤57:=rW n
theorem PD (n:Int):∀ c∈(DP n).data.toList,45≤c.toNat∧c.toNat≤57:=zcD n
theorem zga (n:Int):(DU n).data.toList≠[]:=by
 obtain ⟨c,r,h,_⟩:=He n;rw [h];simp
theorem Lu (a b:Int):∀ c∈(M9 a b).data.toList,45≤c.toNat∧c.toNat≤57:=by
 intro c hc;unfold M9 at hc;simp only [ByteArray.data_append,vah,AX] at hc;rcases hc with (h | h) | h
 ·exact rW a c h
 ·have h:c∈[(46:UInt8),46]:=h;simp only [AO,BX,CO,or_self] at h;subst h;decide
 ·exact rW b c h
theorem zjQ (q:Qy) (D:Nat):∀ w∈JM q D,(32:UInt8) ∉ w.data.toList:=by
 intro w hw;unfold JM at hw;have key:∀ x∈HY q,(32:UInt8) ∉ x.data.toList:=by
  intro x hx;unfold HY at hx;cases h1:(q.k==1) <;> rw [h1] at hx <;> simp only [BJ,BC] at hx
  ·cases h2:(q.k==2) <;> rw [h2] at hx <;> simp only [BJ,BC,AO,BX,CO] at hx
   ·rcases hx with rfl | rfl | rfl | rfl
    ·cases q.fl <;> decide
    ·exact TG (PD _)
    ·decide
    ·exact TG (PD _)
   ·rcases hx with rfl | rfl
    ·decide
    ·exact TG (PD _)
  ·simp only [AO,BX,CO] at hx;rcases hx with rfl | rfl | rfl | rfl | rfl | rfl
   ·decide
   ·exact TG (PD _)
   ·decide
   ·exact TG (aB _)
   ·decide
   ·exact TG (aB _)
 rcases AX.1 hw with h | h
 ·rcases AX.1 h with h | h
  ·exact key w h
  ·rcases AO.1 h with rfl | h
   ·decide
   ·obtain ⟨s,_,rfl⟩:=CJ.1 h;exact TG (Lu _ _)
 ·simp only [AO,BX,CO] at h;rcases h with rfl | rfl
  ·decide
  ·exact TG (PD _)
theorem Ck (w:BA):∀ (l:LI) (r:LI) (k:Int),(∀ x∈l,(w.toList==x.toStr.toList)=false)→F2 (l++.str w :: r) w k=k+(l.length:Int)
 | [],r,k,_=>by
  simp only [C5,F2,IV.toStr,UO,BJ,A7];omega
 | x :: l,r,k,h=>by
  rw [CT,F2,h x (AN ..),BC,Ck w l r (k+1) (fun y hy=>h y (AY _ hy))];simp only [AM];omega
theorem zcq (q:Qy):∀ x∈(HY q).map IV.str,(N3.toList==x.toStr.toList)=false:=by
 intro y hy;obtain ⟨x,hx,rfl⟩:=CJ.1 hy;simp only [IV.toStr];have li:∀ c∈N3.data.toList,97≤c.toNat:=by decide
 have ni:=fun n=>Eu li (zcE n) (PD n)
 have np:=fun n=>Eu li (zga n) (aB n)
 have dd:∀ {a b:BA},a.data.toList≠b.data.toList→(a.toList==b.toList)=false:=fun h=>eB (fun e=>h (by rw [e]))
 unfold HY at hx;cases h1:(q.k==1) <;> rw [h1] at hx <;> simp only [BJ,BC] at hx
 ·cases h2:(q.k==2) <;> rw [h2] at hx <;> simp only [BJ,BC,AO,BX,CO] at hx
  ·rcases hx with rfl | rfl | rfl | rfl
   ·cases q.fl <;> exact dd (by decide)
   ·exact ni _
   ·exact dd (by decide)
   ·exact ni _
  ·rcases hx with rfl | rfl
   ·exact dd (by decide)
   ·exact ni _
 ·simp only [AO,BX,CO] at hx;rcases hx with rfl | rfl | rfl | rfl | rfl | rfl
  ·exact dd (by decide)
  ·exact ni _
  ·exact dd (by decide)
  ·exact np _
  ·exact dd (by decide)
  ·exact np _
theorem zcr (q:Qy) (hc:ED q.c) (hlo:ED q.lo) (hhi:ED q.hi) (hft:ED q.ft) (hk:q.k=1∨q.k=2∨q.k=3) (n1:q.k≠1→q.lo=0∧q.hi=0) (n3:q.k≠3→q.ft=0∧q.fl=false) :
  EO ((HY q).map IV.str)=⟨q.k,q.c,0,0,0,0,0,0,0,0,0,0,q.lo,q.hi,q.ft,q.fl,0⟩:=by
 have dd:∀ {a b:BA},a.data.toList≠b.data.toList→(a.toList==b.toList)=false:=fun h=>eB (fun e=>h (by rw [e]))
 obtain ⟨k,c,a0,b0,a1,b1,a2,b2,a3,b3,a4,b4,lo,hi,ft,fl,bu⟩:=q;simp only at hc hlo hhi hft hk n1 n3 ⊢;rcases hk with rfl | rfl | rfl
 ·obtain ⟨rfl,rfl⟩:=n3 (by decide);show EO [IV.str NA,IV.str (DP c),IV.str VX,IV.str (DU lo),IV.str V0,IV.str (DU hi)]=_;unfold EO;rw [show DW [IV.str NA,IV.str (DP c),IV.str VX,IV.str (DU lo),IV.str V0,IV.str (DU hi)] 0=NA from rfl,UO,BJ,
   show DW [IV.str NA,IV.str (DP c),IV.str VX,IV.str (DU lo),IV.str V0,IV.str (DU hi)] 1=DP c from rfl,show DW [IV.str NA,IV.str (DP c),IV.str VX,IV.str (DU lo),IV.str V0,IV.str (DU hi)] 3=DU lo from rfl,
   show DW [IV.str NA,IV.str (DP c),IV.str VX,IV.str (DU lo),IV.str V0,IV.str (DU hi)] 5=DU hi from rfl,RG hc,gO hlo,gO hhi]
 ·obtain ⟨rfl,rfl⟩:=n3 (by decide);obtain ⟨rfl,rfl⟩:=n1 (by decide);show EO [IV.str OR,IV.str (DP c)]=_;unfold EO;rw [show DW [IV.str OR,IV.str (DP c)] 0=OR from rfl,dd (show OR.data.toList≠NA.data.toList by decide),BC,UO,BJ,show DW [IV.str OR,IV.str (DP c)] 1=DP c from rfl,RG hc]
 ·obtain ⟨rfl,rfl⟩:=n1 (by decide);cases fl with
  | true=>
   show EO [IV.str MJ,IV.str (DP c),IV.str OS,IV.str (DP ft)]=_;unfold EO;rw [show DW [IV.str MJ,IV.str (DP c),IV.str OS,IV.str (DP ft)] 0=MJ from rfl,dd (show MJ.data.toList≠NA.data.toList by decide),BC,dd (show MJ.data.toList≠OR.data.toList by decide),BC,dd (show MJ.data.toList≠NB.data.toList by decide),UO,vaw,BJ,
    show DW [IV.str MJ,IV.str (DP c),IV.str OS,IV.str (DP ft)] 1=DP c from rfl,show DW [IV.str MJ,IV.str (DP c),IV.str OS,IV.str (DP ft)] 3=DP ft from rfl,RG hc,RG hft]
  | false=>
   show EO [IV.str NB,IV.str (DP c),IV.str OS,IV.str (DP ft)]=_;unfold EO;rw [show DW [IV.str NB,IV.str (DP c),IV.str OS,IV.str (DP ft)] 0=NB from rfl,dd (show NB.data.toList≠NA.data.toList by decide),BC,dd (show NB.data.toList≠OR.data.toList by decide),BC,dd (show NB.data.toList≠MJ.data.toList by decide),UO,Bool.or_false,BJ,
    show DW [IV.str NB,IV.str (DP c),IV.str OS,IV.str (DP ft)] 1=DP c from rfl,show DW [IV.str NB,IV.str (DP c),IV.str OS,IV.str (DP ft)] 3=DP ft from rfl,RG hc,RG hft]
theorem vA (A B:LI) (i:Nat):DW (A++B) (A.length+i)=DW B i:=by
 unfold DW;congr 1;rw [AI,vbu (by omega),Nat.add_sub_cancel_left];rfl
def KR (q:Qy) (D:Nat):LI:=(N3 :: ((q.spans.take D).map fun s=>M9 s.1 s.2)++[VW,DP q.bu]).map IV.str
theorem Qd (q:Qy) (D:Nat):(JM q D).map IV.str=(HY q).map IV.str++KR q D:=by
 unfold JM KR;simp
theorem zgv (q:Qy) (hc:ED q.c) (hlo:ED q.lo) (hhi:ED q.hi) (hft:ED q.ft) (hbu:ED q.bu) (hsp:∀ s∈q.spans,ED s.1∧ED s.2) (D:Nat) (h1:1≤D) (h4:D≤4) (hk:q.k=1∨q.k=2∨q.k=3) (ht:q=FX q D) :
  gG ((JM q D).map IV.str) (HY q).length D=q:=by
 rw [Qd];have ht':=ht;have n1:q.k≠1→q.lo=0∧q.hi=0:=fun hn=>by
  have e:(q.k==1)=false:=A5.2 hn;have a:=congrArg Qy.lo ht';have b:=congrArg Qy.hi ht';simp only [FX,e,BC] at a b;exact ⟨a,b⟩
 have n3:q.k≠3→q.ft=0∧q.fl=false:=fun hn=>by
  have e:(q.k==3)=false:=A5.2 hn;have a:=congrArg Qy.ft ht';have b:=congrArg Qy.fl ht';simp only [FX,e,BC] at a b;exact ⟨a,b⟩
 have hh:=zcr q hc hlo hhi hft hk n1 n3;have hlen:((HY q).map IV.str).length=(HY q).length:=BE ..
 generalize hA:(HY q).map IV.str=A at hh hlen;have htk:AK (HY q).length (A++KR q D)=A:=by rw [← hlen]; exact List.take_left
 have spA_of:∀ (i:Nat) (a b:Int),ED a→DW (KR q D) i=M9 a b→R4 (A++KR q D) ((HY q).length+i)=a:=fun i a b ha e=>by
  unfold R4;rw [← hlen,vA,e,(Lw a b).1];exact gO ha
 have spB_of:∀ (i:Nat) (a b:Int),ED b→DW (KR q D) i=M9 a b→R5 (A++KR q D) ((HY q).length+i)=b:=fun i a b hb e=>by
  unfold R5;rw [← hlen,vA,e,(Lw a b).2];exact gO hb
 have hlast:(A++KR q D).length - 1=(HY q).length+((KR q D).length - 1):=by
  rw [AT,hlen]
  have:0 < (KR q D).length:=by unfold KR; simp
  omega
 unfold gG;rw [htk,hh,hlast,← hlen,vA,hlen];clear htk hh hlast;obtain ⟨k,c,a0,b0,a1,b1,a2,b2,a3,b3,a4,b4,lo,hi,ft,fl,bu⟩:=q;have s0:=hsp (a0,b0) (by simp [Qy.spans]);have s1:=hsp (a1,b1) (by simp [Qy.spans]);have s2:=hsp (a2,b2) (by simp [Qy.spans]);have s3:=hsp (a3,b3) (by simp [Qy.spans]);simp only [FX,Qy.mk.injEq,vaz] at ht;obtain ⟨t1,t2,t3,t4,t5,t6,t7,t8,t9,t10,_⟩:=ht;have hD:D=1∨D=2∨D=3∨D=4:=by omega
 have n45:a4=0∧b4=0:=by
  rw [AL (show ¬ (4:Int) < D by omega)] at t9 t10;exact ⟨t9,t10⟩
 obtain ⟨rfl,rfl⟩:=n45;have hbu:ED bu:=hbu;rcases hD with rfl | rfl | rfl | rfl
 ·simp only [show decide ((1:Int) < ((1:Nat):Int))=false from rfl,show decide ((2:Int) < ((1:Nat):Int))=false from rfl,show decide ((3:Int) < ((1:Nat):Int))=false from rfl,BC] at t3 t4 t5 t6 t7 t8;subst t3 t4 t5 t6 t7 t8;rw [spA_of 1 a0 b0 s0.1 rfl,spB_of 1 a0 b0 s0.2 rfl,show DW (KR ⟨k,c,a0,b0,0,0,0,0,0,0,0,0,lo,hi,ft,fl,bu⟩ 1) ((KR ⟨k,c,a0,b0,0,0,0,0,0,0,0,0,lo,hi,ft,fl,bu⟩ 1).length - 1)=DP bu from rfl,RG hbu];rfl
 ·simp only [show decide ((2:Int) < ((2:Nat):Int))=false from rfl,show decide ((3:Int) < ((2:Nat):Int))=false from rfl,BC] at t5 t6 t7 t8;subst t5 t6 t7 t8;rw [spA_of 1 a0 b0 s0.1 rfl,spB_of 1 a0 b0 s0.2 rfl,spA_of 2 a1 b1 s1.1 rfl,spB_of 2 a1 b1 s1.2 rfl,show DW (KR ⟨k,c,a0,b0,a1,b1,0,0,0,0,0,0,lo,hi,ft,fl,bu⟩ 2) ((KR ⟨k,c,a0,b0,a1,b1,0,0,0,0,0,0,lo,hi,ft,fl,bu⟩ 2).length - 1)=DP bu from rfl,RG hbu];rfl
 ·simp only [show decide ((3:Int) < ((3:Nat):Int))=false from rfl,BC] at t7 t8;subst t7 t8;rw [spA_of 1 a0 b0 s0.1 rfl,spB_of 1 a0 b0 s0.2 rfl,spA_of 2 a1 b1 s1.1 rfl,spB_of 2 a1 b1 s1.2 rfl,spA_of 3 a2 b2 s2.1 rfl,spB_of 3 a2 b2 s2.2 rfl,show DW (KR ⟨k,c,a0,b0,a1,b1,a2,b2,0,0,0,0,lo,hi,ft,fl,bu⟩ 3) ((KR ⟨k,c,a0,b0,a1,b1,a2,b2,0,0,0,0,lo,hi,ft,fl,bu⟩ 3).length - 1)=DP bu from rfl,RG hbu];rfl
 ·rw [spA_of 1 a0 b0 s0.1 rfl,spB_of 1 a0 b0 s0.2 rfl,spA_of 2 a1 b1 s1.1 rfl,spB_of 2 a1 b1 s1.2 rfl,spA_of 3 a2 b2 s2.1 rfl,spB_of 3 a2 b2 s2.2 rfl,spA_of 4 a3 b3 s3.1 rfl,spB_of 4 a3 b3 s3.2 rfl,show DW (KR ⟨k,c,a0,b0,a1,b1,a2,b2,a3,b3,0,0,lo,hi,ft,fl,bu⟩ 4) ((KR ⟨k,c,a0,b0,a1,b1,a2,b2,a3,b3,0,0,lo,hi,ft,fl,bu⟩ 4).length - 1)=DP bu from rfl,RG hbu];rfl
theorem Fy {q:Qy} {d:Int} (h:OL q d=true):1≤d∧d≤4∧q=FX q d∧KB q.c=true∧KB q.ft=true∧KB q.bu=true∧(q.k=1∨q.k=2∨q.k=3):=by
 unfold OL at h;simp only [AH,B4,BW,van,B8] at h;obtain ⟨⟨h1,h2⟩,h3,h4,h5,h6,h7⟩:=h;exact ⟨by omega,by omega,Qy.eq_of h3,h4,h5,h6,h7⟩
theorem zjO (q:Qy) (D:Nat):JM q D≠[]:=by
 unfold JM;simp
theorem Uj {q:Qy} {d:Int} (hc:ED q.c) (hlo:ED q.lo) (hhi:ED q.hi) (hft:ED q.ft) (hbu:ED q.bu) (hsp:∀ s∈q.spans,ED s.1∧ED s.2) (h:OL q d=true):NH (EG q d)=true∧EZ (EG q d)=q∧MS (EG q d)=d:=by
 obtain ⟨h1,h4,ht,_,_,_,hk⟩:=Fy h;obtain ⟨D,rfl⟩:∃ D:Nat,d=D:=⟨d.toNat,by omega⟩;have hp:EG q (D:Int)=GP (JM q D) G5:=by
  unfold EG;rw [h];rfl
 have hline:HH (EG q (D:Int))=(JM q D).map IV.str:=by
  rw [hp];exact Dv _ (zjO q D) (zjQ q D)
 have hI:NR (EG q (D:Int))=((HY q).length:Int):=by
  unfold NR;rw [hline,Qd];show F2 ((HY q).map IV.str++IV.str N3 :: _) N3 0=_;rw [Ck N3 _ _ 0 (zcq q),BE];omega
 have hD:OJ (EG q (D:Int))=(D:Int):=by
  unfold OJ;rw [hline,hI,BE]
  have:(JM q D).length=(HY q).length+1+D+2:=by
   unfold JM;simp only [AT,AM,BE,BB,A7,Qy.spans];omega
  rw [this];simp only [ic];omega
 have hQ:fL (EG q (D:Int))=q:=by
  unfold fL;rw [hline,hI,hD];exact zgv q hc hlo hhi hft hbu hsp D (by omega) (by omega) hk ht
 have hok:NH (EG q (D:Int))=true:=by
  unfold NH;rw [hI,hD,hQ,AL (show ¬ ((HY q).length:Int) < 0 by omega),AL (show ¬ (D:Int) < 1 by omega),AL (show ¬ (D:Int) > 4 by omega),UO];rfl
 refine ⟨hok,?_,?_⟩
 ·unfold EZ;rw [hok,hQ];rfl
 ·unfold MS;rw [hok,hD];rfl
theorem Hd {q:Qy} {d:Int} (h:OL q d=false):EG q d=YO:=by
 unfold EG;rw [h];rfl
open Go
theorem j9 (c:UInt8) (x y:List UInt8) (r:List (List UInt8)):Lib.join (x :: y :: r) [c]=x++c :: Lib.join (y :: r) [c]:=by
 rw [Lib.join_cons,Lib.join_cons];simp [Lib.joinTail]
theorem uA (c:UInt8):∀ (x:List UInt8) (r:List (List UInt8)),(∀ w∈x :: r,c ∉ w)→vav (Lib.join (x :: r) [c]) [c]=x :: r
 | x,[],h=>by rw [Lib.join_one]; exact Mb x c (h x (AN ..))
 | x,y :: r,h=>by
  rw [j9,Ly x _ c (h x (AN ..)),uA c y r (fun w hw=>h w (AY _ hw))]
theorem qM (c e:UInt8) (hne:e≠c):∀ (l:List (List UInt8)),(∀ w∈l,e ∉ w)→e ∉ Lib.join l [c]
 | [],_=>by rw [Lib.join_nil]; simp
 | [x],h=>by rw [Lib.join_one]; exact h x (AN ..)
 | x :: y :: r,h=>by
  rw [j9];intro hm;rcases AX.1 hm with hm | hm
  ·exact h x (AN ..) hm
  ·rcases AO.1 hm with hm | hm
   ·exact hne hm
   ·exact qM c e hne (y :: r) (fun w hw=>h w (AY _ hw)) hm
structure WsOK (ws:List BA):Prop where
 ne:ws≠[]
 sp:∀ w∈ws,(32:UInt8) ∉ w.data.toList
 lf:∀ w∈ws,(10:UInt8) ∉ w.data.toList
def FW (ws:List BA):IV:=.str (GP ws G5)
theorem Cv (ws:List BA):(GP ws G5).data.toList=Lib.join (ws.map (·.data.toList)) [32]:=rfl
theorem Dt (ws:List BA):(FQ ws).data.toList=(GP ws G5).data.toList++[10]:=by
 unfold FQ;simp
theorem uR:∀ (x:List BA) (r:List (List BA)),(GA (x :: r)).data.toList=Lib.join ((x :: r).map fun ws=>(GP ws G5).data.toList) [10]++[10]
 | x,[]=>by
  have e:GA [x]=FQ x:=by
   show FQ x++CI=_;rw [ByteArray.append_empty]
  rw [e,Dt,A0,CA,Lib.join_one]
 | x,y :: r=>by
  have e:(GA (x :: y :: r)).data.toList=(FQ x).data.toList++(GA (y :: r)).data.toList:=by
   rw [GA];simp
  rw [e,uR y r,Dt];simp only [A0];rw [j9];simp
theorem Pf {s:BA} {l:List UInt8} (h:s.data.toList=l++[10]):(aS s).data.toList=l:=by
 have hz:s.size=l.length+1:=by rw [TP,h,AT]; rfl
 have hs:TA s PX=true:=by
  unfold TA;have e1:AG PX=1:=rfl;rw [e1,AD (show 1≤s.size by omega),A6,i8];refine AD (UP ?_);rw [vbe,Array.toList_extract,List.extract_eq_take_drop,h,hz];simp
 have e1:AG PX=1:=rfl;unfold aS GH;rw [hs,e1];show (s.extract 0 (s.size - 1)).data.toList=l;rw [vbe,Array.toList_extract,List.extract_eq_take_drop,h,hz];simp
theorem zc8 (x:List BA) (r:List (List BA)) (h:∀ ws∈x :: r,WsOK ws):U9 (GA (x :: r))=(x :: r).map FW:=by
 unfold U9;have hd:(D2 (aS (GA (x :: r))) PX)=(x :: r).map fun ws=>GP ws G5:=by
  apply kQ;rw [Lx,Pf (uR x r)];show vav (Lib.join ((x :: r).map fun ws=>(GP ws G5).data.toList) [10]) [10]=_;rw [vaY,A0,uA]
  ·rfl
  ·intro w hw;rw [← A0 (f:=fun ws=>(GP ws G5).data.toList)] at hw;obtain ⟨ws,hws,rfl⟩:=CJ.1 hw;rw [Cv];refine qM 32 10 (by decide) _ fun v hv=>?_
   obtain ⟨u,hu,rfl⟩:=CJ.1 hv;exact (h ws hws).lf u hu
 rw [hd,vaY];rfl
theorem kV {ws:List BA} (h:WsOK ws) (r:LI):E0 (FW ws :: r)=ws.map IV.str:=Dv ws h.ne h.sp
theorem qZ {l:List UInt8} (h:∀ c∈l,45≤c.toNat∧c.toNat≤57):(32:UInt8) ∉ l∧(10:UInt8) ∉ l:=by
 refine ⟨TG h,fun hc=>?_⟩
 have:=(h _ hc).1
 revert this;decide
theorem XC {n most:Int} (h0:0≤n) (h1:n≤most) (h2:most≤1000):FN (DP n) most=n:=by
 have hv:FJ (DP n)=n:=wC rfl (by omega) (by omega);have hn:KU (DP n)=true:=by
  unfold KU
  have:(DP n).data.toList=vaj n:=rfl
  rw [this,wE n (by omega) (by omega)]
 unfold FN;rw [hn,hv,AL (show ¬ n < 0 by omega),AL (show ¬ n > most by omega)];rfl
theorem VO {n:Int} (h : -2147483648≤n∧n≤2147483647):GC (DU n)=n:=gO (by unfold ED; omega)
structure NdIn (x:Nd):Prop where
 v : -2147483648≤x.v∧x.v≤2147483647
 f:0≤x.f∧x.f < 4
 a : -2147483648≤x.a∧x.a≤2147483647
 l:0≤x.l∧x.l < 31
 r:0≤x.r∧x.r < 31
 lf:x.lf=true→x.f=0∧x.a=0∧x.l=0∧x.r=0
 fk:x.lf=false→x.v=0
theorem o9 {n:Int} (h:E5 n=true) : -2147483648≤n∧n≤2147483647:=by
 unfold E5 at h
 rwa [AH,AQ,AQ] at h
theorem zgR {x:Nd} (h:M6 x=true):NdIn x:=by
 obtain ⟨lf,v,f,a,l,r⟩:=x;unfold M6 at h;cases lf with
 | true=>
  simp only [BJ,AH,Nd.eq,B8] at h;obtain ⟨⟨_,_,h1,h2,h3,h4,_⟩,hv⟩:=h;subst h1 h2 h3 h4;have z4:(0:Int)≤0∧(0:Int) < 4:=by decide
  have z31:(0:Int)≤0∧(0:Int) < 31:=by decide
  have zf:(-2147483648:Int)≤0∧(0:Int)≤2147483647:=by decide
  exact ⟨o9 hv,z4,zf,z31,z31,fun _=>⟨rfl,rfl,rfl,rfl⟩,fun h=>Bool.noConfusion h⟩
 | false=>
  simp only [BC,AH,B8,AQ,RF] at h;obtain ⟨hv,hf0,hf1,ha,⟨hl0,hl1⟩,hr0,hr1⟩:=h;subst hv;have zf:(-2147483648:Int)≤0∧(0:Int)≤2147483647:=by decide
  have l0:(0:Int)≤l:=by omega
  have r0:(0:Int)≤r:=by omega
  exact ⟨zf,⟨hf0,hf1⟩,o9 ha,⟨l0,hl1⟩,⟨r0,hr1⟩,fun h=>Bool.noConfusion h,fun _=>rfl⟩
theorem V3 (w:BA) (h:(w.data.toList.all fun c=>!(c==32)&&!(c==10))=true):(32:UInt8) ∉ w.data.toList∧(10:UInt8) ∉ w.data.toList:=by
 rw [CQ] at h;refine ⟨fun hc=>?_,fun hc=>?_⟩
 ·have:=h _ hc
  revert this;decide
 ·have:=h _ hc
  revert this;decide
theorem iB {ws:List BA} (hne:ws≠[]) (h:∀ w∈ws,(32:UInt8) ∉ w.data.toList∧(10:UInt8) ∉ w.data.toList):WsOK ws:=⟨hne,fun w hw=>(h w hw).1,fun w hw=>(h w hw).2⟩
theorem XQ (n:Int):(32:UInt8) ∉ (DP n).data.toList∧(10:UInt8) ∉ (DP n).data.toList:=qZ (PD n)
theorem rZ (n:Int):(32:UInt8) ∉ (DU n).data.toList∧(10:UInt8) ∉ (DU n).data.toList:=qZ (aB n)
theorem Fb (x:Nd):WsOK (MC x):=by
 unfold MC;cases x.lf with
 | true=>
  refine iB (by simp) fun w hw=>?_
  simp only [BJ,AO,BX,CO] at hw;rcases hw with rfl | rfl
  ·exact V3 _ (by decide)
  ·exact rZ _
 | false=>
  refine iB (by simp) fun w hw=>?_
  simp only [BC,AO,BX,CO] at hw;rcases hw with rfl | rfl | rfl | rfl | rfl | rfl | rfl | rfl
  ·exact V3 _ (by decide)
  ·exact XQ _
  ·exact V3 _ (by decide)
  ·exact rZ _
  ·exact V3 _ (by decide)
  ·exact XQ _
  ·exact V3 _ (by decide)
  ·exact XQ _
theorem zgy {x:Nd} (h:NdIn x):NW ((MC x).map IV.str)=x:=by
 obtain ⟨lf,v,f,a,l,r⟩:=x;obtain ⟨hv,hf,ha,hl,hr,h1,h2⟩:=h;simp only at hv hf ha hl hr h1 h2;cases lf with
 | true=>
  obtain ⟨rfl,rfl,rfl,rfl⟩:=h1 rfl;have e0:NW ((MC ⟨true,v,0,0,0,0⟩).map IV.str)=⟨true,GC (DU v),0,0,0,0⟩:=by
   have:(AW (DW ((MC ⟨true,v,0,0,0,0⟩).map IV.str) 0)==AW TY)=true:=UO _
   unfold NW;rw [this];rfl
  rw [e0,VO hv]
 | false=>
  have h2:=h2 rfl;subst h2;have e0:NW ((MC ⟨false,0,f,a,l,r⟩).map IV.str)=⟨false,0,FN (DP f) 4,GC (DU a),FN (DP l) 31,FN (DP r) 31⟩:=by
   have:(AW (DW ((MC ⟨false,0,f,a,l,r⟩).map IV.str) 0)==AW TY)=false:=eB (x:=mS) (y:=TY) (by decide)
   unfold NW;rw [this];rfl
  rw [e0,XC hf.1 (by omega) (by omega),VO ha,XC hl.1 (by omega) (by omega),XC hr.1 (by omega) (by omega)]
def Py (w:IV):Prop:=∃ n,w = .int n
def Pz (t:IV):Prop:=∃ k l,t = .agg [.int k,.list l]∧∀ w∈l,Py w
def R9 (m:Md):Prop:=∀ t∈m.ts,Pz t
theorem Ff {dim n:Int}:∀ {l:LI} {i:Nat},KM dim n i l=true→∀ w∈l,GJ w.toInt=true
 | [],_,_,w,hw=>by cases hw
 | x :: l,i,h,w,hw=>by
  unfold KM at h;rw [AH,AH] at h;rcases AO.1 hw with rfl | hw
  ·exact h.1.1
  ·exact Ff h.2 w hw
theorem zjr {d c:Int} {t:IV} (h:HN d c t=true):0≤(t.cell 0).toInt∧(t.cell 0).toInt < c∧1≤(t.cell 1).toList.length∧(t.cell 1).toList.length≤31∧∀ w∈(t.cell 1).toList,GJ w.toInt=true:=by
 unfold HN G1 at h;simp only [AH,B4,BW] at h;obtain ⟨h1,h2,⟨h3,h4⟩,h5,_⟩:=h;exact ⟨by omega,by omega,AP h3,AP h4,Ff h5⟩
theorem zgz {l:LI} (hw:∀ w∈l,Py w) (hn:∀ w∈l,GJ w.toInt=true) (R:LI):M3 ((H0 l).map FW++R) l.length=l:=by
 apply List.ext_getElem?;intro i;unfold M3;by_cases hi:i < l.length
 ·rw [B9,List.getElem?_range hi];have hdr:AS i ((H0 l).map FW++R)=FW (MC (DL l[i].toInt)) :: (((H0 l).map FW).drop (i+1)++R):=by
   have hl:((H0 l).map FW).length=l.length:=by simp [H0]
   rw [List.drop_append_of_le_length (by omega),BG (by omega)];simp [H0]
  have hb:=hn l[i] (C1 hi);obtain ⟨p1,p2⟩:=kX hb;obtain ⟨n,hn'⟩:=hw l[i] (C1 hi);have e:(IV.int (I1 (NW (E0 (AS i ((H0 l).map FW++R))))))=l[i]:=by
   rw [hdr,kV (Fb _),zgy (zgR p2),p1,hn'];rfl
  show some (IV.int (I1 (NW (E0 (AS i ((H0 l).map FW++R))))))=_;rw [e,A9 hi]
 ·rw [BZ (by simp; omega),BZ (by omega)]
theorem Oz (t:IV):∀ ws∈TV t,WsOK ws:=by
 intro ws hws;unfold TV at hws;rcases AO.1 hws with rfl | hws
 ·refine iB (by simp) fun w hw=>?_
  simp only [AO,BX,CO] at hw;rcases hw with rfl | rfl | rfl
  ·exact V3 _ (by decide)
  ·exact XQ _
  ·exact XQ _
 ·unfold H0 at hws;obtain ⟨w,_,rfl⟩:=CJ.1 hws;exact Fb _
theorem Hz {d c:Int} (hc:c≤3):∀ (n:Nat) (ts:LI),ts.length≤n→(∀ t∈ts,Pz t)→ts.all (HN d c)=true→LO n ((GV ts).map FW)=ts
 | 0,[],_,_,_=>rfl
 | 0,_ :: _,h,_,_=>by simp at h
 | n+1,[],_,_,_=>rfl
 | n+1,t :: r,h,hw,ht=>by
  rw [vax,AH] at ht;obtain ⟨k,l,rfl,hl⟩:=hw t (AN ..);obtain ⟨h1,h2,h3,h4,h5⟩:=zjr ht.1;have h1:0≤k:=h1;have h2:k < c:=h2;have h3:1≤l.length:=h3;have h4:l.length≤31:=h4;have h5:∀ w∈l,GJ w.toInt=true:=h5;have hws:=Oz (.agg [.int k,.list l]) [OT,DP k,DP (ic l.length)] (AN ..);have e:(GV (.agg [.int k,.list l] :: r)).map FW=FW [OT,DP k,DP (ic l.length)] :: ((H0 l).map FW++(GV r).map FW):=by
   show (([OT,DP k,DP (ic l.length)] :: H0 l)++GV r).map FW=_;rw [List.map_append,A0];rfl
  have hnx:=kV hws ((H0 l).map FW++(GV r).map FW);have hk:M2 (FW [OT,DP k,DP (ic l.length)] :: ((H0 l).map FW++(GV r).map FW))=l.length:=by
   unfold M2;rw [hnx];show (FN (DP (ic l.length)) 31).toNat=_;rw [XC (by simp only [ic]; omega) (by simp only [ic]; omega) (by omega)];simp only [ic];omega
  have hr:aD (FW [OT,DP k,DP (ic l.length)] :: ((H0 l).map FW++(GV r).map FW)) = .agg [.int k,.list l]:=by
   unfold aD;rw [hk,hnx];show IV.agg [IV.int (FN (DP k) 3),IV.list (M3 ((H0 l).map FW++(GV r).map FW) l.length)]=_;rw [XC h1 (by omega) (by omega),zgz hl h5]
  have hdl:AS l.length ((H0 l).map FW++(GV r).map FW)=(GV r).map FW:=by
   have:l.length=((H0 l).map FW).length:=by simp [H0]
   rw [this,List.drop_left]
  rw [e,LO,hr,hk,hdl,Hz hc n r (by simp at h; omega) (fun t ht=>hw t (AY _ ht)) ht.2]
theorem zdh {m:Md} (h:EX m=true):(1≤m.d∧m.d≤4)∧(1≤m.c∧m.c≤3)∧m.ts.length≤8∧(HX m.c 0 m.b0=true∧HX m.c 1 m.b1=true∧HX m.c 2 m.b2=true)∧m.ts.all (HN m.d m.c)=true:=by
 unfold EX at h;simp only [AH,B4,BW] at h;obtain ⟨⟨h1,h2,h3,h4,h5⟩,⟨h6,h7,h8⟩,h9⟩:=h;exact ⟨⟨by omega,by omega⟩,⟨by omega,by omega⟩,AP h5,⟨h6,h7,h8⟩,h9⟩
theorem nK {c j b:Int} (h:HX c j b=true):(-2147483648≤b∧b≤2147483647)∧(c≤j→b=0):=by
 unfold HX at h;rw [AH] at h;refine ⟨o9 h.1,fun hj=>?_⟩
 have:=h.2
 rw [AD (show j≥c from hj)] at this;simpa using this
theorem pE (m:Md):∀ ws∈TB m,WsOK ws:=by
 intro ws hws;unfold TB at hws;simp only [AO,BX,CO] at hws;rcases hws with rfl | rfl
 ·refine iB (by simp) fun w hw=>?_
  simp only [AO,BX,CO] at hw;rcases hw with rfl | rfl | rfl
  ·exact V3 _ (by decide)
  ·exact XQ _
  ·exact XQ _
 ·refine iB (by simp) fun w hw=>?_
  rcases AO.1 hw with rfl | hw
  ·exact V3 _ (by decide)
  ·obtain ⟨b,_,rfl⟩:=CJ.1 hw;exact rZ _
theorem Pb:∀ (ts:LI),∀ ws∈GV ts,WsOK ws
 | [],ws,h=>by cases h
 | t :: r,ws,h=>by
  rw [GV] at h;rcases AX.1 h with h | h
  ·exact Oz t ws h
  ·exact Pb r ws h
theorem zgx {m:Md} (h:EX m=true) (hw:R9 m):sI ((L9 m).map FW)=m:=by
 obtain ⟨hd,hc,hl,⟨g0,g1,g2⟩,ht⟩:=zdh h;obtain ⟨d,c,b0,b1,b2,ts⟩:=m;simp only at hd hc hl g0 g1 g2 ht;obtain ⟨i0,_⟩:=nK g0;obtain ⟨i1,z1⟩:=nK g1;obtain ⟨i2,z2⟩:=nK g2;have hh1:=pE ⟨d,c,b0,b1,b2,ts⟩ [N2,DP d,DP c] (AN ..);have hh2:=pE ⟨d,c,b0,b1,b2,ts⟩ (JB :: ([b0,b1,b2].take c.toNat).map DU) (AY _ (AN ..));have e:(L9 ⟨d,c,b0,b1,b2,ts⟩).map FW=FW [N2,DP d,DP c] :: FW (JB :: ([b0,b1,b2].take c.toNat).map DU) :: (GV ts).map FW:=rfl;have hn1:=kV hh1 (FW (JB :: ([b0,b1,b2].take c.toNat).map DU) :: (GV ts).map FW);have hn2:=kV hh2 ((GV ts).map FW);have hC:aC ((L9 ⟨d,c,b0,b1,b2,ts⟩).map FW)=c:=by
  unfold aC;rw [e,hn1];show FN (DP c) 3=c;exact XC (by omega) (by omega) (by omega)
 have hT:LO 9 (AS 2 ((L9 ⟨d,c,b0,b1,b2,ts⟩).map FW))=ts:=by
  rw [e];show LO 9 ((GV ts).map FW)=ts;exact Hz (by omega) 9 ts (by omega) hw ht
 have hD:FN (DW (E0 ((L9 ⟨d,c,b0,b1,b2,ts⟩).map FW)) 1) 4=d:=by
  rw [e,hn1];show FN (DP d) 4=d;exact XC (by omega) (by omega) (by omega)
 have hB:∀ j,LN ((L9 ⟨d,c,b0,b1,b2,ts⟩).map FW) c j=cond (decide ((j:Int) < c)) (GC (DW ((JB :: ([b0,b1,b2].take c.toNat).map DU).map IV.str) (1+j))) 0:=fun j=>by
  unfold LN;rw [e];show cond _ (GC (DW (E0 (FW (JB :: ([b0,b1,b2].take c.toNat).map DU) :: (GV ts).map FW)) (1+j))) 0=_;rw [hn2]
 unfold sI;rw [hC,hT,hD,hB,hB,hB];obtain ⟨C,rfl⟩:∃ C:Nat,c=(C:Int):=⟨c.toNat,by omega⟩;have w0:∀ l,DW ((JB :: l).map IV.str) (1+0)=DW (l.map IV.str) 0:=fun l=>rfl
 have w1:∀ l,DW ((JB :: l).map IV.str) (1+1)=DW (l.map IV.str) 1:=fun l=>rfl
 have w2:∀ l,DW ((JB :: l).map IV.str) (1+2)=DW (l.map IV.str) 2:=fun l=>rfl
 have v0:∀ x l,DW ((x :: l).map IV.str) 0=x:=fun x l=>rfl
 have v1:∀ x y l,DW ((x :: y :: l).map IV.str) 1=y:=fun x y l=>rfl
 have v2:∀ x y z l,DW ((x :: y :: z :: l).map IV.str) 2=z:=fun x y z l=>rfl
 rw [w0,w1,w2,BF];rcases (show C=1∨C=2∨C=3 by omega) with rfl | rfl | rfl
 ·
  have y1:=z1 (by omega);have y2:=z2 (by omega);have t:([b0,b1,b2].take 1).map DU=[DU b0]:=rfl;rw [t,v0,VO i0,AD (show ((0:Nat):Int) < ((1:Nat):Int) by omega),AL (show ¬ ((1:Nat):Int) < ((1:Nat):Int) by omega),AL (show ¬ ((2:Nat):Int) < ((1:Nat):Int) by omega),y1,y2];rfl
 ·
  have y2:=z2 (by omega);have t:([b0,b1,b2].take 2).map DU=[DU b0,DU b1]:=rfl;rw [t,v0,v1,VO i0,VO i1,AD (show ((0:Nat):Int) < ((2:Nat):Int) by omega),AD (show ((1:Nat):Int) < ((2:Nat):Int) by omega),AL (show ¬ ((2:Nat):Int) < ((2:Nat):Int) by omega),y2];rfl
 ·
  have t:([b0,b1,b2].take 3).map DU=[DU b0,DU b1,DU b2]:=rfl;rw [t,v0,v1,v2,VO i0,VO i1,VO i2,AD (show ((0:Nat):Int) < ((3:Nat):Int) by omega),AD (show ((1:Nat):Int) < ((3:Nat):Int) by omega),AD (show ((2:Nat):Int) < ((3:Nat):Int) by omega)];rfl
theorem gY {m:Md} (h:EX m=true) (hw:R9 m):K6 (EK m)=true∧FS (EK m)=m:=by
 have hp:EK m=GA (L9 m):=by unfold EK; rw [h]; rfl
 have hc:ZG (EK m)=m:=by
  unfold ZG
  have:U9 (EK m)=(L9 m).map FW:=by
   rw [hp];exact zc8 _ _ (fun ws hws=>by
    have hws:ws∈TB m++GV m.ts:=hws;rcases AX.1 hws with hws | hws
    ·exact pE m ws hws
    ·exact Pb m.ts ws hws)
  rw [this,zgx h hw]
 have hk:K6 (EK m)=true:=by
  unfold K6;rw [hc,UO,B1]
  have:((EK m).toList==YO.toList)=false:=eB (fun e=>by
   have hd:=uR [N2,DP m.d,DP m.c] ((JB :: ([m.b0,m.b1,m.b2].take m.c.toNat).map DU) :: GV m.ts);have e':GA (L9 m)=YO:=by rw [← hp,e]
   have:GA (L9 m)=GA ([N2,DP m.d,DP m.c] :: ((JB :: ([m.b0,m.b1,m.b2].take m.c.toNat).map DU) :: GV m.ts)):=rfl
   rw [← this,e'] at hd
   have:=congrArg AF hd
   rw [AT] at this;simp at this)
  rw [this];rfl
 refine ⟨hk,?_⟩;unfold FS;rw [hk,hc];rfl
theorem kU (d c:Int) (bias ts:LI):R9 (kT d c bias ts):=by
 intro t ht;have ht:t∈R7 d c ts:=ht;unfold R7 at ht;obtain ⟨u,_,rfl⟩:=CJ.1 ht;refine ⟨_,_,rfl,fun w hw=>?_⟩;unfold MZ at hw;obtain ⟨x,_,rfl⟩:=CJ.1 hw;exact ⟨_,rfl⟩
open Go
def HQ (L:List (List UInt8)):List UInt8:=L.flatMap fun l=>l++[10]
theorem PE (l:List UInt8) (L:List (List UInt8)):HQ (l :: L)=l++10 :: HQ L:=by simp [HQ]
theorem Dy:∀ (L:List (List UInt8)) (pre r:List UInt8),(∀ l∈L,(10:UInt8) ∉ l)→PF (pre++(HQ L++r)) L.length pre.length=some (pre.length+(HQ L).length)
 | [],pre,r,_=>by simp [PF,HQ]
 | l :: L,pre,r,h=>by
  have e1:pre++(HQ (l :: L)++r)=(pre++(l++[10]))++(HQ L++r):=by rw [PE]; simp
  have e2:(pre++(HQ (l :: L)++r)).drop pre.length=l++10 :: (HQ L++r):=by rw [List.drop_left,PE]; simp
  rw [AM,PF,e2,jZ l _ 10 (h l (AN ..))];rw [AL (show ¬ ((l.length:Nat):Int) < 0 by omega),DJ,e1];have e3:pre.length+((l.length:Nat):Int).toNat+1=(pre++(l++[10])).length:=by simp; omega
  rw [e3,Dy L (pre++(l++[10])) r (fun x hx=>h x (AY _ hx)),PE];simp;omega
theorem Ag {s:BA} {L:List (List UInt8)} {r:List UInt8} (h:s.data.toList=HQ L++r) (hL:∀ l∈L,(10:UInt8) ∉ l) :
  LD s (L.length:Int)=true∧(JE s (L.length:Int)).data.toList=HQ L∧(S4 s (L.length:Int)).data.toList=r:=by
 have hk:PF s.data.toList ((L.length:Nat):Int).toNat 0=some (HQ L).length:=by
  have:=Dy L [] r hL
  rw [C5,A7,BI] at this;rw [h,BF];exact this
 have ho:LD s (L.length:Int)=true:=by unfold LD; rw [hk]; rfl
 have ha:eO s (L.length:Int)=(HQ L).length:=by unfold eO; rw [hk]; rfl
 have hz:s.size=(HQ L).length+r.length:=by rw [TQ,h,AT]
 refine ⟨ho,?_,?_⟩
 ·unfold JE;rw [ho,DI,ha,vbe,Array.toList_extract,List.extract_eq_take_drop,h];simp
 ·unfold S4;rw [ho,DI,ha,vbe,Array.toList_extract,List.extract_eq_take_drop,h,hz];simp
theorem Pi {s:BA} {l:List UInt8} (h:s.data.toList=l++[10]):(GH s EJ).data.toList=l:=Pf h
def TW (v:Vd):List (List UInt8):=
 cond (v.kind==1) (HZ I3.data.toList [v.spent,ic v.proof.length] :: v.proof.map VR)
  (cond (v.kind==2) [HZ QW.data.toList [v.spent,v.w0,v.w1,v.w2,v.w3,v.twin]]
   (cond (v.kind==3) [HZ QX.data.toList [v.spent]] [HZ QY.data.toList [v.spent]]))
theorem Nw:∀ (l:LI),N1 l=HQ (l.map VR)
 | []=>rfl
 | x :: l=>by rw [N1,Nw l,A0,PE]
theorem Pr {v:Vd} (h:v.right=true):(EH v).data.toList=HQ (TW v):=by
 unfold EH TW;rw [h,DI];cases v.kind==1 with
 | true=>
  rw [DI,DI,rX,QF,Nw,PE];simp [IV.toInt]
 | false=>
  rw [DJ,DJ];cases v.kind==2 with
  | true=>
   rw [DI,DI,QF,PE];simp [IV.toInt,HQ]
  | false=>
   rw [DJ,DJ];cases v.kind==3 with
   | true=>
    rw [DI,DI,QF,PE];simp [IV.toInt,HQ]
   | false=>
    rw [DJ,DJ,QF,PE];simp [IV.toInt,HQ]
theorem ziZ (x:IV):(10:UInt8) ∉ VR x:=by
 unfold VR;cases GZ x with
 | true=>exact XR 10 (by decide) (by decide) _
 | false=>exact XR 10 (by decide) (by decide) _
theorem zjE (v:Vd):∀ l∈TW v,(10:UInt8) ∉ l:=by
 intro l hl;unfold TW at hl;cases h1:v.kind==1 with
 | true=>
  rw [h1,DI] at hl;rcases AO.1 hl with rfl | hl
  ·exact XR 10 (by decide) (by decide) _
  ·obtain ⟨x,_,rfl⟩:=CJ.1 hl;exact ziZ x
 | false=>
  rw [h1,DJ] at hl;cases h2:v.kind==2 with
  | true=>
   rw [h2,DI] at hl;obtain rfl:=BL.1 hl;exact XR 10 (by decide) (by decide) _
  | false=>
   rw [h2,DJ] at hl;cases h3:v.kind==3 with
   | true=>
    rw [h3,DI] at hl;obtain rfl:=BL.1 hl;exact XR 10 (by decide) (by decide) _
   | false=>
    rw [h3,DJ] at hl;obtain rfl:=BL.1 hl;exact XR 10 (by decide) (by decide) _
theorem Pq (v:Vd):∃ w ns L,TW v=HZ w ns :: L∧(32:UInt8) ∉ w∧(10:UInt8) ∉ w ∧
  ((v.kind=1∧w=I3.data.toList∧ns=[v.spent,ic v.proof.length]∧L.length=v.proof.length)∨(w≠I3.data.toList∧L=[])):=by
 unfold TW;by_cases h1:v.kind=1
 ·refine ⟨I3.data.toList,[v.spent,ic v.proof.length],v.proof.map VR,by rw [h1]; rfl,by decide,by decide,.inl ⟨h1,rfl,rfl,by simp⟩⟩
 rw [A5.2 h1,DJ];cases h2:v.kind==2 with
 | true=>exact ⟨_,_,[],rfl,by decide,by decide,.inr ⟨by decide,rfl⟩⟩
 | false=>
  cases h3:v.kind==3 with
  | true=>exact ⟨_,_,[],rfl,by decide,by decide,.inr ⟨by decide,rfl⟩⟩
  | false=>exact ⟨_,_,[],rfl,by decide,by decide,.inr ⟨by decide,rfl⟩⟩
theorem vG {s:BA} {w:List UInt8} {l:List Int} (h:s.data.toList=HZ w l++[10]) (h32:(32:UInt8) ∉ w):(NT s).map (fun x=>x.toStr.data.toList)=w :: l.map vaj:=by
 unfold NT;rw [vaY]
 have:((fun x=>x.toStr.data.toList) ∘ IV.str)=fun b:BA=>b.data.toList:=rfl
 rw [this,tZ,Pi h];exact uC l w h32
theorem zdb {s:BA} {w:List UInt8} {l:List Int} (h:s.data.toList=HZ w l++[10]) (h32:(32:UInt8) ∉ w) (hw:w≠I3.data.toList):LG s=1:=by
 unfold LG;rw [N5 (vG h h32) I3,A5.2 hw];rfl
theorem Um {s:BA} {w:List UInt8} {a n:Int} (h:s.data.toList=HZ w [a,n]++[10]) (h32:(32:UInt8) ∉ w) (hn:G7 n):KU (DW (NT s) 2)=true∧FJ (DW (NT s) 2)=n:=by
 have hm:=vG h h32;have hx:(DW (NT s) 2).data.toList=vaj n:=by
  match hq:NT s,hm with
  | [x,y,z],hm=>
   simp only [A0,CA,vas] at hm;exact hm.2.2.1
  | [],hm=>cases hm
  | [_],hm=>simp at hm
  | [_,_],hm=>simp at hm
  | _ :: _ :: _ :: _ :: _,hm=>simp at hm
 refine ⟨?_,wD hx hn.1 hn.2⟩;unfold KU;rw [hx,wF n hn.1 hn.2]
theorem zda {s:BA} {a:Int} {k:Nat} (h:s.data.toList=HZ I3.data.toList [a,ic k]++[10]) (hk:k≤65536):LG s=((k+1:Nat):Int):=by
 have hm:=vG h (by decide);have hlen:(NT s).length=3:=by
  have:=congrArg AF hm
  simpa using this
 have hat:=Um h (by decide) (Dm hk);unfold LG;rw [N5 hm I3,hlen,hat.1,hat.2];rw [show ic k=((k:Nat):Int) from rfl];rw [AL (show ¬ ((k:Nat):Int) < 0 by omega),AL (show ¬ ((k:Nat):Int) > 65536 by omega)];simp only [CY,A2,Bool.or_false,DJ,show (ic 3==3)=true from rfl];rw [show FO (1+((k:Nat):Int))=1+((k:Nat):Int) from EL (by omega) (by omega)];omega
theorem zjG {v:Vd} (hr:v.right=true) {s:BA} {l:List UInt8} {L:List (List UInt8)} (hv:TW v=l :: L) (h:s.data.toList=l++[10]):LG s=((TW v).length:Int):=by
 obtain ⟨w,ns,M,e,h32,h10,hc⟩:=Pq v;rw [e] at hv;obtain ⟨rfl,rfl⟩:=List.cons.inj hv;rcases hc with ⟨hk,rfl,rfl,hl⟩ | ⟨hw,rfl⟩
 ·have hp:=sU hr;rw [zda h hp,e,AM,hl]
 ·rw [zdb h h32 hw,e];rfl
theorem zf8 (s t:BA):OH (s++t) s=true∧GG (s++t) s=t:=by
 have h:Lib.hasPrefix (s++t).data.toList s.data.toList=true:=by
  unfold Lib.hasPrefix;rw [List.isPrefixOf_iff_prefix,XE];exact List.prefix_append _ _
 refine ⟨h,eC ?_⟩;unfold GG Lib.trimPrefix;rw [BP h,XE];simp
theorem zgZ {v:Vd} (hr:v.right=true) (hv:v.rng) (i:Nat) (t:BA) :
  lJ (HL i++(EH v++t)) i=true∧QN (HL i++(EH v++t)) i=EH v∧aI (HL i++(EH v++t)) i=t:=by
 have hp:=zf8 (HL i) (EH v++t);have er:J9 (HL i++(EH v++t)) i=EH v++t:=hp.2;have hd:(EH v++t).data.toList=HQ (TW v)++t.data.toList:=by rw [XE,Pr hr]
 have hno:=zjE v;obtain ⟨w,ns,M,e,h32,h10,hc⟩:=Pq v;have hd1:(EH v++t).data.toList=HQ [HZ w ns]++(HQ M++t.data.toList):=by rw [hd,e,PE]; simp [HQ]
 obtain ⟨a1,a2,a3⟩:=Ag hd1 (fun l hl=>hno l (by rw [e]; obtain rfl:=BL.1 hl; exact AN ..));have hfirst:(JE (EH v++t) 1).data.toList=HZ w ns++[10]:=by
  refine a2.trans ?_;simp [HQ]
 have hcnt:=zjG hr e hfirst;obtain ⟨b1,b2,b3⟩:=Ag hd hno;rw [← hcnt] at b1 b2 b3;have hown:QN (HL i++(EH v++t)) i=EH v:=by
  unfold QN;rw [er];exact eC (b2.trans (Pr hr).symm)
 refine ⟨?_,hown,?_⟩
 ·unfold lJ;rw [hown,er,hp.1,b1,rP hv,hr];rw [show LD (EH v++t) 1=true from a1];rfl
 ·unfold aI;rw [er];exact eC b3
def JK:Nat→List Vd→BA
 | _,[]=>D9
 | i,v :: r=>HL i++(EH v++JK (i+1) r)
theorem pF (i:Nat):0 < (HL i).size:=by
 unfold HL;rw [AV];show 0 < _+1;omega
theorem zjI (i:Nat) (v:Vd) (r:List Vd):((JK i (v :: r)).toList==D9.toList)=false:=by
 rw [ZD];refine AL fun h=>?_
 have:=congrArg AG h
 have hp:=pF i;unfold JK at this;rw [AV] at this;have e:D9.size=0:=rfl;omega
theorem u7:∀ (i:Nat) (vs:List Vd),vs.length≤(JK i vs).size
 | _,[]=>AZ _
 | i,v :: r=>by
  have:=u7 (i+1) r
  have hp:=pF i;unfold JK;rw [AV,AV,AM];omega
def HW (v:Vd):IV:=(IB (EH v)).I
theorem Oq:∀ (vs:List Vd) (n i:Nat) (out:LI),vs.length < n→(∀ v∈vs,v.right=true∧v.rng)→TU n i (JK i vs) out=some (out++vs.map HW)
 | [],n+1,i,out,_,_=>by
  unfold TU;rw [show ((JK i []).toList==D9.toList)=true by simp [JK],DI];simp
 | v :: r,n+1,i,out,hn,h=>by
  have hv:=h v (AN ..);obtain ⟨h1,h2,h3⟩:=zgZ hv.1 hv.2 i (JK (i+1) r);have ih:=Oq r n (i+1) (out++[HW v]) (by simp only [AM] at hn; omega) (fun x hx=>h x (AY _ hx));unfold TU;rw [zjI,DJ];rw [show JK i (v :: r)=HL i++(EH v++JK (i+1) r) from rfl,h1,DI,h2,h3];show TU n (i+1) (JK (i+1) r) (out++[HW v])=_;rw [ih,A0];simp
 | [],0,_,_,h,_=>by simp at h
 | _ :: _,0,_,_,h,_=>by simp at h
theorem zjo (vs:List Vd) (h:∀ v∈vs,v.right=true∧v.rng):KD (JK 0 vs)=some (vs.map HW):=by
 unfold KD;rw [Oq vs _ 0 [] (by have:=u7 0 vs; omega) h];rfl
theorem zjF (v:Vd):JY v.I=v:=rfl
theorem wH {v:Vd} (hr:v.right=true) (hv:v.rng):VSame (JY (HW v)) v:=by
 unfold HW;rw [zjF];unfold IB;rw [rP hv,hr,DI];exact sJ hr hv
open Go
theorem r9:∀ {l:LI} {left out:LI} {most:Int} {st:Int × Int} {lo:LI × LI},(∀ y∈left,(D7 y).good)→(∀ y∈out,(D7 y).good)→JF l (ic left.length,most)=some st→ID l (left,out)=some lo→∀ x∈l,I2 x=true∧NZ x
 | [],_,_,_,_,_,_,_,_,_=>fun x hx=>by cases hx
 | x :: l,left,out,most,st,lo,hl,ho,hd,hp=>by
  rw [JF] at hd;rw [ID] at hp;cases h1:LE (ic left.length,most) x with
  | none=>rw [h1] at hd; cases hd
  | some s1=>
   cases h2:LM (left,out) x with
   | none=>rw [h2] at hp; cases hp
   | some l1=>
    rw [h1] at hd;rw [h2] at hp;obtain ⟨g1,g2,g3⟩:=Hm hl ho h1 h2;have hx:I2 x=true∧NZ x:=by
     obtain ⟨hne,hr,hd'⟩:=oR h1;refine ⟨hr,?_⟩;have hlen:0 < left.length:=by simp only [ic] at hne; omega
     have ht:(D0 left).good:=hl _ (VU hlen).1;unfold LM at h2;rcases hd' with ⟨hs,_⟩ | ⟨hs,_⟩
     ·unfold I2 at hr;rw [hs,DI] at hr;simp only [AH,B8] at hr;unfold NZ G7;omega
     ·have hpl:=sT hr hs;rw [hs] at h2;cases hc:(decide (FR x < ((D0 left).g (FD x).toNat).lo)||decide (FR x≥((D0 left).g (FD x).toNat).hi)) with
      | true=>simp only [hc,BC,BJ] at h2; cases h2
      | false=>
       simp only [vaq,BW] at hc
       have:=ht (FD x).toNat (by omega)
       unfold NZ G7;omega
    obtain ⟨a,b⟩:=l1;obtain ⟨c,d⟩:=s1;obtain rfl:c=ic a.length:=g3;have ih:=r9 g1 g2 hd hp;intro y hy;rcases AO.1 hy with rfl | hy
    ·exact hx
    ·exact ih y hy
theorem zgk {b:Bx} (hb:b.good) {l outs:LI} (h:I7 b l=some outs):∀ x∈l,I2 x=true∧NZ x:=by
 unfold I7 at h;cases hd:decide (JQ l > 0) with
 | false=>rw [hd,DJ] at h; cases h
 | true=>
  rw [hd,DI] at h;obtain ⟨st,hst⟩:=oP (A1 hd);cases hp:ID l ([b.I],[]) with
  | none=>rw [hp] at h; cases h
  | some lo=>
   refine r9 (left:=[b.I]) (out:=[]) (most:=1) (fun y hy=>?_) (fun y hy=>by cases hy) hst hp;obtain rfl:=BL.1 hy;rw [IO]; exact hb
theorem Iu {x:IV} (h:I2 x=true):PU x=true:=by
 unfold I2 at h;unfold PU;cases hs:GZ x with
 | true=>
  rw [hs,DI] at h;simp only [AH,B8] at h;simp [h.1,h.2]
 | false=>
  rw [hs,DJ] at h;simpa using h
theorem Xb {l:LI} (h:JQ l > 0):1≤l.length:=by
 cases l with
 | nil=>exact absurd h (by decide)
 | cons x l=>simp
theorem Un {m:Md} {q:Qy} {s:Sr} (h:s.v.kind=2∨s.v.bare=true):(GM m q s).v.kind=2∨(GM m q s).v.bare=true:=by
 unfold GM;cases GW m q (D0 s.left) with
 | true=>
  rw [DI];cases (ic (s.left.length - 1)==0) with
  | true=>exact .inr rfl
  | false=>exact h
 | false=>
  rw [DJ];cases HJ m q (D0 s.left).low (D0 s.left).s4.hi with
  | true=>exact .inl rfl
  | false=>
   rw [DJ];cases (E1 m q (D0 s.left)).isSome with
   | true=>exact h
   | false=>exact .inr rfl
theorem wI {m:Md} {q:Qy}:∀ (d:Nat) (s:Sr),s.v.kind=2∨s.v.bare=true→(LQ m q d s).v.kind=2∨(LQ m q d s).v.bare=true
 | 0,_,h=>h
 | d+1,s,h=>by
  rw [LQ];cases JU q s with
  | true=>exact h
  | false=>exact wI d _ (Un h)
theorem Ja (m:Md) (q:Qy):(EC m q).kind=2∨(EC m q).bare=true:=by
 have hn:(RS m q).v.kind=2∨(RS m q).v.bare=true:=by
  unfold RS;cases E8 m q <;> exact .inr rfl
 have h:=wI (m:=m) (q:=q) (q.bu.toNat+1) _ hn;unfold EC;generalize LQ m q (q.bu.toNat+1) (RS m q)=s at h;rcases h with h | h
 ·exact .inl (by simp [GQ,h])
 ·exact .inr h
theorem Cg {b:Bx} (hb:b.good) {p:Pt} {t:Int} (h:b.has p t=true):G7 p.p0∧G7 p.p1∧G7 p.p2∧G7 p.p3∧G7 t:=by
 unfold Bx.has Sp.has at h;simp only [AH,AQ] at h;have h0 : -2147483648≤b.s0.lo∧b.s0.lo≤b.s0.hi∧b.s0.hi≤2147483647:=hb 0 (by omega);have h1 : -2147483648≤b.s1.lo∧b.s1.lo≤b.s1.hi∧b.s1.hi≤2147483647:=hb 1 (by omega);have h2 : -2147483648≤b.s2.lo∧b.s2.lo≤b.s2.hi∧b.s2.hi≤2147483647:=hb 2 (by omega);have h3 : -2147483648≤b.s3.lo∧b.s3.lo≤b.s3.hi∧b.s3.hi≤2147483647:=hb 3 (by omega);have h4 : -2147483648≤b.s4.lo∧b.s4.lo≤b.s4.hi∧b.s4.hi≤2147483647:=hb 4 (by omega);unfold G7;omega
theorem Jd {m:Md} {q:Qy} (hr:E8 m q=true) (hp:KQ m q (GE q)≤199):(EC m q).right=true∧(EC m q).rng:=by
 obtain ⟨s1,s2,s3,hk,h0,hbu⟩:=sX hr hp;have hb:=Ja m q;have h6:=(VN hr).2.2.1;have hg:=mE hr;generalize EC m q=v at s1 s2 s3 hk h0 hbu hb;have hsp:G7 v.spent:=by unfold G7; omega
 have r0:decide (0≤v.spent)=true:=AD h0;have r1:decide (v.spent≤65536)=true:=AD (by omega);rcases hk with hk | hk | hk
 ·obtain ⟨hpv,hlen,hdp⟩:=s1 hk;have hbare:v.bare=true:=by
   rcases hb with h | h
   ·omega
   ·exact h
  obtain ⟨z0,z1,z2,z3,z4⟩:=d9 hbare;have hst:∀ x∈v.proof,I2 x=true∧NZ x:=by
   unfold IC at hpv;rw [hr,A6,show (v.kind==1)=true by rw [hk]; rfl,DI] at hpv;cases hps:I7 (GE q) v.proof with
   | none=>rw [hps] at hpv; cases hpv
   | some outs=>exact zgk hg hps
  have hsB:N0 v.proof=true:=by
   unfold N0;have l1:=Xb hdp;have l2:v.proof.length≤65536:=by simp only [ic] at hlen; omega
   rw [AD l1,AD l2,A6,A6,CQ];exact fun x hx=>Iu (hst x hx).1
  refine ⟨?_,?_⟩
  ·unfold Vd.right;rw [r0,r1,hbare,hsB,show (v.kind==1)=true by rw [hk]; rfl];rfl
  ·exact { w0:=by rw [z0]; exact F5,w1:=by rw [z1]; exact F5,w2:=by rw [z2]; exact F5,w3:=by rw [z3]; exact F5,twin:=by rw [z4]; exact F5,spent:=hsp,proof:=fun x hx=>(hst x hx).2 }
 ·obtain ⟨hpv,hnil,_⟩:=s2 hk;unfold IC at hpv;rw [hr,A6,show (v.kind==1)=false by rw [hk]; rfl,DJ,show (v.kind==2)=true by rw [hk]; rfl,DI,AH] at hpv;have hin:=Cg hg hpv.1;refine ⟨?_,?_⟩
  ·unfold Vd.right;rw [r0,r1,hnil,show (v.kind==2)=true by rw [hk]; rfl];simp
  ·exact { w0:=hin.1,w1:=hin.2.1,w2:=hin.2.2.1,w3:=hin.2.2.2.1,twin:=hin.2.2.2.2,spent:=hsp,proof:=fun x hx=>by rw [hnil] at hx; cases hx }
 ·obtain ⟨_,hnil⟩:=s3 hk;have hbare:v.bare=true:=by
   rcases hb with h | h
   ·omega
   ·exact h
  obtain ⟨z0,z1,z2,z3,z4⟩:=d9 hbare;refine ⟨?_,?_⟩
  ·unfold Vd.right;rw [r0,r1,hnil,hbare,show (v.kind==3)=true by rw [hk]; rfl];simp
  ·exact { w0:=by rw [z0]; exact F5,w1:=by rw [z1]; exact F5,w2:=by rw [z2]; exact F5,w3:=by rw [z3]; exact F5,twin:=by rw [z4]; exact F5,spent:=hsp,proof:=fun x hx=>by rw [hnil] at hx; cases hx }
theorem zg3 {m:Md} {q:Qy} (hr:E8 m q=true) (hp:KQ m q (GE q)≤199):QJ (EH (EC m q))=true∧YK (IB (EH (EC m q))) (EC m q)=true∧(EH (EC m q)).size≤4000000∧(EH (HT (EH (EC m q)))).size≤4000000:=by
 obtain ⟨h1,h2⟩:=Jd hr hp;have hok:QJ (EH (EC m q))=true:=by rw [rP h2]; exact h1
 refine ⟨hok,?_,gB h2,gB (Ic _)⟩;unfold IB;rw [hok,DI];exact u6.2 (sJ h1 h2)
open Go
theorem lL {m:Md} {q:Qy} (hr:E8 m q=true):(EC m q).right=true∧(EC m q).rng∧((EC m q).kind=1∨(EC m q).kind=2∨(EC m q).kind=3)∧(EC m q).spent≤q.bu ∧
  ((EC m q).kind=3→(EC m q).spent=q.bu)∧((EC m q).kind≠3→1≤(EC m q).spent):=by
 have h3:=(VN hr).2.2.1;have hb:=Ja m q;have hg:=mE hr;have hnew:RS m q=⟨[(GE q).I],[],Vd.none,0⟩:=by unfold RS; rw [hr,DI]
 obtain ⟨hi,ho⟩:=sS hr (q.bu.toNat+1) _ (It hr) (by show q.bu < 0+_; omega);unfold EC at hb ⊢;rw [hnew] at hb ⊢;generalize LQ m q (q.bu.toNat+1) _=s at hi ho hb;have hsp:=hi.sp;have r0:decide (0≤(GQ s).spent)=true:=AD hsp.1;have r1:decide ((GQ s).spent≤65536)=true:=AD (by show s.spent≤65536; omega);have hspI:G7 (GQ s).spent:=by show G7 s.spent; unfold G7; omega
 have bare_rng:(GQ s).bare=true→(∀ x∈(GQ s).proof,NZ x)→(GQ s).rng:=fun hbare hst=>by
  obtain ⟨z0,z1,z2,z3,z4⟩:=d9 hbare;exact { w0:=by rw [z0]; exact F5,w1:=by rw [z1]; exact F5,w2:=by rw [z2]; exact F5,w3:=by rw [z3]; exact F5,twin:=by rw [z4]; exact F5,spent:=hspI,proof:=hst }
 rcases hi.kinds with hk | hk | hk
 ·have ek:(GQ s).kind=3:=by simp [GQ,hk]
  have hnil:(GQ s).proof=[]:=(hi.opn hk).2.2.2.1;have hbare:(GQ s).bare=true:=by
   rcases hb with h | h
   ·omega
   ·exact h
  have heq:s.spent=q.bu:=by
   unfold JU at ho;rw [hk] at ho
   have:s.spent≥q.bu:=by simpa using ho
   omega
  refine ⟨?_,bare_rng hbare (fun x hx=>by rw [hnil] at hx; cases hx),.inr (.inr ek),hsp.2,fun _=>heq,fun h=>absurd ek h⟩;unfold Vd.right;rw [r0,r1,hnil,hbare,show ((GQ s).kind==3)=true by rw [ek]; rfl];simp
 ·have ek:(GQ s).kind=1:=by simp [GQ,hk]
  have hbare:(GQ s).bare=true:=by
   rcases hb with h | h
   ·omega
   ·exact h
  obtain ⟨hrp,hl,hlen,hvp⟩:=hi.holds hk;have epr:(GQ s).proof=s.proof:=hvp;obtain ⟨outs,hps,_⟩:=hrp.ps;obtain ⟨most,hdp,_,_⟩:=hrp.dp;have hst:∀ x∈(GQ s).proof,I2 x=true∧NZ x:=by
   rw [epr];refine r9 (left:=[(GE q).I]) (out:=[]) (most:=1) (fun y hy=>?_) (fun y hy=>by cases hy) hdp hps;obtain rfl:=BL.1 hy;rw [IO]; exact hg
  have hl1:1≤s.proof.length:=by
   cases hp:s.proof with
   | nil=>
    rw [hp,hl] at hdp
    have:=congrArg Prod.fst (CR hdp)
    exact absurd (show (1:Int)=0 from this) (by decide)
   | cons x r=>simp
  have hsB:N0 (GQ s).proof=true:=by
   unfold N0;rw [epr,AD hl1,AD (show s.proof.length≤65536 by simp only [ic] at hlen; omega),A6,A6,CQ];exact fun x hx=>Iu (hst x (by rw [epr]; exact hx)).1
  refine ⟨?_,bare_rng hbare (fun x hx=>(hst x hx).2),.inl ek,hsp.2,fun h=>by omega,fun _=>by show 1≤s.spent; simp only [ic] at hlen; omega⟩;unfold Vd.right;rw [r0,r1,hbare,hsB,show ((GQ s).kind==1)=true by rw [ek]; rfl];rfl
 ·have ek:(GQ s).kind=2:=by simp [GQ,hk]
  obtain ⟨hvp,hs1,hh,_⟩:=hi.fails hk;have hnil:(GQ s).proof=[]:=hvp;have hin:=Cg hg hh;refine ⟨?_,{ w0:=hin.1,w1:=hin.2.1,w2:=hin.2.2.1,w3:=hin.2.2.2.1,twin:=hin.2.2.2.2,spent:=hspI,proof:=fun x hx=>by rw [hnil] at hx; cases hx },.inr (.inl ek),hsp.2,fun h=>by omega,fun _=>hs1⟩;unfold Vd.right;rw [r0,r1,hnil,show ((GQ s).kind==2)=true by rw [ek]; rfl];simp
theorem Qe:mW.right=true∧mW.rng:=⟨by decide,{ w0:=F5,w1:=F5,w2:=F5,w3:=F5,twin:=F5,spent:=F5,proof:=fun x hx=>by cases hx }⟩
theorem Tv {m:Md} {q:Qy} (hr:E8 m q=true):(UL m q).right=true∧(UL m q).rng:=by
 unfold UL;cases ((EC m q).kind==3||IC m q (EC m q)) with
 | true=>exact ⟨(lL hr).1,(lL hr).2.1⟩
 | false=>exact Qe
theorem nC {m:Md} {l:BA} (h:NG m l=true):E8 m (EZ l)=true:=by
 unfold NG at h;simp only [AH] at h;exact h.2.2
theorem nE (m:Md) (l:BA):(JD m l).right=true∧(JD m l).rng:=by
 unfold JD;cases h:NG m l with
 | true=>exact Tv (nC h)
 | false=>exact Qe
theorem sN (m:Md):∀ (ls:LI) (s:BA) (i:Nat),VJ m s i ls=s++JK i (ls.map fun x=>JD m x.toStr)
 | [],s,i=>by
  show s=s++D9;exact (ByteArray.append_empty).symm
 | x :: l,s,i=>by
  rw [VJ,sN m l,A0,JK,C8,C8]
def MR (m:Md) (ls:LI):List Vd:=ls.map fun x=>JD m x.toStr
theorem sW {a:BA} (h:K6 a=true) (b:BA):F9 a b=JK 0 (MR (FS a) (E6 b)):=by
 unfold F9 MR;rw [h,DI,sN];exact ByteArray.empty_append
theorem vU (m:Md) (ls:LI):∀ v∈MR m ls,v.right=true∧v.rng:=by
 intro v hv;obtain ⟨x,_,rfl⟩:=CJ.1 hv;exact nE m x.toStr
theorem Ot {a:BA} (h:K6 a=true) (b:BA):KD (F9 a b)=some ((MR (FS a) (E6 b)).map HW):=by
 rw [sW h,zjo _ (vU _ _)]
theorem ziP {x y:IV} (h:TS x y=true):I2 x=I2 y:=by
 obtain ⟨h1,h2,h3⟩:=R6.1 h;unfold I2;rw [h1,h2,h3]
theorem Jj:∀ {l m:LI} (st:Int × Int),FH l m=true→JF l st=JF m st
 | [],[],_,_=>rfl
 | [],_ :: _,_,h=>by simp [FH] at h
 | _ :: _,[],_,h=>by simp [FH] at h
 | x :: l,y :: m,st,h=>by
  simp only [FH,AH] at h;obtain ⟨h1,h2,h3⟩:=R6.1 h.1;have e:LE st x=LE st y:=by
   unfold LE;rw [ziP h.1,h1]
  rw [JF,JF,e];cases LE st y with
  | none=>rfl
  | some st'=>exact Jj st' h.2
theorem Jm:∀ {l m:LI} (st:LI × LI),FH l m=true→ID l st=ID m st
 | [],[],_,_=>rfl
 | [],_ :: _,_,h=>by simp [FH] at h
 | _ :: _,[],_,h=>by simp [FH] at h
 | x :: l,y :: m,st,h=>by
  simp only [FH,AH] at h;obtain ⟨h1,h2,h3⟩:=R6.1 h.1;have e:LM st x=LM st y:=by
   unfold LM;rw [h1,h2,h3]
  rw [ID,ID,e];cases LM st y with
  | none=>rfl
  | some st'=>exact Jm st' h.2
theorem zhc {l m:LI} (b:Bx) (h:FH l m=true):I7 b l=I7 b m:=by
 have e:JQ l=JQ m:=by
  unfold JQ;rw [Jj _ h,lN h]
 unfold I7;rw [e,Jm _ h]
theorem Hk {m:Md} {q:Qy} {a b:Vd} (h:VSame a b):IC m q a=IC m q b:=by
 unfold IC Vd.p;rw [h.kind,zhc _ h.proof,h.w0,h.w1,h.w2,h.w3,h.twin]
theorem Uq {m:Md} {l:BA} {a b:Vd} (h:VSame a b):O6 m l a=O6 m l b:=by
 unfold O6;rw [h.kind,h.spent,Hk h]
def YD (m:Md) (q:Qy):Bool:=(EC m q).kind==3||IC m q (EC m q)
theorem Up {m:Md} {l:BA} (h:NG m l=true→YD m (EZ l)=true):O6 m l (JD m l)=true:=by
 unfold O6 JD;cases hk:NG m l with
 | false=>rfl
 | true=>
  rw [DI,DI];have hr:=nC hk;obtain ⟨_,_,hkind,hbu,h3,h1⟩:=lL hr;have hs:=h hk;have e:UL m (EZ l)=EC m (EZ l):=by
   unfold UL;rw [show ((EC m (EZ l)).kind==3||IC m (EZ l) (EC m (EZ l)))=true from hs,DI]
  rw [e];unfold YD at hs;rcases hkind with hk | hk | hk
  ·rw [hk] at hs;rw [hk,show IC m (EZ l) (EC m (EZ l))=true by simpa using hs,AD (show (EC m (EZ l)).spent≥1 from h1 (by omega)),AD hbu];rfl
  ·rw [hk] at hs;rw [hk,show IC m (EZ l) (EC m (EZ l))=true by simpa using hs,AD (show (EC m (EZ l)).spent≥1 from h1 (by omega)),AD hbu];rfl
  ·rw [hk,h3 hk];simp
theorem wJ {m:Md}:∀ (ls:LI),(∀ x∈ls,NG m x.toStr=true→YD m (EZ x.toStr)=true)→UM m ((MR m ls).map HW) ls=true
 | [],_=>rfl
 | x :: ls,h=>by
  have h1:=Uq (m:=m) (l:=x.toStr) (wH (nE m x.toStr).1 (nE m x.toStr).2);show (O6 m x.toStr (JY (HW (JD m x.toStr)))&&UM m ((MR m ls).map HW) ls)=true;rw [h1,Up (h x (AN ..)),A6];exact wJ ls fun y hy=>h y (AY _ hy)
theorem zgN {a:BA} (b:BA) (h:∀ x∈E6 b,NG (FS a) x.toStr=true→YD (FS a) (EZ x.toStr)=true):aG a b (F9 a b)=true:=by
 unfold aG;cases ha:K6 a with
 | false=>
  rw [DJ];unfold F9;rw [ha,DJ];simp
 | true=>
  rw [DI,Ot ha];show (ic _==ic _&&UM (FS a) ((MR (FS a) (E6 b)).map HW) (E6 b))=true;rw [wJ _ h];simp [MR]
theorem Oh {m:Md} {q:Qy} (hr:E8 m q=true) (hp:KQ m q (GE q)≤199):YD m q=true:=by
 obtain ⟨s1,s2,_,hk,_,_⟩:=sX hr hp;unfold YD;rcases hk with hk | hk | hk
 ·rw [(s1 hk).1]; simp
 ·rw [(s2 hk).1]; simp
 ·rw [hk]; rfl
open Go Go.Proofs
theorem Kq:DX PR B0 31 WQ:=by
 refine D6 [(46,NF),(47,SS)] [] WQ [[.list false [.str]]] Tryz.func31 zbw ⟨aP,tX,trivial⟩ ?_;intro vs r hwf h;unfold WQ at h;split at h
 ·rename_i s;cases hg:(decide (s.size < 4294967281)) with
  | false=>rw [hg] at h; simp [R.get] at h
  | true=>
  rw [hg,R.get_br,DI,R.get_ok] at h;refine ⟨0,(zei 0 s).trans ?_⟩;have hz:=A1 hg;have ht:=aT s EJ;rw [show decide (1≤AG { data:=#[10] })=true from rfl,B1,AD (show (GH s { data:=#[10] }).size < 4294967281 by exact Nat.lt_of_le_of_lt ht hz),DI,← h];unfold E6;cases (s.toList==D9.toList) <;> rfl
 ·simp [R.get] at h
theorem zhY:DX PR B0 32 cS:=by
 refine D6 [(73,WG),(26,P2),(65,MQ),(35,SR)] [] cS [[.z,.list true [.bool,.z,.z],.z,.z,.z,.z,.z,.z]] Tryz.func32 zbv ⟨Kg,lW,aO,tT,trivial⟩ ?_;intro vs r hwf h;unfold cS at h;split at h
 ·rename_i m l;replace h:=KE h;obtain ⟨m,rfl,h⟩:=h;cases hg:(decide (l.size < 4294967281)) with
  | false=>rw [hg] at h; simp [R.get] at h
  | true=>
  rw [hg,R.get_br,DI,R.get_ok] at h;refine ⟨0,(zeh 0 m l).trans ?_⟩;rw [hg,DI,← h];unfold JD NG UL;rw [show (MS l != m.d)=!(MS l==m.d) from rfl];cases NH l
  ·rfl
  cases (MS l==m.d)
  ·rfl
  cases E8 m (EZ l)
  ·rfl
  cases ((EC m (EZ l)).kind==3)
  ·cases IC m (EZ l) (EC m (EZ l)) <;> rfl
  ·rfl
 ·simp [R.get] at h
theorem Ik (m:Md) (s:BA) (i:Nat) (l:LI):s.size+l.length≤(VJ m s i l).size:=by
 rw [sN,AV]
 have:=u7 i (l.map fun x=>JD m x.toStr)
 rw [BE] at this;omega
theorem Jb (N:Nat) (a:BA) (ls:LI) (hs:∀ x∈ls,x.toStr.size < 4294967281) (hl:ls.length≤strMax) (K:Out→St→DN) (hx:∀ x y so,K (.exit 0) (V7 a D9 ls x y so)=some (.str so,[])) :
  ∀ (d i n:Nat) (so:BA),i+d=ls.length→d < n→(VJ (FS a) so i (ls.drop i)).size≤strMax →
   DY (UE N) (DK XA [1,1,1,1,0,1,0,0]) ⟨[4,5,7,18,19,20],[5,7],[]⟩ n (V7 a D9 ls (ic ls.length) (i:Int) so) K=some (.str (VJ (FS a) so i (ls.drop i)),[])
 | 0,i,n+1,so,hd,_,_=>by
  rw [D5,My,I5 (by omega),CS (by omega),DJ];exact hx _ _ _
 | d+1,i,n+1,so,hd,hn,hz=>by
  have hi:i < ls.length:=by omega
  rw [BG hi] at hz ⊢;rw [VJ] at hz ⊢;have h1:=Ik (FS a) (so++HL i++EH (JD (FS a) ls[i].toStr)) (i+1) (ls.drop (i+1));have h2:(so++HL i++EH (JD (FS a) ls[i].toStr)).size=so.size+(MK.size+(DP (i:Int)).size+EJ.size)+(EH (JD (FS a) ls[i].toStr)).size:=by
   unfold HL;simp only [AV]
  have e1:MK.size=6:=rfl;have e2:EJ.size=1:=rfl;have h3:(so++HL i).size=so.size+(MK.size+(DP (i:Int)).size+EJ.size):=by
   unfold HL;simp only [AV]
  have h4:=hs ls[i] (C1 hi);unfold strMax at hl;rw [D5,My,HA hi,IL,HD (by omega),H8 hi];rw [AD (show AG { data:=#[113,117,101,114,121,32] }+(DP (i:Int)).size≤strMax by show MK.size+_≤_; omega)];rw [AD (show AG ({ data:=#[113,117,101,114,121,32] }++DP (i:Int))+AG { data:=#[10] }≤strMax by rw [AV]; show MK.size+_+EJ.size≤_; omega)];rw [AD (show so.size+(U6 (i:Int)).size≤strMax by rw [← AV]; show (so++HL i).size≤_; omega)];rw [AD h4,AD (show (EH (JD (FS a) ls[i].toStr)).size≤strMax by omega)];rw [AD (show (so++U6 (i:Int)).size+(EH (JD (FS a) ls[i].toStr)).size≤strMax by show (so++HL i).size+_≤_; omega)];simp only [DI,B1];exact Jb N a ls hs (by unfold strMax; omega) K hx d (i+1) n _ (by omega) (by omega) hz
 | 0,_,0,_,_,h,_=>by omega
 | _+1,_,0,_,_,h,_=>by omega
theorem ziK {s sep:BA} {n:Nat} (h:s.size < n):∀ x∈D2 s sep,x.size < n:=fun x hx=>by
 have:=(YC sep _ s).2 x hx
 omega
theorem Dx {s:BA} {n:Nat} (h:s.size < n):∀ x∈E6 s,x.toStr.size < n:=by
 intro x hx;unfold E6 at hx;cases he:(s.toList==D9.toList) with
 | true=>rw [he,DI] at hx; cases hx
 | false=>
  rw [he,DJ] at hx;obtain ⟨y,hy,rfl⟩:=CJ.1 hx;have ht:=aT s EJ;exact ziK (Nat.lt_of_le_of_lt ht h) y hy
theorem lY:DX PR B0 22 P4:=by
 refine D6 [(24,P1),(32,cS),(31,WQ),(43,O3),(56,UG),(60,UH),(19,ST)] [(6,⟨[4,5,7,18,19,20],[5,7],[]⟩)] P4 [[.str]] Tryz.func22 zbx ⟨lV,zhY,Kq,gS,tU,tV,tY,trivial⟩ ?_;intro vs r hwf h;unfold P4 at h;split at h
 ·rename_i a b;cases hg:(decide (a.size < 4294967281)&&(decide (b.size < 4294967281)&&decide ((F9 a b).size≤strMax))) with
  | false=>rw [hg] at h; simp [R.get] at h
  | true=>
  rw [hg,R.get_br,DI,R.get_ok] at h;rw [AH,AH] at hg;have hz:=A1 hg.2.2;refine ⟨(E6 b).length+1,(zej _ a b).trans ?_⟩;rw [hg.1,DI,← h];unfold F9 at hz ⊢;cases ht:K6 a with
  | false=>rfl
  | true=>
   rw [ht,DI] at hz;simp only [A2,DJ,DI];rw [hg.2.1,DI];have hl:=Ik (FS a) D9 0 (E6 b);have e0:D9.size=0:=rfl
   have:=Jb ((E6 b).length+1) a (E6 b) (Dx (A1 hg.2.1)) (by omega) _ (fun x y so=>Za ((E6 b).length+1) a D9 (E6 b) x y so) (E6 b).length 0 ((E6 b).length+1) D9 (by omega) (by omega) (by rw [B2]; exact hz)
   rw [B2] at this;exact this
 ·simp [R.get] at h
theorem zag (s:BA) (a:Nat):(s.extract a s.size).data.toList=s.data.toList.drop a:=by
 rw [vbe,Array.toList_extract,List.extract_eq_take_drop];exact CV (by rw [CX,TQ]; omega)
def Af (s:BA):Option Nat→DN
 | some e=>some (.tup [.str (s.extract 0 e),.str (s.extract e s.size),.bool true],[])
 | none=>some (.tup [.str D9,.str D9,.bool false],[])
theorem Ah (N:Nat) (s:BA) (n:Int) (hs:s.size < 4294967281) (K:Out→St→DN)
  (hx:∀ at_ x,K (.exit 0) (Q1 s D9 D9 false at_ n x)=cond (decide (0≤at_)&&decide (at_≤ic s.size)) (cond (decide (0≤at_)&&decide (at_≤ic s.size)) (some (.tup [.str (s.extract 0 at_.toNat),.str (s.extract at_.toNat s.size),.bool true],[])) none) none)
  (hr:∀ at_ x,K .ret (Q1 s D9 D9 false at_ n x)=some (.tup [.str D9,.str D9,.bool false],[])) :
  ∀ (f d at_ i:Nat),at_+d=s.size→d < f→i≤at_ →
   DY (Q4 N) (DK US [1,1,0,1,0,0]) ⟨[0,4,5,6,7,9,10],[],[]⟩ f (Q1 s D9 D9 false (at_:Int) n (i:Int)) K=Af s (PF s.data.toList (n - i).toNat at_)
 | f+1,d,at_,i,hd,hf,hi=>by
  have hin:(decide (0≤((at_:Nat):Int))&&decide (((at_:Nat):Int)≤ic s.size))=true:=by
   rw [AD (show 0≤((at_:Nat):Int) by omega),AD (show ((at_:Nat):Int)≤ic s.size by simp only [ic]; omega)];rfl
  rw [D5,ziR];by_cases hn:((i:Nat):Int) < n
  ·rw [AD hn,DI,hin,DI,BF,zag];rw [show (Nat.toUInt8 (AE 10))=(10:UInt8) from rfl];have hb:=pH (s.data.toList.drop at_) 10;rw [CX,← TQ] at hb;obtain ⟨k,hk⟩:∃ k,(n - i).toNat=k+1:=⟨(n - i).toNat - 1,by omega⟩;rw [hk,PF];cases hc:decide (DG (s.data.toList.drop at_) 10 < 0) with
   | true=>
    rw [DI,DI];exact hr _ _
   | false=>
    rw [DJ,DJ];have h0:=BH hc;obtain ⟨j,hj⟩:∃ j:Nat,DG (s.data.toList.drop at_) 10=(j:Int):=⟨(DG (s.data.toList.drop at_) 10).toNat,by omega⟩;rw [hj] at hb ⊢;have w1:AA AB ((j:Int)+1)=(j:Int)+1:=EL (by omega) (by omega);have w2:AA AB ((at_:Int)+((j:Int)+1))=((at_+j+1:Nat):Int):=by
     rw [show (at_:Int)+((j:Int)+1)=((at_+j+1:Nat):Int) by omega];exact EL (by omega) (by omega)
    have w3:AA AB ((i:Int)+1)=((i+1:Nat):Int):=by
     rw [show (i:Int)+1=((i+1:Nat):Int) by omega];exact EL (by omega) (by omega)
    rw [w1,w2,w3,BF];have ih:=Ah N s n hs K hx hr f (s.size - (at_+j+1)) (at_+j+1) (i+1) (by omega) (by omega) (by omega);rw [ih]
    have:(n - ((i+1:Nat):Int)).toNat=k:=by omega
    rw [this]
  ·rw [AL hn,DJ,show (n - i).toNat=0 by omega,PF,hx,hin,DI,DI,BF];rfl
 | 0,d,at_,i,_,hf,_=>by omega
theorem Ws (s:BA) (n:Int):Af s (PF s.data.toList n.toNat 0)=some (.tup [.str (JE s n),.str (S4 s n),.bool (LD s n)],[]):=by
 unfold JE S4 LD eO;cases PF s.data.toList n.toNat 0 <;> rfl
theorem zhr:DX PR B0 58 bP:=by
 refine D6 [(102,iM)] [(3,⟨[0,4,5,6,7,9,10],[],[]⟩)] bP [[.str],[.str],[.bool]] Tryz.func58 zaF ⟨ziz,trivial⟩ ?_;intro vs r hwf h;unfold bP at h;split at h
 ·rename_i s n;cases hg:(decide (s.size < 4294967281)) with
  | false=>rw [hg] at h; simp [R.get] at h
  | true=>
  rw [hg,R.get_br,DI,R.get_ok] at h;refine ⟨s.size+1,(zdx _ s n).trans ?_⟩
  have:=Ah (s.size+1) s n (A1 hg) _ (fun a x=>Xy (s.size+1) s D9 D9 false a n x) (fun a x=>Xz (s.size+1) s D9 D9 false a n x) (s.size+1) s.size 0 0 (by omega) (by omega) (by omega)
  refine this.trans ?_;rw [show (n - ((0:Nat):Int)).toNat=n.toNat by omega,Ws,← h]
 ·simp [R.get] at h
theorem zhs:DX PR B0 59 bQ:=by
 refine D6 [(90,RC),(46,NF),(47,SS)] [] bQ [[.z]] Tryz.func59 zaG ⟨lZ,aP,tX,trivial⟩ ?_;intro vs r hwf h;unfold bQ at h;split at h
 ·rename_i s;cases hg:(decide (s.size < 4294967281)) with
  | false=>rw [hg] at h; simp [R.get] at h
  | true=>
  rw [hg,R.get_br,DI,R.get_ok] at h;refine ⟨0,(zdy 0 s).trans ?_⟩;have hz:=A1 hg;have ht:=aT s EJ;rw [show decide (1≤AG { data:=#[32] })=true from rfl,B1,AD (show (GH s { data:=#[10] }).size < 4294967281 by exact Nat.lt_of_le_of_lt ht hz),DI];rw [uD,show (decide ((0:Nat)≤0)&&true)=true from rfl,DI,← h];show _=(some (V.int .i64 (LG s),[]):DN);unfold LG ML DW NT;rw [show AE 0=0 from rfl,show AE 2=2 from rfl];generalize hL:A3 IV.str (D2 (GH s EJ) VZ)=L;cases ((L.getD 0 default).toStr.toList==I3.toList)
  ·rfl
  cases h3:(ic L.length==3) with
  | false=>
   rw [show (ic L.length != 3)=!(ic L.length==3) from rfl,h3];rfl
  | true=>
   rw [show (ic L.length != 3)=!(ic L.length==3) from rfl,h3];have e3:ic L.length=3:=by simpa using h3
   rw [e3,show (decide ((0:Nat)≤2)&&decide ((2:Int) < 3))=true from rfl];simp only [A2,Bool.or_self,DJ,DI];cases KU (L.getD 2 default).toStr
   ·rfl
   cases decide (FJ (L.getD 2 default).toStr < 0)
   ·cases decide (FJ (L.getD 2 default).toStr > 65536) <;> rfl
   ·rfl
 ·simp [R.get] at h
theorem zhq:DX PR B0 72 bO:=by
 refine D6 [(73,WG),(26,P2),(65,MQ)] [] bO [[.bool]] Tryz.func72 zaE ⟨Kg,lW,aO,trivial⟩ ?_;intro vs r hwf h;unfold bO at h;split at h
 ·rename_i m l v;replace h:=KE h;obtain ⟨m,rfl,h⟩:=h;replace h:=Qc h;obtain ⟨v,rfl,h⟩:=h;cases hg:(decide (l.size < 4294967281)) with
  | false=>rw [hg] at h; simp [R.get] at h
  | true=>
  rw [hg,R.get_br,DI,R.get_ok] at h;refine ⟨0,(zdw 0 m l v).trans ?_⟩;rw [hg,DI,← h];unfold O6 NG;rw [show (MS l != m.d)=!(MS l==m.d) from rfl];have hw:(cond (v.kind==4) (some (V.bool (v.spent==0),[])) (some (V.bool false,[])):DN)=some (V.bool (v.kind==4&&v.spent==0),[]):=by cases v.kind==4 <;> rfl
  cases NH l
  ·exact hw
  cases (MS l==m.d)
  ·exact hw
  cases E8 m (EZ l)
  ·exact hw
  simp only [A2,DJ,DI,B3];cases v.kind==3
  ·cases v.kind==1 <;> cases v.kind==2 <;> cases decide (v.spent≥1) <;> cases decide (v.spent≤(EZ l).bu) <;> rfl
  ·rfl
 ·simp [R.get] at h
open Go Go.Proofs
def Q3 (N:Nat):Env:=D4 [(58,bP),(59,bQ),(23,WL),(43,O3),(57,Y2)] [(3,⟨[0,2,3,4,5],[56],[⟨.tmp 4,56,55,true,TC⟩]⟩)] 59 N
abbrev N6 (s0:BA) (b3:Bool) (n4:Nat) (x5:Int) (lo56:LI):St:=⟨[(0,(.str s0)),(2,.zs),(3,(.bool b3)),(4,(.row 56 0 n4)),(5,(.i x5))],[(56,(some (.row true 55 true [.z,.list true EB,.z,.z,.z,.z,.z,.z] lo56)))]⟩
theorem zdv (N:Nat) (u00:BA):DZ (Q3 N) UR [.tmp 2,.tmp 3] [[.list true [.z,.list true [.bool,.z,.z],.z,.z,.z,.z,.z,.z]],[.bool]] [.str u00]=(DY (Q3 N) (DK UR [1,1,0,1,0,0]) ⟨[0,2,3,4,5],[56],[⟨(.tmp 4),56,55,true,[.z,.list true EB,.z,.z,.z,.z,.z,.z]⟩]⟩ N (N6 u00 false 0 0 []) (DQ 0 (DS (Q3 N) (DK UR [1,1,1]) (DT (Q3 N) none [.tmp 2,.tmp 3] [[.list true [.z,.list true EB,.z,.z,.z,.z,.z,.z]],[.bool]])))):=by kernel_rfl
theorem ziQ (N:Nat) (s0:BA) (b3:Bool) (n4:Nat) (x5:Int) (lo56:LI) (again:St→DN) (k:Out→St→DN):E2 (Q3 N) (DK UR [1,1,0,1,0,0]) (N6 s0 b3 n4 x5 lo56) (EQ again ⟨[0,2,3,4,5],[56],[⟨(.tmp 4),56,55,true,[.z,.list true EB,.z,.z,.z,.z,.z,.z]⟩]⟩ k)=(cond (!AW s0==AW {data:=#[]}) (cond (decide (AG {data:=#[113,117,101,114,121,32]}+AG (DP x5)≤strMax)) (cond (decide (AG ({data:=#[113,117,101,114,121,32]}++DP x5)+AG {data:=#[10]}≤strMax)) (cond (!OH s0 (U6 x5)) (k .ret (N6 s0 false n4 x5 lo56)) (cond (decide (AG (QO s0 x5) < 4294967281)) (cond (!LD (QO s0 x5) 1) (k .ret (N6 s0 false n4 x5 lo56)) (cond (decide (AG (JE (QO s0 x5) 1) < 4294967281)) (cond (decide (AG (QO s0 x5) < 4294967281)) (cond (!LD (QO s0 x5) (LG (JE (QO s0 x5) 1))) (k .ret (N6 s0 false n4 x5 lo56)) (cond (decide (AG (PO s0 x5) < 4294967281)) (cond (decide (AG (EH (HT (PO s0 x5)))≤strMax)) (cond (!QJ (PO s0 x5)) (k .ret (N6 s0 false n4 x5 lo56)) (cond (decide ((n4+1)*80≤EE)) (again (N6 (Iy s0 x5) b3 (n4+1) (AA AB (x5+1)) (AK n4 lo56++[IV.agg [IV.int (Vd.kind (IB (PO s0 x5))),IV.list (Vd.proof (IB (PO s0 x5))),IV.int (Vd.w0 (IB (PO s0 x5))),IV.int (Vd.w1 (IB (PO s0 x5))),IV.int (Vd.w2 (IB (PO s0 x5))),IV.int (Vd.w3 (IB (PO s0 x5))),IV.int (Vd.twin (IB (PO s0 x5))),IV.int (Vd.spent (IB (PO s0 x5)))]]))) none)) none) none)) none) none)) none)) none) none) (k (.exit 0) (N6 s0 b3 n4 x5 lo56))):=by kernel_rfl
theorem Xw (N:Nat) (s0:BA) (b3:Bool) (n4:Nat) (x5:Int) (lo56:LI):(DQ 0 (DS (Q3 N) (DK UR [1,1,1]) (DT (Q3 N) none [.tmp 2,.tmp 3] [[.list true [.z,.list true EB,.z,.z,.z,.z,.z,.z]],[.bool]]))) (.exit 0) (N6 s0 b3 n4 x5 lo56)=(some ((.tup [.list true [.z,.list true EB,.z,.z,.z,.z,.z,.z] (AS 0 (AK n4 lo56)),.bool true]),[])):=by kernel_rfl
theorem Xx (N:Nat) (s0:BA) (b3:Bool) (n4:Nat) (x5:Int) (lo56:LI):(DQ 0 (DS (Q3 N) (DK UR [1,1,1]) (DT (Q3 N) none [.tmp 2,.tmp 3] [[.list true [.z,.list true EB,.z,.z,.z,.z,.z,.z]],[.bool]]))) .ret (N6 s0 b3 n4 x5 lo56)=(some ((.tup [.list true [.z,.list true EB,.z,.z,.z,.z,.z,.z] [],.bool b3]),[])):=by kernel_rfl
def Q2 (N:Nat):Env:=D4 [(21,SK),(72,bO),(31,WQ),(19,ST)] [(9,⟨[6,7,10,38,39,40],[7],[]⟩)] 54 N
abbrev Q0 (u00:BA) (b6:Bool) (l10 l38:LI) (x39 x40:Int):St:=⟨[(6,(.bool b6)),(7,(.ptr 7 0 0)),(10,(.list false [.str] l10)),(38,(.list true [.z,.list true EB,.z,.z,.z,.z,.z,.z] l38)),(39,(.i x39)),(40,(.i x40))],[(7,(some (.box (Md.cs (FS u00)))))]⟩
theorem zdu (N:Nat) (u00 u01 u02:BA):DZ (Q2 N) UQ [.tmp 6] [[.bool]] [.str u00,.str u01,.str u02]=(cond (decide (AG u00 < 4294967281)) (cond (!K6 u00) (some ((.bool (AW u02==AW {data:=#[109,111,100,101,108,10]})),[])) (cond (decide (AG u02 < 4294967281)) (cond (Option.isSome (KD u02)) (cond (decide (AG u01 < 4294967281)) (cond (ic (AF (vbb (KD u02) [])) != ic (AF (E6 u01))) (some ((.bool false),[])) (DY (Q2 N) (DK UQ [1,1,1,1,1,1,0,1,0,0]) ⟨[6,7,10,38,39,40],[7],[]⟩ N (Q0 u00 false (E6 u01) (vbb (KD u02) []) (ic (AF (vbb (KD u02) []))) 0) (DQ 0 (DS (Q2 N) (DK UQ [1,1,1,1,1,1,1]) (DT (Q2 N) none [.tmp 6] [[.bool]]))))) none) (cond (decide (AG u01 < 4294967281)) (some ((.bool false),[])) none)) none)) none):=by kernel_rfl
theorem Mi (N:Nat) (u00:BA) (b6:Bool) (l10 l38:LI) (x39 x40:Int) (again:St→DN) (k:Out→St→DN):E2 (Q2 N) (DK UQ [1,1,1,1,1,1,0,1,0,0]) (Q0 u00 b6 l10 l38 x39 x40) (EQ again ⟨[6,7,10,38,39,40],[7],[]⟩ k)=(cond (decide (x40 < x39)) (cond (decide (0≤x40)&&decide (x40 < ic (AF l38))) (cond (decide (0≤x40)&&decide (x40 < ic (AF l10))) (cond (decide (AG (IV.toStr (AI l10 (AE x40) default)) < 4294967281)) (cond (!O6 (FS u00) (IV.toStr (AI l10 (AE x40) default)) (JY (AI l38 (AE x40) default))) (k .ret (Q0 u00 false l10 l38 x39 x40)) (again (Q0 u00 b6 l10 l38 x39 (AA AB (x40+1))))) none) none) none) (k (.exit 0) (Q0 u00 b6 l10 l38 x39 x40))):=by kernel_rfl
theorem Xu (N:Nat) (u00:BA) (b6:Bool) (l10 l38:LI) (x39 x40:Int):(DQ 0 (DS (Q2 N) (DK UQ [1,1,1,1,1,1,1]) (DT (Q2 N) none [.tmp 6] [[.bool]]))) (.exit 0) (Q0 u00 b6 l10 l38 x39 x40)=(some ((.bool true),[])):=by kernel_rfl
theorem Xv (N:Nat) (u00:BA) (b6:Bool) (l10 l38:LI) (x39 x40:Int):(DQ 0 (DS (Q2 N) (DK UQ [1,1,1,1,1,1,1]) (DT (Q2 N) none [.tmp 6] [[.bool]]))) .ret (Q0 u00 b6 l10 l38 x39 x40)=(some ((.bool b6),[])):=by kernel_rfl
open Go Go.Proofs
theorem Gf (s:BA) (n:Int):(JE s n).size≤s.size:=by
 unfold JE;cases LD s n with
 | true=>rw [DI,vbf]; omega
 | false=>exact B5 _
theorem Uo (s:BA) (n:Int):(S4 s n).size≤s.size:=by
 unfold S4;cases LD s n with
 | true=>rw [DI,vbf]; omega
 | false=>exact B5 _
theorem zjx {s p:BA} (h:OH s p=true) (hp:0 < p.size):(GG s p).size < s.size:=by
 have h1:Lib.hasPrefix s.data.toList p.data.toList=true:=h;have h2:p.data.toList.length≤s.data.toList.length:=by
  unfold Lib.hasPrefix at h1;rw [List.isPrefixOf_iff_prefix] at h1;exact h1.length_le
 have e:(GG s p).size=s.data.toList.length - p.data.toList.length:=by
  unfold GG Lib.trimPrefix;rw [BP h1];show (List.toArray _).size=_;rw [C9,CX]
 rw [TQ] at hp ⊢;rw [← TQ,e,TQ];omega
def zje:Option LI→DN
 | some l=>some (.tup [.list true TC l,.bool true],[])
 | none=>some (.tup [.list true TC [],.bool false],[])
theorem zcF (i:Nat) (h:i≤9223372036854775807):(DP (i:Int)).size≤21:=ZW (by show -9223372036854775808≤_; omega) (by show _≤(9223372036854775807:Int); omega)
theorem Ma (N:Nat) (K:Out→St→DN)
  (hx:∀ s x O,K (.exit 0) (N6 s false O.length x O)=some (.tup [.list true TC (AS 0 (AK O.length O)),.bool true],[]))
  (hr:∀ s x O n,K .ret (N6 s false n x O)=some (.tup [.list true TC [],.bool false],[])) :
  ∀ (m n:Nat) (s:BA) (i:Nat) (O:LI),s.size < m→m≤n→s.size < 4294967281→i+s.size≤4294967281→O.length=i →
   DY (Q3 N) (DK UR [1,1,0,1,0,0]) ⟨[0,2,3,4,5],[56],[⟨(.tmp 4),56,55,true,TC⟩]⟩ n (N6 s false O.length (i:Int) O) K=zje (TU m i s O)
 | m+1,n+1,s,i,O,hm,hn,hs,hi,hO=>by
  rw [D5,ziQ,TU];cases h0:(s.toList==D9.toList) with
  | true=>
   rw [A2,DJ,DI,hx,B2,BO];rfl
  | false=>
   have hit:=zcF i (by omega);have e1:AG { data:=#[113,117,101,114,121,32] }=6:=rfl;have e2:AG { data:=#[10] }=1:=rfl;rw [A8,DI,DJ];rw [AD (show AG { data:=#[113,117,101,114,121,32] }+(DP (i:Int)).size≤strMax by unfold strMax; omega),DI];rw [AD (show AG ({ data:=#[113,117,101,114,121,32] }++DP (i:Int))+AG { data:=#[10] }≤strMax by rw [AV]; unfold strMax; omega),DI];unfold lJ;rw [show U6 (i:Int)=HL i from rfl];cases hp:OH s (HL i) with
   | false=>
    rw [A8,DI,BM,DJ,hr];rfl
   | true=>
    have hlt:(J9 s i).size < s.size:=zjx hp (pF i);have ho1:=Gf (J9 s i) 1;have ho2:=Gf (J9 s i) (LG (JE (J9 s i) 1));have hb2:=Uo (J9 s i) (LG (JE (J9 s i) 1));rw [A2,DJ,A6];rw [show QO s (i:Int)=J9 s i from rfl,show PO s (i:Int)=QN s i from rfl,show Iy s (i:Int)=aI s i from rfl];rw [AD (show (J9 s i).size < 4294967281 by omega),DI];cases hc1:LD (J9 s i) 1 with
    | false=>
     rw [A8,DI,BM,DJ,hr];rfl
    | true=>
     rw [A2,DJ,A6,AD (show (JE (J9 s i) 1).size < 4294967281 by omega),DI,DI];cases hc2:LD (J9 s i) (LG (JE (J9 s i) 1)) with
     | false=>
      rw [A8,DI,BM,DJ,hr];rfl
     | true=>
      have hpz:=gB (Ic (QN s i));rw [A2,DJ,A6,AD (show (QN s i).size < 4294967281 by show (JE _ _).size < _; omega),DI,AD (show (EH (HT (QN s i))).size≤strMax by unfold strMax; omega),DI];cases hc3:QJ (QN s i) with
      | false=>
       rw [A8,DI,DJ,hr];rfl
      | true=>
       rw [A2,DJ,DI,AD (show (O.length+1)*80≤EE by unfold EE; omega),DI,BO,HD (by omega)];have hsz:(aI s i).size < s.size:=Nat.lt_of_le_of_lt hb2 hlt;have ih:=Ma N K hx hr m n (aI s i) (i+1) (O++[(IB (QN s i)).I]) (by omega) (by omega) (by omega) (by omega) (by rw [AT]; simp; omega);rw [← ih,AT];rfl
 | 0,_,_,_,_,h,_,_,_,_=>by omega
 | _+1,0,_,_,_,_,h,_,_,_=>by omega
theorem tL:DX PR B0 21 SK:=by
 refine D6 [(58,bP),(59,bQ),(23,WL),(43,O3),(57,Y2)] [(3,⟨[0,2,3,4,5],[56],[⟨.tmp 4,56,55,true,TC⟩]⟩)] SK [[.list true [.z,.list true [.bool,.z,.z],.z,.z,.z,.z,.z,.z]],[.bool]] Tryz.func21 zaD ⟨zhr,zhs,Kl,gS,Ld,trivial⟩ ?_;intro vs r hwf h;unfold SK at h;split at h
 ·rename_i s;rw [R.get_br] at h;cases hg:decide (s.size < 4294967281) with
  | false=>rw [hg] at h; simp [R.get] at h
  | true=>
   have hs:=A1 hg;refine ⟨s.size+1,(zdv _ s).trans ?_⟩
   have:=Ma (s.size+1) _ (fun s' x O=>Xw (s.size+1) s' false O.length x O) (fun s' x O n=>Xx (s.size+1) s' false n x O) (s.size+1) (s.size+1) s 0 [] (by omega) (by omega) hs (by omega) rfl
   refine this.trans ?_;rw [hg,DI,R.get_br] at h;rw [← h];unfold KD;cases TU (s.size+1) 0 s [] <;> rfl
 ·simp [R.get] at h
theorem wK (N:Nat) (a:BA) (ls vs:LI) (hs:∀ x∈ls,x.toStr.size < 4294967281) (hl:vs.length=ls.length) (hm:vs.length≤4294967281) (K:Out→St→DN)
  (hx:∀ x y,K (.exit 0) (Q0 a false ls vs x y)=some (.bool true,[])) (hr:∀ x y,K .ret (Q0 a false ls vs x y)=some (.bool false,[])) :
  ∀ (d i n:Nat),i+d=vs.length→d < n →
   DY (Q2 N) (DK UQ [1,1,1,1,1,1,0,1,0,0]) ⟨[6,7,10,38,39,40],[7],[]⟩ n (Q0 a false ls vs (ic vs.length) (i:Int)) K=some (.bool (UM (FS a) (vs.drop i) (ls.drop i)),[])
 | 0,i,n+1,hd,_=>by
  rw [D5,Mi,I5 (by omega),CS (l:=vs) (by omega),DJ];exact hx _ _
 | d+1,i,n+1,hd,hn=>by
  have hi:i < vs.length:=by omega
  have hi2:i < ls.length:=by omega
  have h4:=hs ls[i] (C1 hi2);rw [D5,Mi,HA hi,IL,HA (l:=ls) hi2,HD (by omega),H8 hi,H8 hi2];rw [BG hi,BG hi2,AD h4];simp only [DI,B1];show _=(some (V.bool (O6 (FS a) ls[i].toStr (JY vs[i])&&UM (FS a) (vs.drop (i+1)) (ls.drop (i+1))),[]):DN);cases O6 (FS a) ls[i].toStr (JY vs[i]) with
  | false=>
   rw [A8,DI,BM];exact hr _ _
  | true=>
   rw [A2,DJ,A6];exact wK N a ls vs hs hl hm K hx hr d (i+1) n (by omega) (by omega)
 | 0,_,0,_,h=>by omega
 | _+1,_,0,_,h=>by omega
theorem zc1 (s:BA):(E6 s).length≤s.size+1:=by
 unfold E6;cases (s.toList==D9.toList) with
 | true=>exact B5 _
 | false=>
  rw [DJ,BE];have h1:=(YC EJ (Lib.countB (GH s EJ) EJ) (GH s EJ)).1;have h2:=Lib.countB_le EJ (by decide) _ (GH s EJ) (AZ _);have h3:=aT s EJ;show (Lib.splitB EJ 0 (Lib.countB (GH s EJ) EJ) (GH s EJ)).length≤_;omega
theorem zhp:DX PR B0 29 bN:=by
 refine D6 [(21,SK),(72,bO),(31,WQ),(19,ST)] [(9,⟨[6,7,10,38,39,40],[7],[]⟩)] bN [[.bool]] Tryz.func29 zaC ⟨tL,zhq,Kq,tY,trivial⟩ ?_;intro vs r hwf h;unfold bN at h;split at h
 ·rename_i a b r0;cases hg:(decide (a.size < 4294967281)&&(decide (b.size < 4294967281)&&decide (r0.size < 4294967281))) with
  | false=>rw [hg] at h; simp [R.get] at h
  | true=>
  rw [hg,R.get_br,DI,R.get_ok] at h;rw [AH,AH] at hg;refine ⟨(E6 b).length+1,(zdu _ a b r0).trans ?_⟩;rw [hg.1,hg.2.1,hg.2.2,DI,DI,DI,← h];unfold aG;cases ht:K6 a with
  | false=>rfl
  | true=>
   simp only [A2,DJ,DI];cases hq:KD r0 with
   | none=>rfl
   | some vs=>
    show cond (ic vs.length != ic (E6 b).length) _ _=(some (V.bool (ic vs.length==ic (E6 b).length&&UM (FS a) vs (E6 b)),[]):DN);cases he:(ic vs.length==ic (E6 b).length) with
    | false=>
     rw [show (ic vs.length != ic (E6 b).length)=!(ic vs.length==ic (E6 b).length) from rfl,he];rfl
    | true=>
     rw [show (ic vs.length != ic (E6 b).length)=!(ic vs.length==ic (E6 b).length) from rfl,he];have hl:vs.length=(E6 b).length:=by
      have:ic vs.length=ic (E6 b).length:=by simpa using he
      simp only [ic] at this;omega
     have hbz:=A1 hg.2.1;have hll:=zc1 b
     have:=wK ((E6 b).length+1) a (E6 b) vs (Dx hbz) hl (by omega) _ (fun x y=>Xu ((E6 b).length+1) a false (E6 b) vs x y) (fun x y=>Xv ((E6 b).length+1) a false (E6 b) vs x y) vs.length 0 ((E6 b).length+1) (by omega) (by omega)
     rw [B2,B2] at this;exact this
 ·simp [R.get] at h
open Go
theorem Dr:∀ (x:List UInt8) (L:List (List UInt8)),HQ (x :: L)=Lib.join (x :: L) [10]++[10]
 | x,[]=>by rw [PE,Lib.join_one]; rfl
 | x,y :: L=>by rw [PE,Dr y L,j9]; simp
theorem zc2 (s:BA) (hs:s.data.toList≠[]):(E6 s).map (fun y=>y.toStr.data.toList)=vav (GH s EJ).data.toList [10]:=by
 unfold E6;have e:(s.toList==D9.toList)=false:=by
  rw [ZD];exact AL fun h=>hs (by rw [h])
 rw [e,DJ,vaY]
 have:((fun x=>x.toStr.data.toList) ∘ IV.str)=fun b:BA=>b.data.toList:=rfl
 rw [this,tZ]
theorem zc5 {s:BA} {x:List UInt8} {L:List (List UInt8)} (h:s.data.toList=HQ (x :: L)) (hno:∀ l∈x :: L,(10:UInt8) ∉ l):(E6 s).map (fun y=>y.toStr.data.toList)=x :: L:=by
 rw [Dr] at h;rw [zc2 s (by rw [h]; simp),Pi h,uA 10 x L hno]
theorem zc3 (s:BA):∃ l:List BA,E6 s=l.map IV.str:=by
 unfold E6;cases (s.toList==D9.toList) with
 | true=>exact ⟨[],rfl⟩
 | false=>exact ⟨_,rfl⟩
theorem zc4 {s:BA} {L:List BA} (h:(E6 s).map (fun y=>y.toStr.data.toList)=L.map (·.data.toList)):E6 s=L.map IV.str:=by
 obtain ⟨l,hl⟩:=zc3 s;rw [hl] at h ⊢;rw [vaY] at h
 have:((fun x=>x.toStr.data.toList) ∘ IV.str)=fun b:BA=>b.data.toList:=rfl
 rw [this] at h;rw [kQ h]
theorem zc6:E6 D9=[]:=by simp [E6]
open Go
theorem zgd {q:Qy} (hq:q.In) (d:Int):(EG q d).size≤2000:=by
 cases h:OL q d with
 | false=>rw [Hd h]; decide
 | true=>
  obtain ⟨h1,h4,_,_,_,_,hk⟩:=Fy h;have hp:EG q d=GP (JM q d.toNat) G5:=by
   unfold EG;rw [h];rfl
  have zi:∀ {n:Int},ED n→(DP n).size≤100:=fun h=>by have:=pS h; omega
  have zp:∀ {n:Int},ED n→(DU n).size≤100:=fun h=>by have:=(X3 _ h).2; omega
  have hl:(JM q d.toNat).length≤15:=by
   unfold JM HY;simp only [AT,AM,BE,BB,A7,Qy.spans];cases (q.k==1) <;> cases (q.k==2) <;> simp only [BJ,BC,AM,A7] <;> omega
  have hz:=Cw (JM q d.toNat) (fun w hw=>by
   unfold JM at hw;rcases AX.1 hw with hw | hw
   ·rcases AX.1 hw with hw | hw
    ·unfold HY at hw;cases h1:(q.k==1) <;> rw [h1] at hw <;> simp only [BJ,BC] at hw
     ·cases h2:(q.k==2) <;> rw [h2] at hw <;> simp only [BJ,BC,AO,BX,CO] at hw
      ·rcases hw with rfl | rfl | rfl | rfl
       ·cases q.fl <;> decide
       ·exact zi hq.c
       ·decide
       ·exact zi hq.ft
      ·rcases hw with rfl | rfl
       ·decide
       ·exact zi hq.c
     ·simp only [AO,BX,CO] at hw;rcases hw with rfl | rfl | rfl | rfl | rfl | rfl
      ·decide
      ·exact zi hq.c
      ·decide
      ·exact zp hq.lo
      ·decide
      ·exact zp hq.hi
    ·rcases AO.1 hw with rfl | hw
     ·decide
     ·obtain ⟨s,hs,rfl⟩:=CJ.1 hw;have hs:=vaI hs;have hin:ED s.1∧ED s.2:=by
       simp only [Qy.spans,AO,BX,CO] at hs;rcases hs with rfl | rfl | rfl | rfl | rfl
       ·exact ⟨hq.a0,hq.b0⟩
       ·exact ⟨hq.a1,hq.b1⟩
       ·exact ⟨hq.a2,hq.b2⟩
       ·exact ⟨hq.a3,hq.b3⟩
       ·exact ⟨hq.a4,hq.b4⟩
      have:=Lv hin.1 hin.2
      omega
   ·simp only [AO,BX,CO] at hw;rcases hw with rfl | rfl
    ·decide
    ·exact zi hq.bu)
  rw [hp];omega
theorem Qy.In.sp {q:Qy} (hq:q.In):∀ s∈q.spans,ED s.1∧ED s.2:=by
 intro s hs;simp only [Qy.spans,AO,BX,CO] at hs;rcases hs with rfl | rfl | rfl | rfl | rfl
 ·exact ⟨hq.a0,hq.b0⟩
 ·exact ⟨hq.a1,hq.b1⟩
 ·exact ⟨hq.a2,hq.b2⟩
 ·exact ⟨hq.a3,hq.b3⟩
 ·exact ⟨hq.a4,hq.b4⟩
theorem zfs {q:Qy} {d:Int} (h1:1≤d) (h4:d≤4) (hc:KB q.c=true) (hf:KB q.ft=true) (hb:KB q.bu=true)
  (hk:(q.k=1∧q.ft=0∧q.fl=false)∨(q.k=2∧q.lo=0∧q.hi=0∧q.ft=0∧q.fl=false)∨(q.k=3∧q.lo=0∧q.hi=0))
  (z0:(0:Int) < d∨(q.a0=0∧q.b0=0)) (z1:(1:Int) < d∨(q.a1=0∧q.b1=0)) (z2:(2:Int) < d∨(q.a2=0∧q.b2=0)) (z3:(3:Int) < d∨(q.a3=0∧q.b3=0)) (z4:(4:Int) < d∨(q.a4=0∧q.b4=0)):OL q d=true:=by
 have cz:∀ (x:Int) (j:Int),(j < d∨x=0)→cond (decide (j < d)) x 0=x:=fun x j h=>by
  rcases h with h | h
  ·rw [AD h]; rfl
  ·subst h; cases decide (j < d) <;> rfl
 have ht:FX q d=q:=by
  obtain ⟨k,c,a0,b0,a1,b1,a2,b2,a3,b3,a4,b4,lo,hi,ft,fl,bu⟩:=q;simp only at hk z0 z1 z2 z3 z4;simp only [FX,Qy.mk.injEq,vaz];refine ⟨cz _ _ (z0.imp_right (·.1)),cz _ _ (z0.imp_right (·.2)),cz _ _ (z1.imp_right (·.1)),cz _ _ (z1.imp_right (·.2)),cz _ _ (z2.imp_right (·.1)),cz _ _ (z2.imp_right (·.2)),cz _ _ (z3.imp_right (·.1)),cz _ _ (z3.imp_right (·.2)),cz _ _ (z4.imp_right (·.1)),cz _ _ (z4.imp_right (·.2)),?_⟩;rcases hk with ⟨rfl,rfl,rfl⟩ | ⟨rfl,rfl,rfl,rfl,rfl⟩ | ⟨rfl,rfl,rfl⟩ <;> exact ⟨rfl,rfl,rfl,rfl,trivial⟩
 have hk3:(q.k==1||(q.k==2||q.k==3))=true:=by
  rcases hk with ⟨h,_⟩ | ⟨h,_⟩ | ⟨h,_⟩ <;> rw [h] <;> rfl
 unfold OL;rw [ht,Qy.eq_self,hc,hf,hb,hk3,AL (show ¬ d < 1 by omega),AL (show ¬ d > 4 by omega)];rfl
theorem zgH (d:Int) (l:LI) (i:Int) : -2≤FY d l i∧FY d l i≤9:=by
 unfold FY
 have:=(HG (n:=EM l (2*i)) (lo := -2) (hi:=9) (by omega) (by omega) (by omega)).2
 cases decide (i < d) <;> simp only [BJ,BC] <;> omega
theorem zgI (d:Int) (l:LI) (i:Int) : -2≤FZ d l i∧FZ d l i≤20:=by
 unfold FZ
 have:=(HG (n:=EM l (2*i)) (lo := -2) (hi:=9) (by omega) (by omega) (by omega)).2
 have:=(HG (n:=EM l (2*i+1)) (lo:=0) (hi:=11) (by omega) (by omega) (by omega)).2
 cases decide (i < d) <;> simp only [BJ,BC] <;> omega
theorem sL {d:Int} (l:LI) {i:Int} (h:d≤i):FY d l i=0∧FZ d l i=0:=by
 unfold FY FZ;rw [AL (show ¬ i < d by omega)];exact ⟨rfl,rfl⟩
theorem Da (a:Ak) (cls:Int):FP a cls=1∨FP a cls=2∨FP a cls=3:=by
 unfold FP
 have:=(HG (n:=a.k) (lo:=1) (hi:=3) (by omega) (by omega) (by omega)).2
 cases (DO a.k 1 3==2&&decide (cls < 2)) with
 | true=>exact .inl rfl
 | false=>
  rw [DJ];omega
theorem tI {n:Int} (h0:0≤n) (h1:n≤1073741824):KB n=true:=by
 unfold KB;rw [AD h0,AD h1];rfl
theorem zgs (a:Ak) {dim cls:Int} (hd:1≤dim∧dim≤4) (hc:1≤cls∧cls≤3):OL (JI a dim cls) dim=true:=by
 have c1:=(HG (n:=a.c) (lo:=0) (hi:=cls - 1) (by omega) (by omega) (by omega)).2;have f1:=(HG (n:=a.ft) (lo:=0) (hi:=dim - 1) (by omega) (by omega) (by omega)).2;have b1:=(HG (n:=a.bu) (lo:=0) (hi:=65536) (by omega) (by omega) (by omega)).2;refine zfs hd.1 hd.2 (tI (by show 0≤DO a.c 0 (cls - 1); omega) (by show DO a.c 0 (cls - 1)≤_; omega)) ?_ (tI b1.1 (by show DO a.bu 0 65536≤_; omega)) ?_ ?_ ?_ ?_ ?_ ?_
 ·show KB (cond (FP a cls==3) (DO a.ft 0 (dim - 1)) 0)=true;cases (FP a cls==3) with
  | true=>exact tI (n:=DO a.ft 0 (dim - 1)) f1.1 (by omega)
  | false=>rfl
 ·show (FP a cls=1∧cond (FP a cls==3) (DO a.ft 0 (dim - 1)) 0=0∧cond (FP a cls==3) a.fl false=false) ∨
   (FP a cls=2∧cond (FP a cls==1) (KK a) 0=0∧cond (FP a cls==1) (KK a+DO a.size 0 18000) 0=0∧cond (FP a cls==3) (DO a.ft 0 (dim - 1)) 0=0∧cond (FP a cls==3) a.fl false=false) ∨
   (FP a cls=3∧cond (FP a cls==1) (KK a) 0=0∧cond (FP a cls==1) (KK a+DO a.size 0 18000) 0=0)
  rcases Da a cls with h | h | h <;> rw [h]
  ·exact .inl ⟨rfl,rfl,rfl⟩
  ·exact .inr (.inl ⟨rfl,rfl,rfl,rfl,rfl⟩)
  ·exact .inr (.inr ⟨rfl,rfl,rfl⟩)
 ·exact .inl (by omega)
 ·rcases Int.lt_or_le 1 dim with h | h
  ·exact .inl h
  ·exact .inr (sL a.sp h)
 ·rcases Int.lt_or_le 2 dim with h | h
  ·exact .inl h
  ·exact .inr (sL a.sp h)
 ·rcases Int.lt_or_le 3 dim with h | h
  ·exact .inl h
  ·exact .inr (sL a.sp h)
 ·exact .inr ⟨rfl,rfl⟩
theorem zgr (a:Ak) {dim cls:Int} (hd:1≤dim∧dim≤4) (hc:1≤cls∧cls≤3):(JI a dim cls).In:=by
 have c1:=(HG (n:=a.c) (lo:=0) (hi:=cls - 1) (by omega) (by omega) (by omega)).2;have f1:=(HG (n:=a.ft) (lo:=0) (hi:=dim - 1) (by omega) (by omega) (by omega)).2;have b1:=(HG (n:=a.bu) (lo:=0) (hi:=65536) (by omega) (by omega) (by omega)).2;have l1:=(HG (n:=a.lo) (lo := -9000) (hi:=9000) (by omega) (by omega) (by omega)).2;have s1:=(HG (n:=a.size) (lo:=0) (hi:=18000) (by omega) (by omega) (by omega)).2;have k1:=Da a cls;have A:=fun i=>zgH dim a.sp i
 have B:=fun i=>zgI dim a.sp i
 have zA:∀ i,ED (FY dim a.sp i):=fun i=>by have:=A i; unfold ED; omega
 have zB:∀ i,ED (FZ dim a.sp i):=fun i=>by have:=B i; unfold ED; omega
 refine ⟨?_,?_,zA 0,zB 0,zA 1,zB 1,zA 2,zB 2,zA 3,zB 3,?_,?_,?_,?_,?_,?_⟩
 ·show ED (FP a cls); unfold ED; omega
 ·show ED (DO a.c 0 (cls - 1)); unfold ED; omega
 ·show ED 0; unfold ED; omega
 ·show ED 0; unfold ED; omega
 ·show ED (cond (FP a cls==1) (KK a) 0);unfold KK ED;cases (FP a cls==1) <;> simp only [BJ,BC] <;> omega
 ·show ED (cond (FP a cls==1) (KK a+DO a.size 0 18000) 0);unfold KK ED;cases (FP a cls==1) <;> simp only [BJ,BC] <;> omega
 ·show ED (cond (FP a cls==3) (DO a.ft 0 (dim - 1)) 0);unfold ED;cases (FP a cls==3) <;> simp only [BJ,BC] <;> omega
 ·show ED (DO a.bu 0 65536); unfold ED; omega
theorem VB {l:List UInt8} (h:∀ c∈l,45≤c.toNat∧c.toNat≤57):(10:UInt8) ∉ l:=(qZ h).2
theorem zjP (q:Qy) (D:Nat):∀ w∈JM q D,(10:UInt8) ∉ w.data.toList:=by
 intro w hw;unfold JM at hw;have key:∀ x∈HY q,(10:UInt8) ∉ x.data.toList:=by
  intro x hx;unfold HY at hx;cases h1:(q.k==1) <;> rw [h1] at hx <;> simp only [BJ,BC] at hx
  ·cases h2:(q.k==2) <;> rw [h2] at hx <;> simp only [BJ,BC,AO,BX,CO] at hx
   ·rcases hx with rfl | rfl | rfl | rfl
    ·cases q.fl <;> decide
    ·exact VB (PD _)
    ·decide
    ·exact VB (PD _)
   ·rcases hx with rfl | rfl
    ·decide
    ·exact VB (PD _)
  ·simp only [AO,BX,CO] at hx;rcases hx with rfl | rfl | rfl | rfl | rfl | rfl
   ·decide
   ·exact VB (PD _)
   ·decide
   ·exact VB (aB _)
   ·decide
   ·exact VB (aB _)
 rcases AX.1 hw with h | h
 ·rcases AX.1 h with h | h
  ·exact key w h
  ·rcases AO.1 h with rfl | h
   ·decide
   ·obtain ⟨s,_,rfl⟩:=CJ.1 h;exact VB (Lu _ _)
 ·simp only [AO,BX,CO] at h;rcases h with rfl | rfl
  ·decide
  ·exact VB (PD _)
theorem Ha (q:Qy) (d:Int):(10:UInt8) ∉ (EG q d).data.toList:=by
 cases h:OL q d with
 | false=>
  rw [Hd h];decide
 | true=>
  have:EG q d=GP (JM q d.toNat) G5:=by
   unfold EG;rw [h];rfl
  rw [this,Cv];refine qM 32 10 (by decide) _ fun v hv=>?_
  obtain ⟨u,hu,rfl⟩:=CJ.1 hv;exact zjP q d.toNat u hu
theorem zjL {n lo hi:Int} (h0:lo≤n) (h1:n≤hi) (h2:lo=0) (h3:hi≤1000000):DO n lo hi=n:=by
 subst h2;have hm:=(HG (n:=n) (lo:=0) (hi:=hi) (by omega) (by omega) (by omega)).1;unfold DO;rw [hm];have e:Int.tmod n (hi - 0+1)=n:=Int.tmod_eq_of_lt h0 (by omega);rw [e,AL (show ¬ n < 0 by omega),DJ,Int.zero_add];exact EL (by omega) (by omega)
theorem Ui (a:Ak) (m:Md) {w:Int} (h0:0≤w) (h1:w≤65536):(FT a m).bud w=FT ⟨a.k,a.c,a.lo,a.size,a.ft,w,a.fl,a.sp⟩ m:=by
 unfold FT JI Qy.bud;simp only [zjL h0 h1 rfl (by omega)];rfl
theorem wA (a:Ak) {m:Md} (hd:1≤m.d∧m.d≤4) (hc:1≤m.c∧m.c≤3) {w:Int} (h0:0≤w) (h1:w≤65536) :
  OL ((FT a m).bud w) m.d=true∧((FT a m).bud w).In∧NH (EG ((FT a m).bud w) m.d)=true∧EZ (EG ((FT a m).bud w) m.d)=(FT a m).bud w∧MS (EG ((FT a m).bud w) m.d)=m.d:=by
 rw [Ui a m h0 h1];have ho:=zgs ⟨a.k,a.c,a.lo,a.size,a.ft,w,a.fl,a.sp⟩ hd hc;have hi:=zgr ⟨a.k,a.c,a.lo,a.size,a.ft,w,a.fl,a.sp⟩ hd hc;have hp:=Uj hi.c hi.lo hi.hi hi.ft hi.bu hi.sp ho;exact ⟨ho,hi,hp.1,hp.2.1,hp.2.2⟩
open Go
structure Sits (m:Md) (q:Qy):Prop where
 right:E8 m q=true
 few:KQ m q (GE q)≤199
 ok:OL q m.d=true
 ask:NH (EG q m.d)=true
 qq:EZ (EG q m.d)=q
 dd:MS (EG q m.d)=m.d
theorem Bl {m:Md} (h:PJ m.ts≤99) (q:Qy):KQ m q (GE q)≤199:=by
 have:=zf7 m q (GE q)
 omega
theorem Ke (f:Ft) (a:Ak) {w:Int} (h0:0≤w) (h1:w≤65536):Sits f.M ((FT a f.M).bud w)∧((FT a f.M).bud w).In:=by
 have hd:1≤f.M.d∧f.M.d≤3:=ZM f.d;have hc:1≤f.M.c∧f.M.c≤3:=eJ f.c;obtain ⟨l1,l2,l3,l4,l5⟩:=wA a (m:=f.M) ⟨hd.1,by omega⟩ hc h0 h1;exact ⟨⟨Uk f a h0 h1,Bl (by have:=Bt f; omega) _,l1,l3,l4,l5⟩,l2⟩
theorem Tw {m:Md} {q:Qy} (h:Sits m q):JD m (EG q m.d)=EC m q:=by
 have hs:=Oh h.right h.few;have ho:NG m (EG q m.d)=true:=by
  unfold NG;rw [h.ask,h.qq,h.dd,h.right];simp
 unfold JD;rw [ho,DI,h.qq];unfold UL;rw [show ((EC m q).kind==3||IC m q (EC m q))=true from hs,DI]
def GL (d:Int):BA→List Qy→BA
 | s,[]=>s
 | s,q :: l=>GL d (s++EG q d++EJ) l
theorem Hu (d:Int):∀ (l:List Qy) (s:BA),(GL d s l).data.toList=s.data.toList++HQ (l.map fun q=>(EG q d).data.toList)
 | [],s=>by simp [GL,HQ]
 | q :: l,s=>by
  rw [GL,Hu d l,A0,PE,XE,XE];simp
theorem Hv (d:Int) (l:List Qy):E6 (GL d D9 l)=l.map fun q=>IV.str (EG q d):=by
 cases l with
 | nil=>exact zc6
 | cons q l=>
  have h:=zc5 (s:=GL d D9 (q :: l)) (x:=(EG q d).data.toList) (L:=l.map fun q=>(EG q d).data.toList) (by rw [Hu]; rfl) (by
   intro y hy;rcases AO.1 hy with rfl | hy
   ·exact Ha q d
   ·obtain ⟨r,_,rfl⟩:=CJ.1 hy;exact Ha r d)
  have h2:=zc4 (s:=GL d D9 (q :: l)) (L:=(q :: l).map fun q=>EG q d) (by rw [h]; simp);rw [h2,vaY];rfl
theorem nD {m:Md} {l:List Qy} (h:∀ q∈l,Sits m q):MR m (E6 (GL m.d D9 l))=l.map (EC m):=by
 unfold MR;rw [Hv,vaY];refine List.map_congr_left fun q hq=>?_
 exact Tw (h q hq)
theorem zg7 {m:Md} (hm:EX m=true) (hw:R9 m) {l:List Qy} (h:∀ q∈l,Sits m q):F9 (EK m) (GL m.d D9 l)=JK 0 (l.map (EC m)):=by
 obtain ⟨t1,t2⟩:=gY hm hw;rw [sW t1,t2,nD h]
theorem zjb {m:Md} (hf:PJ m.ts≤99) {l:BA} (h:NG m l=true):YD m (EZ l)=true:=Oh (nC h) (Bl hf _)
theorem zgM {m:Md} (hm:EX m=true) (hw:R9 m) (hf:PJ m.ts≤99) (b:BA):aG (EK m) b (F9 (EK m) b)=true:=by
 obtain ⟨t1,t2⟩:=gY hm hw;exact zgN b fun x _ h=>by rw [t2] at h ⊢; exact zjb hf h
theorem Oo {m:Md} (hm:EX m=true) (hw:R9 m) (b:BA):KD (F9 (EK m) b)=some ((MR m (E6 b)).map HW):=by
 obtain ⟨t1,t2⟩:=gY hm hw;rw [Ot t1,t2]
open Go
def OE (x:Int):BA:=strOfNums (A3 IV.toInt [IV.int (AA IntKind.u8 (AA AB (48+x)))])
abbrev ZX:List Kd:=[.z,.z,.z,.z,.z,.z,.z,.z,.z,.z,.z,.z,.z,.z,.z,.bool,.z]
def Qy.I (q:Qy):IV:=.agg [.int q.k,.int q.c,.int q.a0,.int q.b0,.int q.a1,.int q.b1,.int q.a2,.int q.b2,.int q.a3,.int q.b3,.int q.a4,.int q.b4,.int q.lo,.int q.hi,.int q.ft,.bool q.fl,.int q.bu]
def sH (x:IV):Qy:=⟨cI x 0,cI x 1,cI x 2,cI x 3,cI x 4,cI x 5,cI x 6,cI x 7,cI x 8,cI x 9,cI x 10,cI x 11,cI x 12,cI x 13,cI x 14,(x.cell 15).toBool,cI x 16⟩
def G0 (x:IV):Ak:=⟨cI x 0,cI x 1,cI x 2,cI x 3,cI x 4,cI x 5,(x.cell 6).toBool,(x.cell 7).toList⟩
def ME (m:Md) (xs:LI) (w:Int):List Qy:=xs.map fun x=>(FT (G0 x) m).bud w
def SP:DV
 | []=>.ok (.bool true) []
 | _=>.no
def m9:DV
 | [f,.list true [.z,.z,.z,.z,.z,.z,.bool,.list false [.z]] _,.int .i64 _]=>aX f fun _=>.ok (.bool true) []
 | _=>.no
def nB:DV
 | [f,.list true [.z,.z,.z,.z,.z,.z,.bool,.list false [.z]] _,.int .i64 _]=>aX f fun _=>.ok (.bool true) []
 | _=>.no
def nA:DV
 | [f,g,.list true [.z,.z,.z,.z,.z,.z,.bool,.list false [.z]] _,.list true [.z,.z,.z,.z,.z,.z,.bool,.list false [.z]] _,.int .i64 _]=>aX f fun _=>aX g fun _=>.ok (.bool true) []
 | _=>.no
open Go
open Go
open Go Go.Proofs
theorem lD {m:Md} (h:EX m=true):1≤(EK m).size∧(EK m).size≤300000:=by
 obtain ⟨hd,hc,hl,_,ht⟩:=qO h;have hp:EK m=GA (L9 m):=by unfold EK; rw [h]; rfl
 have hall:∀ (ts:LI),ts.all (HN m.d m.c)=true→(∀ l∈GV ts,l.length≤8∧∀ w∈l,w.size≤100)∧(GV ts).length≤32*ts.length:=fun ts=>by
  induction ts with
  | nil=>exact fun _=>⟨fun l hl=>(by cases hl),AZ _⟩
  | cons t r ih=>
   intro h;rw [vax,AH] at h;obtain ⟨i1,i2⟩:=ih h.2;obtain ⟨j1,j2⟩:=Oy hc.2 h.1;rw [GV];refine ⟨fun l hl=>?_,?_⟩
   ·rcases AX.1 hl with hl | hl
    ·exact j1 l hl
    ·exact i1 l hl
   ·rw [AT,AM];omega
 obtain ⟨a1,a2⟩:=hall m.ts ht;have hz:=uS (L9 m) (fun l hl=>by
  have hl:l∈TB m++GV m.ts:=hl;rcases AX.1 hl with hl | hl
  ·exact Ch h l hl
  ·exact a1 l hl)
 have hn:(L9 m).length=2+(GV m.ts).length:=by
  show (TB m++GV m.ts).length=_;rw [AT];rfl
 rw [hp];refine ⟨?_,by omega⟩;have e:GA (L9 m)=FQ [N2,DP m.d,DP m.c]++GA (([JB :: ([m.b0,m.b1,m.b2].take m.c.toNat).map DU])++GV m.ts):=rfl;rw [e,AV]
 have:1≤(FQ [N2,DP m.d,DP m.c]).size:=by
  unfold FQ;rw [AV];have e1:AG PX=1:=rfl;omega
 omega
open Go
theorem zcA (i:Nat) (h:i≤9223372036854775807):(DP (i:Int)).size≤21:=ZW (by show -9223372036854775808≤_; omega) (by show _≤(9223372036854775807:Int); omega)
theorem Ci (i:Nat) (h:i≤1000000000):(HL i).size≤28:=by
 have:=zcA i (by omega)
 unfold HL;rw [AV,AV];show 6+_+1≤28;omega
theorem Pu:∀ (vs:List Vd) (i:Nat),i+vs.length≤1000000000→(∀ v∈vs,v.rng)→(JK i vs).size≤4000028*vs.length
 | [],_,_,_=>B5 _
 | v :: r,i,hi,h=>by
  have h1:=gB (h v (AN ..));have h2:=Pu r (i+1) (by simp only [AM] at hi; omega) fun x hx=>h x (AY _ hx)
  have h3:=Ci i (by simp only [AM] at hi; omega);unfold JK;rw [AV,AV,AM];omega
theorem lK (a b:BA) (h:(E6 b).length≤1000):(F9 a b).size≤4000028*1000:=by
 cases ht:K6 a with
 | false=>
  unfold F9;rw [ht,DJ];show 6≤_;omega
 | true=>
  rw [sW ht]
  have:=Pu (MR (FS a) (E6 b)) 0 (by unfold MR; rw [BE]; omega) fun v hv=>(vU _ _ v hv).2
  unfold MR at this;rw [BE] at this;unfold MR;omega
def aV:BA→Nat→List Vd→BA
 | s,_,[]=>s
 | s,i,v :: r=>aV (s++HL i++EH v) (i+1) r
theorem Ps:∀ (vs:List Vd) (s:BA) (i:Nat),aV s i vs=s++JK i vs
 | [],s,i=>by
  show s=s++D9;exact (ByteArray.append_empty).symm
 | v :: r,s,i=>by
  rw [aV,Ps r,JK,C8,C8]
theorem zjH (vs:List Vd) (i:Nat):aV D9 i vs=JK i vs:=by
 rw [Ps];exact ByteArray.empty_append
def Ap (i:Nat):Bool:=(OE (i:Int)).toList==(DP (i:Int)).toList
theorem Xd:(vaC 10).all Ap=true:=by kernel_rfl
theorem Xf {i:Nat} (h:i < 10):OE (i:Int)=DP (i:Int):=by
 have:=CQ.1 Xd i (va6.2 h)
 unfold Ap at this;rw [ZD] at this;exact A1 this
theorem Xe {i:Nat} (h:i < 10) (s:BA):s++MK++OE (i:Int)++EJ=s++HL i:=by
 rw [Xf h];unfold HL;simp only [C8]
theorem sD (m:Md) (x:IV) (xs:LI) (w:Int):ME m (x :: xs) w=(FT (G0 x) m).bud w :: ME m xs w:=rfl
theorem mI {l:LI} {k i:Nat} (h:i < l.length) (hk:i < k):(l.take k).drop i=l[i] :: (l.take k).drop (i+1):=by
 rw [BG (by rw [BB]; omega),List.getElem_take]
theorem VT {l:LI} {k i:Nat} (h:¬ (i < l.length∧i < k)):(l.take k).drop i=[]:=CS (by rw [BB]; omega)
theorem zfr {m:Md} (h:PN m=true):(1≤m.d∧m.d≤4)∧(1≤m.c∧m.c≤3):=by
 unfold PN at h;simp only [AH,AQ] at h;exact ⟨⟨h.1.1,h.1.2⟩,⟨h.2.1,h.2.2⟩⟩
theorem Y7 {m:Md} (h:PN m=true) (a:Ak) {w:Int} (h0:0≤w) (h1:w≤65536):(EG ((FT a m).bud w) m.d).size≤2000:=by
 obtain ⟨hd,hc⟩:=zfr h;exact zgd (wA a hd hc h0 h1).2.1 _
theorem sF (f:Ft) (xs:LI) {w:Int} (h0:0≤w) (h1:w≤65536):∀ q∈ME f.M xs w,Sits f.M q:=by
 intro q hq;obtain ⟨x,_,rfl⟩:=CJ.1 hq;exact (Ke f (G0 x) h0 h1).1
theorem sE (m:Md) (xs:LI) (w:Int):(ME m xs w).length=xs.length:=BE ..
theorem gF (d:Int):∀ (l:List Qy) (s:BA),(∀ q∈l,(EG q d).size≤2000)→(GL d s l).size≤s.size+2001*l.length
 | [],s,_=>AZ _
 | q :: l,s,h=>by
  have h1:=h q (AN ..);have h2:=gF d l (s++EG q d++EJ) fun x hx=>h x (AY _ hx)
  rw [AV,AV] at h2;have e:EJ.size=1:=rfl;rw [GL,AM];omega
theorem sG {m:Md} (h:PN m=true) (xs:LI) {w:Int} (h0:0≤w) (h1:w≤65536):∀ q∈ME m xs w,(EG q m.d).size≤2000:=by
 intro q hq;obtain ⟨x,_,rfl⟩:=CJ.1 hq;exact Y7 h (G0 x) h0 h1
theorem lE (d:Int) (l:List Qy):(E6 (GL d D9 l)).length=l.length:=by rw [Hv,BE]
open Go Go.Proofs
def HV (N:Nat):Env:=D4 [(17,LA),(38,SO),(71,WN)] [(4,⟨[1,2,4,5,6,7],[2,500,501],[⟨.tmp 5,500,111,true,[.bool,.z,.z,.z,.z,.z]⟩,⟨.tmp 6,501,3,false,[.z]⟩]⟩),(14,⟨[4,11,100,101,102],[500,502],[⟨.tmp 11,502,103,false,[.int .u64]⟩]⟩)] 113 N
abbrev YU (x1:Int) (n5 n6:Nat) (x7 u06:Int) (u00 u01 u02 u03 u04 u05:LI):St:=⟨[(1,(.i x1)),(2,(.ptr 2 0 0)),(4,.zs),(5,(.row 500 0 n5)),(6,(.row 501 0 n6)),(7,(.i x7))],[(2,(some (.box [.i u06,.list false [.z] u00,.list false [.z] u01,.list false [.z] u02,.list false [.z] u03]))),(500,(some (.row true 111 true [.bool,.z,.z,.z,.z,.z] u04))),(501,(some (.row true 3 false [.z] u05)))]⟩
abbrev bD (n11 n100:Nat) (x101 x102:Int) (u00 u01:LI):St:=⟨[(4,.zs),(11,(.row 502 0 n11)),(100,(.row 500 0 n100)),(101,(.i x101)),(102,(.i x102))],[(500,(some (.row true 111 true [.bool,.z,.z,.z,.z,.z] u00))),(502,(some (.row true 103 false [.int .u64] u01)))]⟩
theorem zdZ (N:Nat) (u00:Int) (u01 t_By t_At u02:LI) (a1:Int):DZ (HV N) MT [.tmp 4] [[.list false [.int .u64]]] [.agg [.i u00,.list false [.z] u01,.list false [.z] t_By,.list false [.z] t_At,.list false [.z] u02],.i a1]=(DY (HV N) (DK MT [1,1,1,0,1,0,0]) ⟨[1,2,4,5,6,7],[2,500,501],[⟨(.tmp 5),500,111,true,[.bool,.z,.z,.z,.z,.z]⟩,⟨(.tmp 6),501,3,false,[.z]⟩]⟩ N (YU a1 1 1 0 u00 u01 t_By t_At u02 [(IV.agg [IV.bool true,IV.int (DO (EM u02 0) (-3000) 3000),IV.int 0,IV.int 0,IV.int 0,IV.int 0])] [(IV.int 0)]) (DQ 0 (DS (HV N) (DK MT [1,1,1,1]) (DT (HV N) none [.tmp 4] [[.list false [.int .u64]]])))):=by kernel_rfl
theorem Mv (N:Nat) (x1:Int) (n5 n6:Nat) (x7 u06:Int) (u00 u01 u02 u03 u04 u05:LI) (again:St→DN) (k:Out→St→DN):E2 (HV N) (DK MT [1,1,1,0,1,0,0]) (YU x1 n5 n6 x7 u06 u00 u01 u02 u03 u04 u05) (EQ again ⟨[1,2,4,5,6,7],[2,500,501],[⟨(.tmp 5),500,111,true,[.bool,.z,.z,.z,.z,.z]⟩,⟨(.tmp 6),501,3,false,[.z]⟩]⟩ k)=(cond (decide (x7 < ic (AF u00))) (cond (decide (x7 < 7)) (cond (decide (0≤x7)&&decide (x7 < ic (AF u00))) (cond (decide (N4 0 (AA AB (ic (n6 - 0) - 1))=0)) none (cond (decide (0≤DO (IV.toInt (AI u00 (AE x7) default)) 0 (AA AB (ic (n6 - 0) - 1)))&&decide (DO (IV.toInt (AI u00 (AE x7) default)) 0 (AA AB (ic (n6 - 0) - 1)) < ic (n6 - 0))) (cond (decide (0≤x7)) (cond (decide (N4 0 (AA AB (x1 - 1))=0)) none (cond (decide (0≤x7)) (cond (decide (0≤IV.toInt (AI u05 (0+AE (DO (IV.toInt (AI u00 (AE x7) default)) 0 (AA AB (ic (n6 - 0) - 1)))) default))&&decide (IV.toInt (AI u05 (0+AE (DO (IV.toInt (AI u00 (AE x7) default)) 0 (AA AB (ic (n6 - 0) - 1)))) default) < ic (n5 - 0))) (cond (decide (0≤AA AB (AA AB (2*x7)+1))) (cond (decide (0≤AA AB (AA AB (2*x7)+2))) (cond (decide ((n5+AF (AS 0 (AK 2 [IV.agg [IV.bool true,IV.int (DO (EM u03 (AA AB (AA AB (2*x7)+1))) (-3000) 3000),IV.int 0,IV.int 0,IV.int 0,IV.int 0],IV.agg [IV.bool true,IV.int (DO (EM u03 (AA AB (AA AB (2*x7)+2))) (-3000) 3000),IV.int 0,IV.int 0,IV.int 0,IV.int 0]])))*TI.bytes (Env.tyd (HV N) 111)≤EE)) (cond (decide (0≤DO (IV.toInt (AI u00 (AE x7) default)) 0 (AA AB (ic (n6 - 0) - 1)))&&decide (DO (IV.toInt (AI u00 (AE x7) default)) 0 (AA AB (ic (n6 - 0) - 1))≤ic (n6 - 0))) (cond (decide ((0+AF (AS 0 (AK (0+AE (DO (IV.toInt (AI u00 (AE x7) default)) 0 (AA AB (ic (n6 - 0) - 1)))) u05)))*TI.bytes (Env.tyd (HV N) 3)≤EE)) (cond (decide (0≤AA AB (DO (IV.toInt (AI u00 (AE x7) default)) 0 (AA AB (ic (n6 - 0) - 1))+1))&&decide (AA AB (DO (IV.toInt (AI u00 (AE x7) default)) 0 (AA AB (ic (n6 - 0) - 1))+1)≤ic (n6 - 0))) (cond (decide ((0+AF (AS 0 (AK (0+AE (DO (IV.toInt (AI u00 (AE x7) default)) 0 (AA AB (ic (n6 - 0) - 1)))) u05))+AF (AS (0+AE (AA AB (DO (IV.toInt (AI u00 (AE x7) default)) 0 (AA AB (ic (n6 - 0) - 1))+1))) (AK (0+(n6 - 0)) u05)))*TI.bytes (Env.tyd (HV N) 3)≤EE)) (cond (decide ((0+AF (AS 0 (AK (0+AE (DO (IV.toInt (AI u00 (AE x7) default)) 0 (AA AB (ic (n6 - 0) - 1)))) u05))+AF (AS (0+AE (AA AB (DO (IV.toInt (AI u00 (AE x7) default)) 0 (AA AB (ic (n6 - 0) - 1))+1))) (AK (0+(n6 - 0)) u05))+AF (AS 0 (AK 2 [IV.int (ic (n5 - 0)),IV.int (AA AB (ic (n5 - 0)+1))])))*TI.bytes (Env.tyd (HV N) 3)≤EE)) (again (YU x1 (n5+AF (AS 0 (AK 2 [IV.agg [IV.bool true,IV.int (DO (EM u03 (AA AB (AA AB (2*x7)+1))) (-3000) 3000),IV.int 0,IV.int 0,IV.int 0,IV.int 0],IV.agg [IV.bool true,IV.int (DO (EM u03 (AA AB (AA AB (2*x7)+2))) (-3000) 3000),IV.int 0,IV.int 0,IV.int 0,IV.int 0]]))) (0+AF (AS 0 (AK (0+AE (DO (IV.toInt (AI u00 (AE x7) default)) 0 (AA AB (ic (n6 - 0) - 1)))) u05))+AF (AS (0+AE (AA AB (DO (IV.toInt (AI u00 (AE x7) default)) 0 (AA AB (ic (n6 - 0) - 1))+1))) (AK (0+(n6 - 0)) u05))+AF (AS 0 (AK 2 [IV.int (ic (n5 - 0)),IV.int (AA AB (ic (n5 - 0)+1))]))) (AA AB (x7+1)) u06 u00 u01 u02 u03 (AK n5 (List.set u04 (0+AE (IV.toInt (AI u05 (0+AE (DO (IV.toInt (AI u00 (AE x7) default)) 0 (AA AB (ic (n6 - 0) - 1)))) default))) (OM true [Kd.bool,Kd.int AB,Kd.int AB,Kd.int AB,Kd.int AB,Kd.int AB] (AI u04 (0+AE (IV.toInt (AI u05 (0+AE (DO (IV.toInt (AI u00 (AE x7) default)) 0 (AA AB (ic (n6 - 0) - 1)))) default))) default) 0 [IV.bool false,IV.int 0,IV.int (DO (EM u01 x7) 0 (AA AB (x1 - 1))),IV.int (DO (EM u02 x7) 0 9),IV.int (ic (n5 - 0)),IV.int (AA AB (ic (n5 - 0)+1))]))++AS 0 (AK 2 [IV.agg [IV.bool true,IV.int (DO (EM u03 (AA AB (AA AB (2*x7)+1))) (-3000) 3000),IV.int 0,IV.int 0,IV.int 0,IV.int 0],IV.agg [IV.bool true,IV.int (DO (EM u03 (AA AB (AA AB (2*x7)+2))) (-3000) 3000),IV.int 0,IV.int 0,IV.int 0,IV.int 0]])) (AK (0+AF (AS 0 (AK (0+AE (DO (IV.toInt (AI u00 (AE x7) default)) 0 (AA AB (ic (n6 - 0) - 1)))) u05))+AF (AS (0+AE (AA AB (DO (IV.toInt (AI u00 (AE x7) default)) 0 (AA AB (ic (n6 - 0) - 1))+1))) (AK (0+(n6 - 0)) u05))) (AK (0+AF (AS 0 (AK (0+AE (DO (IV.toInt (AI u00 (AE x7) default)) 0 (AA AB (ic (n6 - 0) - 1)))) u05))) (AK 0 []++AS 0 (AK (0+AE (DO (IV.toInt (AI u00 (AE x7) default)) 0 (AA AB (ic (n6 - 0) - 1)))) u05))++AS (0+AE (AA AB (DO (IV.toInt (AI u00 (AE x7) default)) 0 (AA AB (ic (n6 - 0) - 1))+1))) (AK (0+(n6 - 0)) u05))++AS 0 (AK 2 [IV.int (ic (n5 - 0)),IV.int (AA AB (ic (n5 - 0)+1))])))) none) none) none) none) none) none) none) none) none) none)) none) none)) none) (k (.exit 0) (YU x1 n5 n6 x7 u06 u00 u01 u02 u03 u04 u05))) (k (.exit 0) (YU x1 n5 n6 x7 u06 u00 u01 u02 u03 u04 u05))):=by kernel_rfl
theorem Ys (N:Nat) (x1:Int) (n5 n6:Nat) (x7 u06:Int) (u00 u01 u02 u03 u04 u05:LI):(DQ 0 (DS (HV N) (DK MT [1,1,1,1]) (DT (HV N) none [.tmp 4] [[.list false [.int .u64]]]))) (.exit 0) (YU x1 n5 n6 x7 u06 u00 u01 u02 u03 u04 u05)=(DY (HV N) (DK MT [1,1,1,1,1,0,1,0,0]) ⟨[4,11,100,101,102],[500,502],[⟨(.tmp 11),502,103,false,[.int .u64]⟩]⟩ N (bD 0 n5 (ic (n5 - 0)) 0 u04 []) (DQ 2 (DS (HV N) (DK MT [1,1,1,1,1,1]) (DT (HV N) none [.tmp 4] [[.list false [.int .u64]]])))):=by kernel_rfl
theorem Mw (N n11 n100:Nat) (x101 x102:Int) (u00 u01:LI) (again:St→DN) (k:Out→St→DN):E2 (HV N) (DK MT [1,1,1,1,1,0,1,0,0]) (bD n11 n100 x101 x102 u00 u01) (EQ again ⟨[4,11,100,101,102],[500,502],[⟨(.tmp 11),502,103,false,[.int .u64]⟩]⟩ k)=(cond (decide (x102 < x101)) (cond (decide (0≤x102)&&decide (x102 < ic (n100 - 0))) (cond (decide ((n11+AF (AS 0 (AK 1 [IV.int (IM (IV.toBool (IV.cell (AI u00 (0+AE x102) default) 0)) (IV.toInt (IV.cell (AI u00 (0+AE x102) default) 1)) (IV.toInt (IV.cell (AI u00 (0+AE x102) default) 2)) (IV.toInt (IV.cell (AI u00 (0+AE x102) default) 3)) (IV.toInt (IV.cell (AI u00 (0+AE x102) default) 4)) (IV.toInt (IV.cell (AI u00 (0+AE x102) default) 5)))])))*TI.bytes (Env.tyd (HV N) 103)≤EE)) (again (bD (n11+AF (AS 0 (AK 1 [IV.int (IM (IV.toBool (IV.cell (AI u00 (0+AE x102) default) 0)) (IV.toInt (IV.cell (AI u00 (0+AE x102) default) 1)) (IV.toInt (IV.cell (AI u00 (0+AE x102) default) 2)) (IV.toInt (IV.cell (AI u00 (0+AE x102) default) 3)) (IV.toInt (IV.cell (AI u00 (0+AE x102) default) 4)) (IV.toInt (IV.cell (AI u00 (0+AE x102) default) 5)))]))) n100 x101 (AA AB (x102+1)) u00 (AK n11 u01++AS 0 (AK 1 [IV.int (IM (IV.toBool (IV.cell (AI u00 (0+AE x102) default) 0)) (IV.toInt (IV.cell (AI u00 (0+AE x102) default) 1)) (IV.toInt (IV.cell (AI u00 (0+AE x102) default) 2)) (IV.toInt (IV.cell (AI u00 (0+AE x102) default) 3)) (IV.toInt (IV.cell (AI u00 (0+AE x102) default) 4)) (IV.toInt (IV.cell (AI u00 (0+AE x102) default) 5)))])))) none) none) (k (.exit 2) (bD n11 n100 x101 x102 u00 u01))):=by kernel_rfl
theorem Yt (N n11 n100:Nat) (x101 x102:Int) (u00 u01:LI):(DQ 2 (DS (HV N) (DK MT [1,1,1,1,1,1]) (DT (HV N) none [.tmp 4] [[.list false [.int .u64]]]))) (.exit 2) (bD n11 n100 x101 x102 u00 u01)=(some ((.list false [.int .u64] (AS 0 (AK n11 u01))),[])):=by kernel_rfl
open Go Go.Proofs
structure Ns.At (i:Nat) (s:Ns):Prop where
 nl:s.nodes.length=2*i+1
 ll:s.leaves.length=i+1
 lt:∀ x∈s.leaves,0≤x.toInt∧x.toInt < (2*i+1:Nat)
theorem qW {part:LI} {i:Nat} {s:Ns} (h:s.At i) (hi:i≤100):0≤IA part i s∧IA part i s < ((i+1:Nat):Int)∧N4 0 (ic s.leaves.length - 1)=((i+1:Nat):Int):=by
 have e:ic s.leaves.length=((i+1:Nat):Int):=by rw [h.ll]
 obtain ⟨m,a,b⟩:=HG (n:=(part.getD i default).toInt) (lo:=0) (hi:=ic s.leaves.length - 1) (by rw [e]; omega) (by omega) (by rw [e]; omega);unfold IA;rw [e] at a b m ⊢;exact ⟨a,by omega,by rw [m]; omega⟩
theorem zfn {part:LI} {i:Nat} {s:Ns} (h:s.At i) (hi:i≤100):0≤RT part i s∧RT part i s < (2*i+1:Nat):=by
 obtain ⟨k0,k1,_⟩:=qW (part:=part) h hi;have hk:(IA part i s).toNat < s.leaves.length:=by rw [h.ll]; omega
 have e:s.leaves.getD (IA part i s).toNat default=s.leaves[(IA part i s).toNat]:=by simp [hk]
 unfold RT;rw [e];exact h.lt _ (C1 hk)
theorem Ns.At.step {part byl atl val:LI} {dim:Int} {i:Nat} {s:Ns} (h:s.At i) (hi:i≤100):(KN part byl atl val dim i s).At (i+1):=by
 obtain ⟨k0,k1,_⟩:=qW (part:=part) h hi;refine ⟨?_,?_,?_⟩
 ·simp only [KN,AT,vaF,AM,A7,h.nl];omega
 ·simp only [KN,AT,BB,CX,AM,A7,h.ll];omega
 ·intro x hx;simp only [KN,AX] at hx;rcases hx with (hx | hx) | hx
  ·have:=h.lt x (vaI hx)
   omega
  ·have:=h.lt x (va5 hx)
   omega
  ·simp only [AO,BX,CO] at hx;rcases hx with rfl | rfl
   ·simp only [IV.toInt,ic,h.nl]; omega
   ·simp only [IV.toInt,ic,h.nl]; omega
abbrev kN:List Kd:=[.bool,.z,.z,.z,.z,.z]
abbrev pY:KP:=⟨[1,2,4,5,6,7],[2,500,501],[⟨(.tmp 5),500,111,true,[.bool,.z,.z,.z,.z,.z]⟩,⟨(.tmp 6),501,3,false,[.z]⟩]⟩
abbrev gV (cl:Int) (part byl atl val:LI) (dim:Int) (s:Ns) (i:Int):St:=
 ⟨[(1,(.int .i64 dim)),(2,(.ptr 2 0 0)),(4,.zs),(5,(.row 500 0 s.nodes.length)),(6,(.row 501 0 s.leaves.length)),(7,(.int .i64 i))],[(2,(some (.box [(.int .i64 cl),(.list false [.z] part),(.list false [.z] byl),(.list false [.z] atl),(.list false [.z] val)]))),(500,(some (.row true 111 true kN s.nodes))),(501,(some (.row true 3 false [.z] s.leaves)))]⟩
theorem zfi (N:Nat):TI.bytes (Env.tyd (HV N) 111)=48:=by rfl
theorem zcv (N:Nat):TI.bytes (Env.tyd (HV N) 3)=8:=by rfl
theorem zgp (x a b c d e f:IV):OM true kN x 0 [a,b,c,d,e,f] = .agg [a,b,c,d,e,f]:=rfl
set_option maxHeartbeats 4000000 in
theorem zfj (N:Nat) (cl:Int) (part byl atl val:LI) (dim:Int) (h1:1≤dim) (h4:dim≤4) (s:Ns) (i:Nat) (hs:s.At i) (hi:i < part.length) (h7:i < 7) (again:St→DN) (k:Out→St→DN) :
  E2 (HV N) (DK MT [1,1,1,0,1,0,0]) (gV cl part byl atl val dim s (i:Int)) (EQ again pY k)=again (gV cl part byl atl val dim (KN part byl atl val dim i s) ((i+1:Nat):Int)):=by
 refine (Mv N dim s.nodes.length s.leaves.length i cl part byl atl val s.nodes s.leaves again k).trans ?_;obtain ⟨k0,k1,km⟩:=qW (part:=part) hs (by omega);obtain ⟨a0,a1⟩:=zfn (part:=part) hs (by omega);obtain ⟨dm,_,_⟩:=HG (n:=0) (lo:=0) (hi:=dim - 1) (by omega) (by omega) (by omega);have eL:ic (s.leaves.length - 0)=ic s.leaves.length:=rfl;have eN:ic (s.nodes.length - 0)=ic s.nodes.length:=rfl;have hL:ic s.leaves.length=((i+1:Nat):Int):=by rw [hs.ll]
 have hN:ic s.nodes.length=((2*i+1:Nat):Int):=by rw [hs.nl]
 have w1:IntKind.wrap IntKind.i64 (ic s.leaves.length - 1)=ic s.leaves.length - 1:=EL (by rw [hL]; omega) (by rw [hL]; omega);have w2:IntKind.wrap IntKind.i64 (dim - 1)=dim - 1:=EL (by omega) (by omega);have w3:IntKind.wrap IntKind.i64 (2*(i:Int))=2*(i:Int):=EL (by omega) (by omega);have w4:IntKind.wrap IntKind.i64 (2*(i:Int)+1)=2*(i:Int)+1:=EL (by omega) (by omega);have w5:IntKind.wrap IntKind.i64 (2*(i:Int)+2)=2*(i:Int)+2:=EL (by omega) (by omega);have w6:IntKind.wrap IntKind.i64 (ic s.nodes.length+1)=ic s.nodes.length+1:=EL (by rw [hN]; omega) (by rw [hN]; omega);rw [eL,eN,w1,w2,w3,w4,w5,w6,Int.toNat_natCast];have eK:DO (IV.toInt (List.getD part i default)) 0 (ic s.leaves.length - 1)=IA part i s:=rfl;rw [eK];have w7:IntKind.wrap IntKind.i64 (IA part i s+1)=IA part i s+1:=EL (by omega) (by omega);rw [w7];have e0:∀ n:Nat,0+n=n:=Nat.zero_add;simp only [e0];have eA:IV.toInt (List.getD s.leaves (IA part i s).toNat default)=RT part i s:=rfl;rw [eA,zfi,zcv];obtain ⟨q,hq⟩:∃ q:Nat,IA part i s=q:=⟨(IA part i s).toNat,by omega⟩;have eq1:(IA part i s+1).toNat=q+1:=by omega
 have eq0:(IA part i s).toNat=q:=by omega
 have hq1:q < i+1:=by omega
 have lt2:∀ x y:IV,(List.drop 0 (List.take 2 [x,y]))=[x,y]:=fun _ _=>rfl
 have lk:List.drop 0 (List.take q s.leaves)=List.take q s.leaves:=List.drop_zero;have lk2:List.drop (q+1) (List.take (s.leaves.length - 0) s.leaves)=List.drop (q+1) s.leaves:=by rw [Nat.sub_zero,List.take_length]
 rw [eq1,eq0,lt2,lt2,lk,lk2];have zA:(List.take q s.leaves).length=q:=by rw [List.length_take,hs.ll]; omega
 have zB:(List.drop (q+1) s.leaves).length=i - q:=by rw [List.length_drop,hs.ll]; omega
 rw [zA,zB];simp only [List.length_cons,List.length_nil];rw [decide_eq_true (show (i:Int) < ic part.length by simp only [ic]; omega),decide_eq_true (show (i:Int) < 7 by omega),decide_eq_true (show 0≤(i:Int) by omega),km,decide_eq_false (show ¬ ((i+1:Nat):Int)=0 by omega),
  decide_eq_true k0,decide_eq_true (show IA part i s < ic s.leaves.length by rw [hL]; exact k1),dm,decide_eq_false (show ¬ (dim - 1 - 0+1=0) by omega),decide_eq_true a0,decide_eq_true (show RT part i s < ic s.nodes.length by rw [hN]; exact a1),
  decide_eq_true (show 0≤2*(i:Int)+1 by omega),decide_eq_true (show 0≤2*(i:Int)+2 by omega),decide_eq_true (show (s.nodes.length+(0+1+1))*48≤EE by rw [hs.nl]; unfold EE; omega),
  decide_eq_true (show IA part i s≤ic s.leaves.length by rw [hL]; omega),decide_eq_true (show q*8≤EE by unfold EE; omega),decide_eq_true (show 0≤IA part i s+1 by omega),decide_eq_true (show IA part i s+1≤ic s.leaves.length by rw [hL]; omega),
  decide_eq_true (show (q+(i - q))*8≤EE by unfold EE; omega),decide_eq_true (show (q+(i - q)+(0+1+1))*8≤EE by unfold EE; omega)]
 simp only [Bool.and_true,DI,DJ];have g1:(KN part byl atl val dim i s).nodes.length=s.nodes.length+(0+1+1):=by rw [(hs.step (by omega)).nl,hs.nl]; omega
 have g2:(KN part byl atl val dim i s).leaves.length=q+(i - q)+(0+1+1):=by rw [(hs.step (by omega)).ll]; omega
 have g3:(KN part byl atl val dim i s).nodes=List.take s.nodes.length (List.set s.nodes (RT part i s).toNat (OM true kN (List.getD s.nodes (RT part i s).toNat default) 0 [IV.bool false,IV.int 0,IV.int (DO (EM byl (i:Int)) 0 (dim - 1)),IV.int (DO (EM atl (i:Int)) 0 9),IV.int (ic s.nodes.length),IV.int (ic s.nodes.length+1)])) ++
   [IV.agg [IV.bool true,IV.int (DO (EM val (2*(i:Int)+1)) (-3000) 3000),IV.int 0,IV.int 0,IV.int 0,IV.int 0],IV.agg [IV.bool true,IV.int (DO (EM val (2*(i:Int)+2)) (-3000) 3000),IV.int 0,IV.int 0,IV.int 0,IV.int 0]]:=by
  rw [zgp,List.take_of_length_le (by rw [List.length_set]; exact Nat.le_refl _)];rfl
 have g4:(KN part byl atl val dim i s).leaves=List.take (q+(i - q)) (List.take q (List.take 0 []++List.take q s.leaves)++List.drop (q+1) s.leaves)++[IV.int (ic s.nodes.length),IV.int (ic s.nodes.length+1)]:=by
  rw [List.take_zero,List.nil_append,List.take_take,Nat.min_self,List.take_of_length_le (by rw [List.length_append,zA,zB]; exact Nat.le_refl _)];show List.take (IA part i s).toNat s.leaves++List.drop ((IA part i s).toNat+1) s.leaves++_=_;rw [eq0]
 rw [show gV cl part byl atl val dim (KN part byl atl val dim i s) ((i+1:Nat):Int)=⟨[(1,(.int .i64 dim)),(2,(.ptr 2 0 0)),(4,.zs),(5,(.row 500 0 (KN part byl atl val dim i s).nodes.length)),(6,(.row 501 0 (KN part byl atl val dim i s).leaves.length)),(7,(.int .i64 ((i+1:Nat):Int)))],[(2,(some (.box [(.int .i64 cl),(.list false [.z] part),(.list false [.z] byl),(.list false [.z] atl),(.list false [.z] val)]))),(500,(some (.row true 111 true kN (KN part byl atl val dim i s).nodes))),(501,(some (.row true 3 false [.z] (KN part byl atl val dim i s).leaves)))]⟩ from rfl,g1,g2,g3,g4,HD (by omega)]
theorem Fl (N:Nat) (cl:Int) (part byl atl val:LI) (dim:Int) (h1:1≤dim) (h4:dim≤4) (K:Out→St→DN):∀ (d i n:Nat) (s:Ns),i+d=min part.length 7→d < n→s.At i →
  (∃ j,DY (HV N) (DK MT [1,1,1,0,1,0,0]) pY n (gV cl part byl atl val dim s (i:Int)) K=K (.exit 0) (gV cl part byl atl val dim (Z4 part byl atl val dim d i s) j))∧(Z4 part byl atl val dim d i s).At (i+d)
 | 0,i,n+1,s,hd,hn,hs=>by
  refine ⟨⟨(i:Int),?_⟩,hs⟩;rw [D5];refine (Mv N dim s.nodes.length s.leaves.length i cl part byl atl val s.nodes s.leaves _ _).trans ?_;by_cases hp:i < part.length
  ·rw [AD (show (i:Int) < ic part.length by simp only [ic]; omega),DI,AL (show ¬ (i:Int) < 7 by omega),DJ];rfl
  ·rw [AL (show ¬ (i:Int) < ic part.length by simp only [ic]; omega),DJ];rfl
 | d+1,i,n+1,s,hd,hn,hs=>by
  obtain ⟨⟨j,ih⟩,ih2⟩:=Fl N cl part byl atl val dim h1 h4 K d (i+1) n (KN part byl atl val dim i s) (by omega) (by omega) (hs.step (by omega));refine ⟨⟨j,?_⟩,by rw [show i+(d+1)=i+1+d by omega]; exact ih2⟩;rw [D5,zfj N cl part byl atl val dim h1 h4 s i hs (by omega) (by omega)];exact ih
 | _,_,0,_,_,h,_=>by omega
theorem zjz (N:Nat):TI.bytes (Env.tyd (HV N) 103)=8:=by rfl
abbrev Dd:KP:=⟨[4,11,100,101,102],[500,502],[⟨(.tmp 11),502,103,false,[(.int .u64)]⟩]⟩
theorem Ge (N:Nat) (L:LI) (hL:L.length≤1000):∀ (d i n:Nat) (O:LI),i+d=L.length→d < n→O.length=i →
  DY (HV N) (DK MT [1,1,1,1,1,0,1,0,0]) Dd n ⟨[(4,.zs),(11,(.row 502 0 O.length)),(100,(.row 500 0 L.length)),(101,(.int .i64 (ic (L.length - 0)))),(102,(.int .i64 (i:Int)))],[(500,(some (.row true 111 true kN L))),(502,(some (.row true 103 false [(.int .u64)] O)))]⟩
   (DQ 2 (DS (HV N) (DK MT [1,1,1,1,1,1]) (DT (HV N) none [(CE 4)] [[(.list false [(.int .u64)])]])))=some (.list false [.int .u64] (O++(L.drop i).map TK),[])
 | 0,i,n+1,O,hd,hn,hO=>by
  rw [D5];refine (Mw N O.length L.length (ic (L.length - 0)) i L O _ _).trans ?_;rw [AL (show ¬ (i:Int) < ic (L.length - 0) by simp only [ic]; omega),DJ];refine (Yt N O.length L.length (ic (L.length - 0)) i L O).trans ?_;rw [B2,BO,CS (by omega),CA,DB]
 | d+1,i,n+1,O,hd,hn,hO=>by
  have hi:i < L.length:=by omega
  rw [D5];refine (Mw N O.length L.length (ic (L.length - 0)) i L O _ _).trans ?_;have ih:=Ge N L hL d (i+1) n (O++[TK L[i]]) (by omega) (by omega) (by simp [hO]);have l1:∀ x:IV,AS 0 (AK 1 [x])=[x]:=fun _=>rfl
  have eg:AI L (0+AE (i:Int)) default=L[i]:=by rw [BI,BF]; simp [hi]
  rw [AD (show (i:Int) < ic (L.length - 0) by simp only [ic]; omega),AD (show 0≤(i:Int) by omega),B1,DI,DI,eg,l1,zjz,C3,AD (show (O.length+1)*8≤EE by rw [hO]; unfold EE; omega),DI,BO,HD (by omega)];rw [BG hi,A0];rw [AT,C3,vaH] at ih;exact ih
 | _,_,0,_,_,h,_=>by omega
theorem zhN:DX PR B0 39 cK:=by
 refine D6 [(17,LA),(38,SO),(71,WN)] [(4,pY),(14,Dd)] cK [[.list false [.int .u64]]] Tryz.func39 zbc
  ⟨YB,tQ,Kn,trivial⟩ ?_
 intro vs r hwf h;unfold cK at h;split at h
 ·rename_i cl part byl atl val dim;cases hc:(decide (1≤dim)&&decide (dim≤4)) with
  | false=>rw [hc] at h; simp [R.get] at h
  | true=>
   rw [hc,R.get_br,DI,R.get_ok] at h;simp only [AH,AQ] at hc;refine ⟨30,?_⟩;rw [← h];refine (zdZ 30 cl part byl atl val dim).trans ?_;have h0:(⟨[L8 (DO (EM val 0) (-3000) 3000)],[.int 0]⟩:Ns).At 0:=⟨rfl,rfl,fun x hx=>by
    rw [BL] at hx;subst hx;exact ⟨by decide,by decide⟩⟩
   obtain ⟨⟨j,run⟩,hat⟩:=Fl 30 cl part byl atl val dim hc.1 hc.2 (DQ 0 (DS (HV 30) (DK MT [1,1,1,1]) (DT (HV 30) none [(CE 4)] [[(.list false [(.int .u64)])]]))) (min part.length 7) 0 30 _ (by omega) (by omega) h0;refine run.trans ?_;have e:Z4 part byl atl val dim (min part.length 7) 0 ⟨[L8 (DO (EM val 0) (-3000) 3000)],[.int 0]⟩=PL part byl atl val dim:=rfl;rw [e] at hat ⊢;have hn:=hat.nl;refine (Ys 30 dim (PL part byl atl val dim).nodes.length (PL part byl atl val dim).leaves.length j cl part byl atl val (PL part byl atl val dim).nodes (PL part byl atl val dim).leaves).trans ?_
   have:=Ge 30 (PL part byl atl val dim).nodes (by omega) (PL part byl atl val dim).nodes.length 0 30 [] (by omega) (by omega) rfl
   rw [B2,C5] at this;exact this
 ·simp [R.get] at h
open Go Go.Proofs
def JN (N:Nat):Env:=D4 [(17,LA),(39,cK),(38,SO)] [(3,⟨[1,2,3,14,15],[1,2,3],[]⟩),(8,⟨[1,2,3,5],[1,2,3,500],[⟨.cell 3 5,500,88,true,[.z,.list false [.int .u64]]⟩]⟩)] 63 N
abbrev V6 (x14 x15 u02 u03:Int) (u00 u01:LI) (u04 u05 u06 u07 u08 u09 u0a u0b u0c u0d:Int):St:=⟨[(1,(.ptr 1 0 0)),(2,(.ptr 2 0 0)),(3,(.ptr 3 0 0)),(14,(.i x14)),(15,(.i x15))],[(1,(some (.box [.i u02,.i u03,.list false [.z] u00,.list true [.z,.list false [.z],.list false [.z],.list false [.z],.list false [.z]] u01]))),(2,(some (.box [.i u04,.i u05,.i u06,.i u07,.i u08,.zs]))),(3,(some (.box [.i u09,.i u0a,.i u0b,.i u0c,.i u0d,.zs])))]⟩
abbrev YT (x5 u04 u05:Int) (u00 u01:LI) (u06 u07 u08 u09 u0a u0b u0c u0d u0e u0f:Int) (u03:Nat) (u02:LI):St:=⟨[(1,(.ptr 1 0 0)),(2,(.ptr 2 0 0)),(3,(.ptr 3 0 0)),(5,(.i x5))],[(1,(some (.box [.i u04,.i u05,.list false [.z] u00,.list true [.z,.list false [.z],.list false [.z],.list false [.z],.list false [.z]] u01]))),(2,(some (.box [.i u06,.i u07,.i u08,.i u09,.i u0a,.zs]))),(3,(some (.box [.i u0b,.i u0c,.i u0d,.i u0e,.i u0f,.row 500 0 u03]))),(500,(some (.row true 88 true [.z,.list false [.int .u64]] u02)))]⟩
theorem zdW (N:Nat) (u02 u01:Int) (u00 u03:LI):DZ (JN N) NJ [.cell 2 30] [[.z,.z,.z,.z,.z,.list true [.z,.list false [.int .u64]]]] [.agg [.i u02,.i u01,.list false [.z] u00,.list true [.z,.list false [.z],.list false [.z],.list false [.z],.list false [.z]] u03]]=(DY (JN N) (DK NJ [1,1,0,1,0,0]) ⟨[1,2,3,14,15],[1,2,3],[]⟩ N (V6 (DO u01 1 3) 0 u02 u01 u00 u03 0 0 0 0 0 (DO u02 1 3) (DO u01 1 3) 0 0 0) (DQ 0 (DS (JN N) (DK NJ [1,1,1]) (DT (JN N) none [.cell 2 30] [[.z,.z,.z,.z,.z,.list true [.z,.list false [.int .u64]]]])))):=by kernel_rfl
theorem Ms (N:Nat) (x14 x15 u02 u03:Int) (u00 u01:LI) (u04 u05 u06 u07 u08 u09 u0a u0b u0c u0d:Int) (again:St→DN) (k:Out→St→DN):E2 (JN N) (DK NJ [1,1,0,1,0,0]) (V6 x14 x15 u02 u03 u00 u01 u04 u05 u06 u07 u08 u09 u0a u0b u0c u0d) (EQ again ⟨[1,2,3,14,15],[1,2,3],[]⟩ k)=(cond (decide (x15 < x14)) (cond (decide (0≤x15)) (cond (decide (x15=ic 0)) (again (V6 x14 (AA AB (x15+1)) u02 u03 u00 u01 u04 u05 u06 u07 u08 u09 u0a (DO (EM u00 x15) (-500) 500) u0c u0d)) (cond (decide (x15=ic 1)) (again (V6 x14 (AA AB (x15+1)) u02 u03 u00 u01 u04 u05 u06 u07 u08 u09 u0a u0b (DO (EM u00 x15) (-500) 500) u0d)) (cond (decide (x15=ic 2)) (again (V6 x14 (AA AB (x15+1)) u02 u03 u00 u01 u04 u05 u06 u07 u08 u09 u0a u0b u0c (DO (EM u00 x15) (-500) 500))) none))) none) (k (.exit 0) (V6 x14 x15 u02 u03 u00 u01 u04 u05 u06 u07 u08 u09 u0a u0b u0c u0d))):=by kernel_rfl
theorem Yp (N:Nat) (x14 x15 u02 u03:Int) (u00 u01:LI) (u04 u05 u06 u07 u08 u09 u0a u0b u0c u0d:Int):(DQ 0 (DS (JN N) (DK NJ [1,1,1]) (DT (JN N) none [.cell 2 30] [[.z,.z,.z,.z,.z,.list true [.z,.list false [.int .u64]]]]))) (.exit 0) (V6 x14 x15 u02 u03 u00 u01 u04 u05 u06 u07 u08 u09 u0a u0b u0c u0d)=(DY (JN N) (DK NJ [1,1,1,0,1,0,0]) ⟨[1,2,3,5],[1,2,3,500],[⟨(.cell 3 5),500,88,true,[.z,.list false [.int .u64]]⟩]⟩ N (YT 0 u02 u03 u00 u01 u04 u05 u06 u07 u08 u09 u0a u0b u0c u0d 0 []) (DQ 2 (DS (JN N) (DK NJ [1,1,1,1]) (DT (JN N) none [.cell 2 30] [[.z,.z,.z,.z,.z,.list true [.z,.list false [.int .u64]]]])))):=by kernel_rfl
theorem Mt (N:Nat) (x5 u04 u05:Int) (u00 u01:LI) (u06 u07 u08 u09 u0a u0b u0c u0d u0e u0f:Int) (u03:Nat) (u02:LI) (again:St→DN) (k:Out→St→DN):E2 (JN N) (DK NJ [1,1,1,0,1,0,0]) (YT x5 u04 u05 u00 u01 u06 u07 u08 u09 u0a u0b u0c u0d u0e u0f u03 u02) (EQ again ⟨[1,2,3,5],[1,2,3,500],[⟨(.cell 3 5),500,88,true,[.z,.list false [.int .u64]]⟩]⟩ k)=(cond (decide (x5 < ic (AF u01))) (cond (decide (x5 < 4)) (cond (decide (0≤x5)&&decide (x5 < ic (AF u01))) (cond (decide (N4 0 (AA AB (u0c - 1))=0)) none (cond (decide (0≤x5)&&decide (x5 < ic (AF u01))) (cond (decide (1≤u0b)&&decide (u0b≤4)) (cond (decide ((u03+AF (AS 0 (AK 1 [IV.agg [IV.int (DO (IV.toInt (IV.cell (AI u01 (AE x5) default) 0)) 0 (AA AB (u0c - 1))),IV.list (MZ (IV.toList (IV.cell (AI u01 (AE x5) default) 1)) (IV.toList (IV.cell (AI u01 (AE x5) default) 2)) (IV.toList (IV.cell (AI u01 (AE x5) default) 3)) (IV.toList (IV.cell (AI u01 (AE x5) default) 4)) u0b)]])))*TI.bytes (Env.tyd (JN N) 88)≤EE)) (again (YT (AA AB (x5+1)) u04 u05 u00 u01 u06 u07 u08 u09 u0a u0b u0c u0d u0e u0f (u03+AF (AS 0 (AK 1 [IV.agg [IV.int (DO (IV.toInt (IV.cell (AI u01 (AE x5) default) 0)) 0 (AA AB (u0c - 1))),IV.list (MZ (IV.toList (IV.cell (AI u01 (AE x5) default) 1)) (IV.toList (IV.cell (AI u01 (AE x5) default) 2)) (IV.toList (IV.cell (AI u01 (AE x5) default) 3)) (IV.toList (IV.cell (AI u01 (AE x5) default) 4)) u0b)]]))) (AK u03 u02++AS 0 (AK 1 [IV.agg [IV.int (DO (IV.toInt (IV.cell (AI u01 (AE x5) default) 0)) 0 (AA AB (u0c - 1))),IV.list (MZ (IV.toList (IV.cell (AI u01 (AE x5) default) 1)) (IV.toList (IV.cell (AI u01 (AE x5) default) 2)) (IV.toList (IV.cell (AI u01 (AE x5) default) 3)) (IV.toList (IV.cell (AI u01 (AE x5) default) 4)) u0b)]])))) none) none) none)) none) (k (.exit 2) (YT x5 u04 u05 u00 u01 u06 u07 u08 u09 u0a u0b u0c u0d u0e u0f u03 u02))) (k (.exit 2) (YT x5 u04 u05 u00 u01 u06 u07 u08 u09 u0a u0b u0c u0d u0e u0f u03 u02))):=by kernel_rfl
theorem Yq (N:Nat) (x5 u04 u05:Int) (u00 u01:LI) (u06 u07 u08 u09 u0a u0b u0c u0d u0e u0f:Int) (u03:Nat) (u02:LI):(DQ 2 (DS (JN N) (DK NJ [1,1,1,1]) (DT (JN N) none [.cell 2 30] [[.z,.z,.z,.z,.z,.list true [.z,.list false [.int .u64]]]]))) (.exit 2) (YT x5 u04 u05 u00 u01 u06 u07 u08 u09 u0a u0b u0c u0d u0e u0f u03 u02)=(some ((.agg [.i u0b,.i u0c,.i u0d,.i u0e,.i u0f,.list true [.z,.list false [.int .u64]] (AS 0 (AK u03 u02))]),[])):=by kernel_rfl
open Go Go.Proofs
abbrev kT5:List Kd:=[.z,(.list false [.z]),(.list false [.z]),(.list false [.z]),(.list false [.z])]
def bF (bias:LI) (j:Int):Int:=DO (EM bias j) (-500) 500
abbrev nP (d c:Int) (bias ts:LI):Ob:=.box [(.int .i64 d),(.int .i64 c),(.list false [.z] bias),(.list true kT5 ts)]
abbrev nR:Ob:=.box [(.int .i64 0),(.int .i64 0),(.int .i64 0),(.int .i64 0),(.int .i64 0),.zs]
abbrev Mf (d c:Int) (bias ts:LI) (D C:Int) (i:Nat) (x:Int):St:=
 ⟨[(1,(.ptr 1 0 0)),(2,(.ptr 2 0 0)),(3,(.ptr 3 0 0)),(14,(.int .i64 C)),(15,(.int .i64 x))],[(1,(some (nP d c bias ts))),(2,(some nR)),(3,(some (.box [(.int .i64 D),(.int .i64 C),(.int .i64 (cond (BS 0 i) (bF bias 0) 0)),(.int .i64 (cond (BS 1 i) (bF bias 1) 0)),(.int .i64 (cond (BS 2 i) (bF bias 2) 0)),.zs])))]⟩
theorem wM (N:Nat) (d c:Int) (bias ts:LI) (D:Int) (C:Nat) (hC:C≤3) (K:Out→St→DN):∀ (m i n:Nat),i+m=C→m < n →
  DY (JN N) (DK NJ [1,1,0,1,0,0]) ⟨[1,2,3,14,15],[1,2,3],[]⟩ n (Mf d c bias ts D C i (i:Int)) K=K (.exit 0) (Mf d c bias ts D C C (C:Int))
 | 0,i,n+1,hd,hn=>by
  have hi:i=C:=by omega
  subst hi;rw [D5];refine (Ms N i i d c bias ts 0 0 0 0 0 D i (cond (BS 0 i) (bF bias 0) 0) (cond (BS 1 i) (bF bias 1) 0) (cond (BS 2 i) (bF bias 2) 0) _ _).trans ?_;rw [AL (show ¬ (i:Int) < (i:Int) by omega),DJ]
 | m+1,i,n+1,hd,hn=>by
  rw [D5];refine (Ms N C i d c bias ts 0 0 0 0 0 D C (cond (BS 0 i) (bF bias 0) 0) (cond (BS 1 i) (bF bias 1) 0) (cond (BS 2 i) (bF bias 2) 0) _ _).trans ?_;have ih:=wM N d c bias ts D C hC K m (i+1) n (by omega) (by omega);rw [AD (show (i:Int) < (C:Int) by omega),DI,AD (show 0≤(i:Int) by omega),DI,HD (by omega)];have hi4:i=0∨i=1∨i=2:=by omega
  rcases hi4 with rfl | rfl | rfl
  ·rw [show decide (((0:Nat):Int)=ic 0)=true from rfl,DI];exact ih
  ·rw [show decide (((1:Nat):Int)=ic 0)=false from rfl,show decide (((1:Nat):Int)=ic 1)=true from rfl,DJ,DI];exact ih
  ·rw [show decide (((2:Nat):Int)=ic 0)=false from rfl,show decide (((2:Nat):Int)=ic 1)=false from rfl,show decide (((2:Nat):Int)=ic 2)=true from rfl,DJ,DJ,DI];exact ih
 | _,_,0,_,h=>by omega
abbrev kA:List Kd:=[.z,(.list false [(.int .u64)])]
abbrev Dc:KP:=⟨[1,2,3,5],[1,2,3,500],[⟨(.cell 3 5),500,88,true,[.z,(.list false [(.int .u64)])]⟩]⟩
abbrev uG (d c:Int) (bias ts:LI) (D C b0 b1 b2:Int) (O:LI) (x:Int):St:=
 ⟨[(1,(.ptr 1 0 0)),(2,(.ptr 2 0 0)),(3,(.ptr 3 0 0)),(5,(.int .i64 x))],[(1,(some (nP d c bias ts))),(2,(some nR)),(3,(some (.box [(.int .i64 D),(.int .i64 C),(.int .i64 b0),(.int .i64 b1),(.int .i64 b2),(.row 500 0 O.length)]))),(500,(some (.row true 88 true kA O)))]⟩
def YI (D C:Int) (t:IV):IV:=.agg [.int (DO (t.cell 0).toInt 0 (C - 1)),.list (MZ (t.cell 1).toList (t.cell 2).toList (t.cell 3).toList (t.cell 4).toList D)]
theorem zjs (N:Nat):TI.bytes (Env.tyd (JN N) 88)=32:=by rfl
theorem Pe (N:Nat) (d c:Int) (bias ts:LI) (D C b0 b1 b2:Int) (hD:1≤D∧D≤4) (hC:1≤C∧C≤3):∀ (m i n:Nat) (O:LI),i+m=min ts.length 4→m < n→O.length=i →
  DY (JN N) (DK NJ [1,1,1,0,1,0,0]) Dc n (uG d c bias ts D C b0 b1 b2 O (i:Int)) (DQ 2 (DS (JN N) (DK NJ [1,1,1,1]) (DT (JN N) none [(va4 2 30)] [[.z,.z,.z,.z,.z,(.list true [.z,(.list false [(.int .u64)])])]]))) =
   some (.agg [.int .i64 D,.int .i64 C,.int .i64 b0,.int .i64 b1,.int .i64 b2,.list true kA (O++((ts.take 4).drop i).map (YI D C))],[])
 | 0,i,n+1,O,hd,hn,hO=>by
  have fin:(DQ 2 (DS (JN N) (DK NJ [1,1,1,1]) (DT (JN N) none [(va4 2 30)] [[.z,.z,.z,.z,.z,(.list true [.z,(.list false [(.int .u64)])])]]))) (.exit 2) (uG d c bias ts D C b0 b1 b2 O (i:Int))=some (.agg [.int .i64 D,.int .i64 C,.int .i64 b0,.int .i64 b1,.int .i64 b2,.list true kA (O++((ts.take 4).drop i).map (YI D C))],[]):=by
   refine (Yq N i d c bias ts 0 0 0 0 0 D C b0 b1 b2 O.length O).trans ?_;rw [B2,BO,CS (by rw [BB]; omega),CA,DB]
  rw [D5];refine (Mt N i d c bias ts 0 0 0 0 0 D C b0 b1 b2 O.length O _ _).trans ?_;by_cases hp:i < ts.length
  ·rw [AD (show (i:Int) < ic ts.length by simp only [ic]; omega),DI,AL (show ¬ (i:Int) < 4 by omega),DJ];exact fin
  ·rw [AL (show ¬ (i:Int) < ic ts.length by simp only [ic]; omega),DJ];exact fin
 | m+1,i,n+1,O,hd,hn,hO=>by
  have hi:i < ts.length:=by omega
  rw [D5];refine (Mt N i d c bias ts 0 0 0 0 0 D C b0 b1 b2 O.length O _ _).trans ?_;have l1:∀ x:IV,AS 0 (AK 1 [x])=[x]:=fun _=>rfl
  have eg:AI ts (AE (i:Int)) default=ts[i]:=by rw [BF]; simp [hi]
  have w1:AA AB (C - 1)=C - 1:=EL (by omega) (by omega);obtain ⟨m1,_,_⟩:=HG (n:=0) (lo:=0) (hi:=C - 1) (by omega) (by omega) (by omega);have ih:=Pe N d c bias ts D C b0 b1 b2 hD hC m (i+1) n (O++[YI D C ts[i]]) (by omega) (by omega) (by simp [hO]);rw [AD (show (i:Int) < ic ts.length by simp only [ic]; omega),AD (show (i:Int) < 4 by omega),AD (show 0≤(i:Int) by omega),w1,m1,AL (show ¬ (C - 1 - 0+1=0) by omega),AD hD.1,AD hD.2,eg,l1,zjs,C3,
   AD (show (O.length+1)*32≤EE by rw [hO]; unfold EE; omega),BO,HD (by omega)]
  simp only [B1,DI,DJ];have ed:(ts.take 4).drop i=ts[i] :: (ts.take 4).drop (i+1):=by
   have h4:i < (ts.take 4).length:=by rw [BB]; omega
   rw [BG h4];congr 1;rw [List.getElem_take]
  rw [ed,A0];rw [vaH] at ih;have eL:(O++[YI D C ts[i]]).length=O.length+1:=by simp
  rw [show uG d c bias ts D C b0 b1 b2 (O++[YI D C ts[i]]) ((i+1:Nat):Int)=⟨[(1,(.ptr 1 0 0)),(2,(.ptr 2 0 0)),(3,(.ptr 3 0 0)),(5,(.int .i64 ((i+1:Nat):Int)))],[(1,(some (nP d c bias ts))),(2,(some nR)),(3,(some (.box [(.int .i64 D),(.int .i64 C),(.int .i64 b0),(.int .i64 b1),(.int .i64 b2),(.row 500 0 (O++[YI D C ts[i]]).length)]))),(500,(some (.row true 88 true kA (O++[YI D C ts[i]]))))]⟩ from rfl,eL] at ih;exact ih
 | _,_,0,_,_,h,_=>by omega
theorem zhK:DX PR B0 15 iG:=by
 refine D6 [(17,LA),(39,cK),(38,SO)] [(3,⟨[1,2,3,14,15],[1,2,3],[]⟩),(8,Dc)] iG [[.z,.z,.z,.z,.z,.list true [.z,.list false [.int .u64]]]] Tryz.func15 za9
  ⟨YB,zhN,tQ,trivial⟩ ?_
 intro vs r hwf h;unfold iG at h;split at h
 ·rename_i d c bias ts;refine ⟨20,?_⟩;rw [R.get_ok] at h;rw [← h];refine (zdW 20 d c bias ts).trans ?_;obtain ⟨_,d1,d2⟩:=HG (n:=d) (lo:=1) (hi:=3) (by omega) (by omega) (by omega);obtain ⟨_,c1,c2⟩:=HG (n:=c) (lo:=1) (hi:=3) (by omega) (by omega) (by omega);unfold R7 aQ SX KX OF;generalize DO d 1 3=D at d1 d2;generalize DO c 1 3=C' at c1 c2;obtain ⟨C,rfl⟩:∃ C:Nat,C'=C:=⟨C'.toNat,by omega⟩;refine (wM 20 d c bias ts D C (by omega) _ C 0 20 (by omega) (by omega)).trans ?_;refine (Yp 20 C C d c bias ts 0 0 0 0 0 D C (cond (BS 0 C) (bF bias 0) 0) (cond (BS 1 C) (bF bias 1) 0) (cond (BS 2 C) (bF bias 2) 0)).trans ?_;refine (Pe 20 d c bias ts D C _ _ _ ⟨d1,by omega⟩ ⟨c1,by omega⟩ (min ts.length 4) 0 20 [] (by omega) (by omega) rfl).trans ?_;rw [B2,C5];have hC:C=1∨C=2∨C=3:=by omega
  rcases hC with rfl | rfl | rfl <;> rfl
 ·simp [R.get] at h
open Go Go.Proofs
def Rn (N:Nat):Env:=D4 [(26,P2),(28,cJ),(22,P4),(35,SR),(20,N9)] [] 31 N
theorem zd8 (N:Nat):DZ (Rn N) xW [.tmp 0] [[.bool]] []=(some ((.bool true),[])):=by kernel_rfl
open Go Go.Proofs
def Rg (N:Nat):Env:=D4 [(71,WN)] [] 14 N
theorem zdY (N:Nat):DZ (Rg N) xQ [.cell 0 30] [[.z,.z,.z,.z,.z,.list true [.z,.list false [.int .u64]]]] []=(some ((.agg [.i 1,.i 1,.i 3,.i 0,.i 0,.list true MY [(IV.agg [IV.int 0,IV.list [IV.int (IM false 0 0 5 1 2),IV.int (IM true 10 0 0 0 0),IV.int (IM true 20 0 0 0 0)]])]]),[])):=by kernel_rfl
def Q8 (N:Nat):Env:=D4 [] [(4,⟨[0,1,4,5],[],[]⟩)] 26 N
abbrev V5 (l0 l1:LI) (b4:Bool) (x5:Int):St:=⟨[(0,(.list true EB l0)),(1,(.list true EB l1)),(4,(.bool b4)),(5,(.i x5))],[]⟩
theorem zdT (N:Nat) (a b:LI):DZ (Q8 N) UW [.tmp 4] [[.bool]] [.list true [.bool,.z,.z] a,.list true [.bool,.z,.z] b]=(cond (ic (AF a) != ic (AF b)) (some ((.bool false),[])) (DY (Q8 N) (DK UW [1,1,0,1,0,0]) ⟨[0,1,4,5],[],[]⟩ N (V5 a b false 0) (DQ 0 (DS (Q8 N) (DK UW [1,1,1]) (DT (Q8 N) none [.tmp 4] [[.bool]]))))):=by kernel_rfl
theorem Mr (N:Nat) (l0 l1:LI) (b4:Bool) (x5:Int) (again:St→DN) (k:Out→St→DN):E2 (Q8 N) (DK UW [1,1,0,1,0,0]) (V5 l0 l1 b4 x5) (EQ again ⟨[0,1,4,5],[],[]⟩ k)=(cond (decide (x5 < ic (AF l0))) (cond (decide (0≤x5)&&decide (x5 < ic (AF l0))) (cond (decide (0≤x5)&&decide (x5 < ic (AF l1))) (cond (! (IV.toBool (IV.cell (AI l0 (AE x5) default) 0)==IV.toBool (IV.cell (AI l1 (AE x5) default) 0)&&(IV.toInt (IV.cell (AI l0 (AE x5) default) 1)==IV.toInt (IV.cell (AI l1 (AE x5) default) 1)&&(IV.toInt (IV.cell (AI l0 (AE x5) default) 2)==IV.toInt (IV.cell (AI l1 (AE x5) default) 2)&&true)))) (k .ret (V5 l0 l1 false x5)) (again (V5 l0 l1 b4 (AA AB (x5+1))))) none) none) (k (.exit 0) (V5 l0 l1 b4 x5))):=by kernel_rfl
theorem Yn (N:Nat) (l0 l1:LI) (b4:Bool) (x5:Int):(DQ 0 (DS (Q8 N) (DK UW [1,1,1]) (DT (Q8 N) none [.tmp 4] [[.bool]]))) (.exit 0) (V5 l0 l1 b4 x5)=(some ((.bool true),[])):=by kernel_rfl
theorem Yo (N:Nat) (l0 l1:LI) (b4:Bool) (x5:Int):(DQ 0 (DS (Q8 N) (DK UW [1,1,1]) (DT (Q8 N) none [.tmp 4] [[.bool]]))) .ret (V5 l0 l1 b4 x5)=(some ((.bool b4),[])):=by kernel_rfl
def Rh (N:Nat):Env:=D4 [(64,cG)] [] 38 N
theorem zd0 (N:Nat) (a b:Vd):DZ (Rh N) xR [.tmp 4] [[.bool]] [(Vd.V a),(Vd.V b)]=(cond (Vd.kind a==Vd.kind b) (cond (FH (Vd.proof a) (Vd.proof b)) (cond (Vd.w0 a==Vd.w0 b&&(Vd.w1 a==Vd.w1 b&&(Vd.w2 a==Vd.w2 b&&(Vd.w3 a==Vd.w3 b&&true)))) (cond (Vd.twin a==Vd.twin b) (some ((.bool (Vd.spent a==Vd.spent b)),[])) (some ((.bool false),[]))) (some ((.bool false),[]))) (some ((.bool false),[]))) (some ((.bool false),[]))):=by kernel_rfl
open Go Go.Proofs
theorem zhM:DX PR B0 28 cJ:=by
 refine D6 [(71,WN)] [] cJ [[.z,.z,.z,.z,.z,.list true [.z,.list false [.int .u64]]]] Tryz.func28 zbb ⟨Kn,trivial⟩ ?_;intro vs r hwf h;unfold cJ at h;split at h
 ·skip
  rw [R.get_ok] at h;refine ⟨0,(zdY 0).trans ?_⟩;rw [← h];rfl
 ·simp [R.get] at h
theorem tR:DX PR B0 27 SP:=by
 refine D6 [(26,P2),(28,cJ),(22,P4),(35,SR),(20,N9)] [] SP [[.bool]] Tryz.func27 zbl ⟨lW,zhM,lY,tT,gT,trivial⟩ ?_;intro vs r hwf h;unfold SP at h;split at h
 ·skip
  rw [R.get_ok] at h;refine ⟨0,(zd8 0).trans ?_⟩;rw [← h]
 ·simp [R.get] at h
open Go Go.Proofs
def UD (N:Nat):Env:=D4 [(18,PZ),(29,bN),(24,P1),(17,LA),(27,SP),(22,P4),(35,SR),(20,N9),(16,SU),(15,SV)] [(4,⟨[1,2,6,7,8,9,10],[7],[]⟩)] 72 N
abbrev SG (f:Ft) (l1:LI) (x2:Int) (b6:Bool) (s8 s9:BA) (x10:Int):St:=⟨[(1,(.list true [.z,.z,.z,.z,.z,.z,.bool,.list false [.z]] l1)),(2,(.i x2)),(6,(.bool b6)),(7,(.ptr 7 0 0)),(8,(.str s8)),(9,(.str s9)),(10,(.i x10))],[(7,(some (.box (Md.cs (Ft.M f)))))]⟩
theorem zd7 (N:Nat) (f:Ft) (a1:LI) (a2:Int):DZ (UD N) W9 [.tmp 6] [[.bool]] [(Ft.V f),.list true [.z,.z,.z,.z,.z,.z,.bool,.list false [.z]] a1,.i a2]=(DY (UD N) (DK W9 [1,1,1,0,1,0,0]) ⟨[1,2,6,7,8,9,10],[7],[]⟩ N (SG f a1 a2 false ({data:=#[]}) ({data:=#[]}) 0) (DQ 0 (DS (UD N) (DK W9 [1,1,1,1]) (DT (UD N) none [.tmp 6] [[.bool]])))):=by kernel_rfl
theorem ziX (N:Nat) (f:Ft) (l1:LI) (x2:Int) (b6:Bool) (s8 s9:BA) (x10:Int) (again:St→DN) (k:Out→St→DN):E2 (UD N) (DK W9 [1,1,1,0,1,0,0]) (SG f l1 x2 b6 s8 s9 x10) (EQ again ⟨[1,2,6,7,8,9,10],[7],[]⟩ k)=(cond (decide (x10 < ic (AF l1))) (cond (decide (x10 < 4)) (cond (decide (0≤x10)&&decide (x10 < ic (AF l1))) (cond (PN (Ft.M f)) (cond (decide (AG s8+AG (EG (Qy.bud (FT (G0 (AI l1 (AE x10) default)) (Ft.M f)) (DO x2 0 400)) (Md.d (Ft.M f)))≤strMax)) (cond (decide (AG (s8++EG (Qy.bud (FT (G0 (AI l1 (AE x10) default)) (Ft.M f)) (DO x2 0 400)) (Md.d (Ft.M f)))+AG {data:=#[10]}≤strMax)) (cond (decide (AG s9+AG {data:=#[113,117,101,114,121,32]}≤strMax)) (cond (decide (AG (s9++{data:=#[113,117,101,114,121,32]})+AG (OE x10)≤strMax)) (cond (decide (AG (s9++{data:=#[113,117,101,114,121,32]}++OE x10)+AG {data:=#[10]}≤strMax)) (cond (decide (AG (EH (EC (Ft.M f) (Qy.bud (FT (G0 (AI l1 (AE x10) default)) (Ft.M f)) (DO x2 0 400))))≤strMax)) (cond (decide (AG (s9++{data:=#[113,117,101,114,121,32]}++OE x10++{data:=#[10]})+AG (EH (EC (Ft.M f) (Qy.bud (FT (G0 (AI l1 (AE x10) default)) (Ft.M f)) (DO x2 0 400))))≤strMax)) (again (SG f l1 x2 b6 (s8++EG (Qy.bud (FT (G0 (AI l1 (AE x10) default)) (Ft.M f)) (DO x2 0 400)) (Md.d (Ft.M f))++{data:=#[10]}) (s9++{data:=#[113,117,101,114,121,32]}++OE x10++{data:=#[10]}++EH (EC (Ft.M f) (Qy.bud (FT (G0 (AI l1 (AE x10) default)) (Ft.M f)) (DO x2 0 400)))) (AA AB (x10+1)))) none) none) none) none) none) none) none) none) none) (k (.exit 0) (SG f l1 x2 b6 s8 s9 x10))) (k (.exit 0) (SG f l1 x2 b6 s8 s9 x10))):=by kernel_rfl
theorem Yz (N:Nat) (f:Ft) (l1:LI) (x2:Int) (b6:Bool) (s8 s9:BA) (x10:Int):(DQ 0 (DS (UD N) (DK W9 [1,1,1,1]) (DT (UD N) none [.tmp 6] [[.bool]]))) (.exit 0) (SG f l1 x2 b6 s8 s9 x10)=(cond (decide (AG (EK (Ft.M f)) < 4294967281)&&(decide (AG s8 < 4294967281)&&decide (AG (F9 (EK (Ft.M f)) s8)≤strMax))) (cond (AW (F9 (EK (Ft.M f)) s8)==AW s9) (cond (decide (AG (EK (Ft.M f)) < 4294967281)&&(decide (AG s8 < 4294967281)&&decide (AG (F9 (EK (Ft.M f)) s8) < 4294967281))) (cond (aG (EK (Ft.M f)) s8 (F9 (EK (Ft.M f)) s8)) (some ((.bool true),[])) (some ((.bool false),[]))) none) (some ((.bool false),[]))) none):=by kernel_rfl
open Go Go.Proofs
theorem tK:DX PR B0 15 SV:=Snd.mono zhK fun _ _ h=>Tq h
theorem tJ:DX PR B0 16 SU:=Snd.mono zhJ fun _ _ h=>Tt h
theorem Oj (N:Nat) (f:Ft) (l:LI) (z:Int) (T:BA→BA→DN) (K:Out→St→DN) (hx:∀ s8 s9 x,K (.exit 0) (SG f l z false s8 s9 x)=T s8 s9) :
  ∀ (d i n:Nat) (s8 s9:BA),i+d=4→d < n→s8.size≤2001*i→s9.size≤4000028*i →
   DY (UD N) (DK W9 [1,1,1,0,1,0,0]) ⟨[1,2,6,7,8,9,10],[7],[]⟩ n (SG f l z false s8 s9 (i:Int)) K =
    T (GL f.M.d s8 (ME f.M ((l.take 4).drop i) (DO z 0 400))) (aV s9 i ((ME f.M ((l.take 4).drop i) (DO z 0 400)).map (EC f.M)))
 | d,i,n+1,s8,s9,hd,hn,h8,h9=>by
  have hw:=QZ z 0 400 (by omega) (by omega) (by omega);rw [D5,ziX];by_cases hi:i < l.length
  ·by_cases hk:i < 4
   ·obtain ⟨d,rfl⟩:∃ e,d=e+1:=⟨d - 1,by omega⟩;have hs:=sF f [l[i]] hw.1 (show DO z 0 400≤65536 by omega) _ (AN ..);have hp:=Y7 (O2 f) (G0 l[i]) hw.1 (show DO z 0 400≤65536 by omega);have hv:=gB (lL hs.right).2.1;replace hv:(EH (EC f.M ((FT (G0 l[i]) f.M).bud (DO z 0 400)))).size≤4000000:=hv;have hh:=Ci i (by omega);rw [HA hi,IL,H8 hi,AD (show ((i:Nat):Int) < 4 by omega),O2,HD (by omega)];rw [mI hi hk,sD,A0 (f:=EC f.M),aV,GL];generalize (FT (G0 l[i]) f.M).bud (DO z 0 400)=q at hp hv ⊢;have g1:(s8++EG q f.M.d).size=s8.size+(EG q f.M.d).size:=AV;have e1:EJ.size=1:=rfl;have e6:MK.size=6:=rfl;have ed:=Xe (show i < 10 by omega) s9;have hsz:(s9++MK++OE (i:Int)++EJ).size=s9.size+(HL i).size:=by rw [ed,AV]
    have hsz2:s9.size+MK.size+(OE (i:Int)).size+EJ.size=s9.size+(HL i).size:=by rw [← hsz]; simp only [AV]
    rw [AD (show s8.size+(EG q f.M.d).size≤strMax by unfold strMax; omega)];rw [AD (show (s8++EG q f.M.d).size+AG { data:=#[10] }≤strMax by rw [g1]; unfold strMax; show _+EJ.size≤_; omega)];rw [AD (show s9.size+AG { data:=#[113,117,101,114,121,32] }≤strMax by unfold strMax; show _+MK.size≤_; omega)];rw [AD (show (s9++MK).size+(OE (i:Int)).size≤strMax by rw [AV]; unfold strMax; omega)];rw [AD (show (s9++MK++OE (i:Int)).size+EJ.size≤strMax by rw [AV,AV]; unfold strMax; omega)];rw [AD (show (EH (EC f.M q)).size≤strMax by unfold strMax; omega)];rw [AD (show (s9++MK++OE (i:Int)++EJ).size+(EH (EC f.M q)).size≤strMax by rw [hsz]; unfold strMax; omega)];simp only [DI,B1];have ih:=Oj N f l z T K hx d (i+1) n (s8++EG q f.M.d++EJ) (s9++HL i++EH (EC f.M q)) (by omega) (by omega) (by rw [AV,AV]; omega) (by rw [AV,AV]; omega);rw [← ih];show DY _ _ _ n (SG f l z false (s8++EG q f.M.d++EJ) (s9++MK++OE (i:Int)++EJ++EH (EC f.M q)) _) K=_;rw [ed]
   ·rw [HA hi,AL (show ¬ ((i:Nat):Int) < 4 by omega),DI,DJ,VT (by omega)];exact hx _ _ _
  ·rw [I5 (by omega),DJ,VT (by omega)];exact hx _ _ _
 | _,_,0,_,_,_,h,_,_=>by omega
theorem zhS:DX PR B0 12 nB:=by
 refine D6 [(18,PZ),(29,bN),(24,P1),(17,LA),(27,SP),(22,P4),(35,SR),(20,N9),(16,SU),(15,SV)] [(4,⟨[1,2,6,7,8,9,10],[7],[]⟩)] nB [[.bool]] Tryz.func12 zbk ⟨lT,zhp,lV,YB,tR,lY,tT,gT,tJ,tK,trivial⟩ ?_;intro vs r hwf h;unfold nB at h;split at h
 ·rename_i f l z;replace h:=hZ h;obtain ⟨f,rfl,h⟩:=h;rw [R.get_ok] at h;refine ⟨5,(zd7 5 f l z).trans ?_⟩;rw [← h];have hw:=QZ z 0 400 (by omega) (by omega) (by omega);refine (Oj 5 f l z _ _ (fun s8 s9 x=>Yz 5 f l z false s8 s9 x) 4 0 5 D9 D9 rfl (by omega) (AZ _) (AZ _)).trans ?_;rw [B2];have hsit:=sF f (l.take 4) hw.1 (show DO z 0 400≤65536 by omega);have hsm:=sG (O2 f) (l.take 4) hw.1 (show DO z 0 400≤65536 by omega);have hql:(ME f.M (l.take 4) (DO z 0 400)).length≤4:=by rw [sE,BB]; omega
  generalize ME f.M (l.take 4) (DO z 0 400)=Q at hsit hsm hql ⊢;have hM:=YZ f;have hW:R9 f.M:=kU _ _ _ _;have hrun:=zg7 hM hW hsit;have hps:=lD hM;have hqz:=gF f.M.d Q D9 hsm;have e0:D9.size=0:=rfl;have hz:=lK (EK f.M) (GL f.M.d D9 Q) (by rw [lE]; omega);have hrep:=zgM hM hW (by have:=Bt f; omega) (GL f.M.d D9 Q);rw [AD (show (EK f.M).size < 4294967281 by omega),AD (show (GL f.M.d D9 Q).size < 4294967281 by omega),AD (show (F9 (EK f.M) (GL f.M.d D9 Q)).size≤strMax by unfold strMax; omega),AD (show (F9 (EK f.M) (GL f.M.d D9 Q)).size < 4294967281 by omega),hrep,hrun,zjH];simp only [B3,DI,CY]
 ·simp [R.get] at h
open Go Go.Proofs Go.RowKit
theorem Cj {P:Program} {w:World} {name:String} {g:Nat} {cs:Array Value} (hn:P.globalNamed name=some g) (hv:w.var? P name=some cs):∃ T fr,w.heap[g]?=some (.cells cs T fr):=by
 unfold World.var? at hv;rw [hn] at hv;simp only [Option.bind_some] at hv;split at hv
 ·rename_i c T fr hh;simp only [AC] at hv;subst hv;exact ⟨T,fr,hh⟩
 ·cases hv
theorem Bd {w:World} {name:String} {g t:Nat} {ms:Array (String × TypeId)} {tn:String} {d:DataW Unit} (h:Lib.VarReads Tryz.prog w name (.iface tn d)) (hn:Tryz.prog.globalNamed name=some g)
  (ht:(Tryz.prog.globals[g]?).map (·.type)=some t) (hu:Tryz.prog.underlying t=some (.interface ms)):∃ c T fr te pe,w.heap[g]?=some (.cells c T fr)∧c[0]?=some (.iface te pe):=by
 obtain ⟨g',t',cs,fuel,p,h1,h2,h3,h4⟩:=h;obtain rfl:=CR (hn.symm.trans h1);obtain rfl:=CR (ht.symm.trans h2);obtain ⟨f',u,v,hcs,_,_⟩:=iface_of_trod hu h4;obtain ⟨T,fr,hh⟩:=Cj hn h3;refine ⟨cs,T,fr,u,v,hh,?_⟩
 have:cs = #[.iface u v]:=by
  apply Array.ext';rw [hcs]
 rw [this];rfl
theorem zat {W:World} {l:List (String × DataW Unit)} (hL:laidMet Tryz.prog l W) (hsh:W.ShapedOpen Tryz.prog)
  (hp:("internal/strconv.uint64pow10", Lib.tabData .u64 Lib.pow10Tab)∈l)
  {n1:String} {d1:DataW Unit} (h1:("strconv.ErrRange", .iface n1 d1)∈l)
  {n2:String} {d2:DataW Unit} (h2:("strconv.ErrSyntax", .iface n2 d2)∈l)
  : Glob B0 W:=by
 have hz:∀ g,g < 4→g < Tryz.prog.globals.size→g < W.heap.size:=fun g _ hg=>by
  have hb:((vaC Tryz.prog.globals.size).all fun g=>(((begin Tryz.prog (fun _ _=>0) default).world.heap[g]?).bind Obj.row?).isSome)=true:=by kernel_rfl
  have:=CQ.1 hb g (va6.2 hg)
  obtain ⟨⟨z,t⟩,hz⟩:=Option.isSome_iff_exists.1 this;obtain ⟨cs,hh,_⟩:=hsh.1 g z t hg hz;exact (DF.1 hh).1
 have hsize:4≤W.heap.size:=by
  first
  | exact B5 _
  | (
    have:=hz (4 - 1) (by decide) (A1 (by kernel_rfl))
    omega)
 have low:∀ {g:Nat},g < 4→(fun b=>if b < B0.ng then W.heap[b]? else none) g=W.heap[g]?:=fun h=>BP (show _ < B0.ng from h)
 refine ⟨hsize,?_⟩;show GF _;constructor
 first | exact trivial | skip
 case gm=>
  obtain ⟨m,hm⟩:=cell_of_shapedOpen_int (P:=Tryz.prog) (g:=1) (t:=3) (zero:=#[.int .i64 0]) hsh (A1 (by kernel_rfl)) (by kernel_rfl) rfl (by kernel_rfl) (by kernel_rfl) Tryz.underlying3;simp only [vaL] at hm;split at hm
  ·rename_i c T fr' hh;exact ⟨c,T,fr',m,(low (by decide)).trans hh,hm⟩
  ·cases hm
 case gp=>
  have gp:Tryz.prog.globalNamed "internal/strconv.uint64pow10" = some 0:=by kernel_rfl
  obtain ⟨g',t',cp,fuel,p,e1,e2,e3,e4⟩:=vbw hL hp;obtain rfl:=CR (gp.symm.trans e1);obtain ⟨T,fr',hh⟩:=Cj gp e3;refine ⟨T,fr',(low (by decide)).trans ?_⟩;rw [hh];have et:(Tryz.prog.globals[0]?).map (·.type)=some 262:=by kernel_rfl
  obtain rfl:=CR (et.symm.trans e2)
  have:=Lib.cells_of_tab (e:=103) (n:=20) (by kernel_rfl) (by kernel_rfl) (by kernel_rfl) (by kernel_rfl) e4
  congr 1;congr 1;apply Array.ext';exact this
 case gs=>
  obtain ⟨cs,Ts,fs,tes,pes,hs1,hs2⟩:=Bd (g:=2) (vbw hL h2) (by kernel_rfl) (show _=some 120 by kernel_rfl) Tryz.underlying120;exact ⟨cs,Ts,fs,tes,pes,(low (by decide)).trans hs1,hs2⟩
 case gr=>
  obtain ⟨cr,Tr,fr,ter,per,hr1,hr2⟩:=Bd (g:=3) (vbw hL h1) (by kernel_rfl) (show _=some 120 by kernel_rfl) Tryz.underlying120;exact ⟨cr,Tr,fr,ter,per,(low (by decide)).trans hr1,hr2⟩
def X0:Zone:=⟨fun _=>False,fun _=>False⟩
def γ0:Nat→Value:=fun _=>.nilIface
abbrev O0:Nat→Prop:=DR X0 γ0 []
theorem vP (b:Nat):¬ O0 b:=by
 rintro (⟨n,ob,h,_⟩ | h)
 ·simp [DM,E7] at h
 ·exact h
theorem Ij (W:World):Rel B0.base 0 W X0 γ0 ⟨[],[]⟩ J3 W:=by
 have no:∀ n ob,DM ([]:Store) n≠some ob:=fun n ob h=>by simp [DM,E7] at h
 refine ⟨rfl,rfl,fun i=>by simp only [St.get,E7,VRel],fun n ob h=>absurd h (no n ob),fun b h=>?_,fun n m ob ob' b _ h=>absurd h (no n ob),Keep.refl _ _,fun b h=>?_,fun b h=>h.elim,fun p _ ob h=>absurd h (no _ ob)⟩
 ·obtain ⟨n,ob,h,_⟩:=h;exact absurd h (no n ob)
 ·obtain ⟨n,ob,h,_⟩:=h;exact absurd h (no n ob)
theorem Vq {f:Nat} {fn:Func} (hf:PR.funcs[f]?=some fn) (hn:(fn.name == "runtime.NumGoroutine")=false) (hb:fn.body.isNone=false) {xs:List Value} {w:World} {R:Ending→World→Prop} (h:Does PR f xs w R):Calls PR f xs.toArray w R:=by
 have:(callFunc f xs.toArray).run PR w = .ok (.enter f xs.toArray) w:=by
  unfold callFunc;have hn':¬ fn.name = "runtime.NumGoroutine":=by simpa using hn
  have hb':¬ fn.body=none:=fun h=>by rw [h] at hb; cases hb
  simp [hf,hn',hb']
 unfold Does at h;rw [this] at h;exact h
theorem Vr {f:Nat} {fn:Func} {sp:DV} (hS:DX PR B0 f sp) (hf:PR.funcs[f]?=some fn) (hn:(fn.name == "runtime.NumGoroutine")=false) (hb:fn.body.isNone=false) {vs:List V} {xs:List Value} {W:World}
  (hsp:(sp vs).get=some (.bool true,[])) (hbor:GN vs=none) (hG:Glob B0 W) (hV:VRels γ0 [] W O0 (vs.map ER) xs) :
  Calls PR f xs.toArray W fun e w'=>e = .returned (.bool true)∧Below W.heap.size W w':=by
 refine Vq hf hn hb ?_;have em:IY vs=[]:=by unfold IY; rw [hbor]
 refine Does.mono (hS W X0 γ0 vs xs (.bool true) [] hsp hG (fun b h=>h.elim) (by rw [em]; exact Ij W) (by rw [em]; exact hV)) ?_;rintro e w' ⟨x,rfl,γ',hR,hx,_⟩;simp only [M5,ER,VRel] at hx;subst hx;exact ⟨rfl,hR.keep.os,hR.keep.tape,hR.keep.output,hR.keep.size,fun b hb=>hR.keep.block b hb (fun h=>h)⟩
open Go
def UK (P:Program) (e:TypeId):Bool:=match P.underlying e with | some (.struct _)=>true | some (.array _ _)=>true | _=>false
def ZY (f:TypeId→Option (List Kd)) (cell:TypeId→Nat):Nat→List (TypeId × Nat)→Option (List Kd)
 | _,[]=>some []
 | off,(t,o) :: r=>match BQ o off with
  | true=>match f t with
   | some ks=>match BQ (cell t) ks.length with
    | true=>match ZY f cell (off+ks.length) r with
     | some ks'=>some (ks++ks')
     | none=>none
    | false=>none
   | none=>none
  | false=>none
def RK (P:Program):Nat→TypeId→Option (List Kd)
 | 0,_=>none
 | n+1,t=>match P.underlying t with
  | some .bool=>some [.bool]
  | some (.int k)=>some [.int k]
  | some .string=>some [.str]
  | some (.slice e)=>match RK P n e with
   | some ks=>match B6 1 (P.bytesOf e)&&(BQ (P.cellsOf e) ks.length&&(B6 1 ks.length&&(UK P e||BQ ks.length 1))) with
    | true=>some [.list (UK P e) ks]
    | false=>none
   | none=>none
  | some (.struct fs)=>match ZY (RK P n) P.cellsOf 0 (fs.toList.map fun f=>(f.type,f.offset)) with
   | some ks=>match BQ (P.cellsOf t) ks.length with | true=>some ks | false=>none
   | none=>none
  | some (.array m e)=>match ZY (RK P n) P.cellsOf 0 ((vaC m).map fun i=>(e,i*P.cellsOf e)) with
   | some ks=>match BQ (P.cellsOf t) ks.length with | true=>some ks | false=>none
   | none=>none
  | _=>none
def CellsK (w:World) (O:Nat→Prop):List Kd→LI→List Value→Prop
 | [],[],[]=>True
 | k :: ks,x :: f,v :: cs=>Kd.Rel w O k x v∧CellsK w O ks f cs
 | _,_,_=>False
section
variable {w:World} {O:Nat→Prop}
theorem CellsK.append:∀ {ks:List Kd} {f:LI} {cs:List Value} {ks':List Kd} {f':LI} {cs':List Value},CellsK w O ks f cs→CellsK w O ks' f' cs'→CellsK w O (ks++ks') (f++f') (cs++cs')
 | [],[],[],_,_,_,_,h'=>h'
 | _ :: ks,_ :: f,_ :: cs,_,_,_,h,h'=>by
  simp only [CellsK] at h;simp only [CT,CellsK];exact ⟨h.1,h.2.append h'⟩
 | [],_ :: _,_,_,_,_,h,_=>by simp [CellsK] at h
 | [],[],_ :: _,_,_,_,h,_=>by simp [CellsK] at h
 | _ :: _,[],_,_,_,_,h,_=>by simp [CellsK] at h
 | _ :: _,_ :: _,[],_,_,_,h,_=>by simp [CellsK] at h
theorem CellsK.get:∀ {ks:List Kd} {f:LI} {cs:List Value},CellsK w O ks f cs→∀ (j:Nat) (k:Kd),ks[j]?=some k→∃ v,cs[j]?=some v∧Kd.Rel w O k (M0 f j) v
 | [],_,_,_,j,k,h=>by simp at h
 | k :: ks,x :: f,v :: cs,h,j,k',hj=>by
  simp only [CellsK] at h;cases j with
  | zero=>
   simp only [BY,AC] at hj;subst hj;exact ⟨v,rfl,by simpa only [M0] using h.1⟩
  | succ j=>
   obtain ⟨u,h1,h2⟩:=h.2.get j k' (by simpa using hj);exact ⟨u,by simpa using h1,by simpa only [M0] using h2⟩
 | _ :: _,[],_,h,_,_,_=>by simp [CellsK] at h
 | _ :: _,_ :: _,[],h,_,_,_=>by simp [CellsK] at h
theorem zT {α:Type} {Q:Nat→α→Prop}:∀ n,(∀ i,i < n→∃ x,Q i x)→∃ L:List α,L.length=n∧∀ i x,L[i]?=some x→Q i x
 | 0,_=>⟨[],rfl,fun i x h=>by simp at h⟩
 | n+1,h=>by
  obtain ⟨L,hl,hL⟩:=zT n (fun i hi=>h i (by omega));obtain ⟨x,hx⟩:=h n (by omega);refine ⟨L++[x],by simp [hl],fun i y hy=>?_⟩;rw [vaf] at hy;split at hy
  ·exact hL i y hy
  ·rename_i hi
   have:i - L.length=0:=by
    rcases Nat.eq_zero_or_pos (i - L.length) with e | e
    ·exact e
    ·rw [BZ (by simp; omega)] at hy;cases hy
   rw [this] at hy;simp only [BY,AC] at hy;subst hy
   have:i=n:=by omega
   subst this;exact hx
end
theorem qL {H:Type} {P:Program}:∀ {ts:List TypeId} {ds:List (DataW H)} {i:Nat} {t:TypeId} {d:DataW H},ts[i]?=some t→ds[i]?=some d→∀ y∈d.weights P t,y∈vbJ P ts ds
 | [],_,i,_,_,h,_,_,_=>by simp at h
 | _ :: _,[],i,_,_,_,h,_,_=>by simp at h
 | t0 :: ts,d0 :: ds,0,t,d,h,h',y,hy=>by
  simp only [BY,AC] at h h';subst h; subst h';simp only [vbJ,AX];exact .inl hy
 | t0 :: ts,d0 :: ds,i+1,t,d,h,h',y,hy=>by
  simp only [vbJ,AX];exact .inr (qL (by simpa using h) (by simpa using h') y hy)
theorem qK {H:Type} {P:Program} {e:TypeId}:∀ {ds:List (DataW H)} {d:DataW H},d∈ds→∀ y∈d.weights P e,y∈DataW.weightsAll P e ds
 | [],_,h,_,_=>by cases h
 | d0 :: ds,d,h,y,hy=>by
  simp only [DataW.weightsAll,AX];rcases AO.1 h with rfl | h
  ·exact .inl hy
  ·exact .inr (qK h y hy)
section
variable {H:Type} {enc:TypeId × Value→H} {P:Program} {w:World} {base:Nat} {sp:Nat→Bool} {held:Bool} {O:Nat→Prop}
theorem rR {f:TypeId→Option (List Kd)} {n:Nat} {cs:List Value}
  (ih:∀ (t:TypeId) (ks:List Kd) (cs:List Value) (d:DataW H) (p:List MemPlace),f t=some ks→DataW.trod enc P w base sp held n t cs=some (d,p)→(∀ y∈d.weights P t,y≤reachBytes)→∃ g,CellsK w O ks g cs) :
  ∀ (parts:List (TypeId × Nat)) (off:Nat) (ks:List Kd) (xs:List (DataW H × List MemPlace)),ZY f P.cellsOf off parts=some ks→xs.length=parts.length →
   (∀ (i:Nat) (t:TypeId) (o:Nat),parts[i]?=some (t,o)→DataW.trod enc P w base sp held n t ((cs.drop o).take (P.cellsOf t))=xs[i]?) →
   (∀ (i:Nat) (t:TypeId) (o:Nat) (x:DataW H × List MemPlace),parts[i]?=some (t,o)→xs[i]?=some x→∀ y∈x.1.weights P t,y≤reachBytes)→∃ g,CellsK w O ks g ((cs.drop off).take ks.length)
 | [],off,ks,xs,h,_,_,_=>by
  simp only [ZY,AC] at h;subst h;exact ⟨[],by simp only [A7,List.take_zero,CellsK]⟩
 | (t,o) :: r,off,ks,[],h,hl,_,_=>by simp at hl
 | (t,o) :: r,off,ks,x :: xs,h,hl,ht,hw=>by
  simp only [ZY] at h;split at h
  case h_2=>cases h
  rename_i ho;obtain rfl:=vam ho;split at h
  case h_2=>cases h
  rename_i k1 hk1;split at h
  case h_2=>cases h
  rename_i hc;have hc:=vam hc;split at h
  case h_2=>cases h
  rename_i k2 hk2;simp only [AC] at h;subst h;have h0:=ht 0 t o rfl;simp only [BY] at h0;obtain ⟨d,p⟩:=x;obtain ⟨g1,hg1⟩:=ih t k1 _ d p hk1 h0 (hw 0 t o (d,p) rfl rfl);obtain ⟨g2,hg2⟩:=rR ih r (o+k1.length) k2 xs hk2 (by simpa using hl) (fun i t' o' hi=>by simpa using ht (i+1) t' o' (by simpa using hi)) (fun i t' o' x hi hx=>hw (i+1) t' o' x (by simpa using hi) (by simpa using hx));refine ⟨g1++g2,?_⟩;rw [AT,List.take_add,List.drop_drop];rw [hc] at hg1;exact hg1.append hg2
theorem ziL {a:Addr} {v:Value} (h:w.cell? a=some v):a.spot=none∧a.block < w.heap.size:=by
 unfold vaL at h;split at h
 ·rename_i c _ _ hc;split at h
  ·cases h
  ·rename_i hs;exact ⟨by simpa using hs,(DF.1 hc).1⟩
 ·cases h
theorem g8 (hO:∀ b,¬ O b):∀ (n:Nat) (t:TypeId) (ks:List Kd) (fuel:Nat) (cs:List Value) (d:DataW H) (p:List MemPlace),RK P n t=some ks →
  DataW.trod enc P w base sp held fuel t cs=some (d,p)→(∀ y∈d.weights P t,y≤reachBytes)→∃ g,CellsK w O ks g cs
 | 0,_,_,_,_,_,_,h,_,_=>by simp [RK] at h
 | n+1,t,ks,fuel,cs,d,p,h,ht,hw=>by
  simp only [RK] at h;split at h
  ·rename_i hu;simp only [AC] at h;subst h;obtain ⟨b,rfl,_⟩:=DataW.trod_bool hu ht;exact ⟨[.bool b],by simp only [CellsK,Kd.Rel,IV.toBool,and_self]⟩
  ·rename_i k hu;simp only [AC] at h;subst h;obtain ⟨m,rfl,_,hm⟩:=DataW.trod_int hu ht;simp only [Lit.wf,AH,AQ] at hm;exact ⟨[.int m],by simp only [CellsK,Kd.Rel,IV.toInt,B7,vaz]; exact hm⟩
  ·rename_i hu;simp only [AC] at h;subst h;obtain ⟨s,rfl,hd,hs⟩:=DataW.trod_string hu ht;simp only [AU] at hd;refine ⟨[.str s],?_⟩;simp only [CellsK,Kd.Rel,IV.toStr,B7,vaz];rw [hd.1] at hw
   have:=hw s.data.toList.length (by simp [vbz])
   have e:s.data.toList.length=s.size:=by rw [CK]; rfl
   rw [e] at this;unfold reachBytes at this;unfold strMax;omega
  ·rename_i e hu;split at h
   case h_2=>cases h
   rename_i k1 hk1;split at h
   case h_2=>cases h
   rename_i hc;simp only [AC] at h;subst h;simp only [AH,van] at hc;obtain ⟨hb,hce,hk0,hag⟩:=hc;have hb:=AP hb;have hce:=vam hce;have hk0:=AP hk0;rcases DataW.trod_slice hu ht with ⟨rfl,_⟩ | ⟨a,len,cap,elems,rest,m,_,rfl,hx,_,hlc,hcap,hlen,hel,_⟩
   ·refine ⟨[.list []],?_⟩;simp only [CellsK,Kd.Rel,IV.toList,B7];exact ⟨none,0,rfl,AZ _,B5 _,B5 _,fun i y hi=>by simp at hi⟩
   ·simp only [AU] at hx;obtain ⟨rfl,_⟩:=hx;simp only [vbz,hu,AO,AX] at hw;have hsz:len≤strMax:=by
     have:=hw _ (.inl rfl)
     rw [BE,hlen] at this;have h1:len*1≤(len+(rest.map (·.1)).length)*P.bytesOf e:=Nat.mul_le_mul (by omega) hb;unfold reachBytes at this;unfold strMax;omega
    have hex:∀ i,i < len→∃ g:LI,∃ ci,w.cells? base (a.add (i*k1.length)) k1.length=some ci∧CellsK w O k1 g ci:=by
     intro i hi;have h1:=hel i hi;have hi':i < elems.length:=by omega
     rw [A9 hi',hce] at h1;simp only [Option.bind_eq_some_iff] at h1;obtain ⟨ci,h2,h3⟩:=h1;obtain ⟨g,hg⟩:=g8 hO n e k1 m ci elems[i].1 elems[i].2 hk1 h3 (fun y hy=>hw y (.inr (.inl (qK (vaS (C1 hi')) y hy))));exact ⟨g,ci,h2,hg⟩
    obtain ⟨L,hL,hLi⟩:=zT len hex;refine ⟨[.list (L.map fun g=>match UK P e with | true=>IV.agg g | false=>M0 g 0)],?_⟩;simp only [CellsK,Kd.Rel,IV.toList,B7,BE,hL];refine ⟨some a,cap,rfl,hlc,hcap,hsz,fun i y hi=>?_⟩;rw [B9,DE] at hi;obtain ⟨g,hg,rfl⟩:=hi;obtain ⟨ci,hci,hgc⟩:=hLi i g hg;have hil:i < len:=by rw [← hL]; exact (BR.1 hg).1
    have cellAt:∀ j k,k1[j]?=some k→∃ u,w.cell? ((a.add (i*k1.length)).add j)=some u∧Kd.Rel w O k (M0 g j) u:=by
     intro j k hk;obtain ⟨u,h1,h2⟩:=hgc.get j k hk;refine ⟨u,?_,h2⟩;have hj:j < k1.length:=(BR.1 hk).1;unfold World.cells? at hci;split at hci
     ·obtain ⟨b,hb1,hb2⟩:=Lib.mapM_at hci j j (by simp [hj]);rw [h1] at hb1;simp only [AC] at hb1;rw [hb2,hb1]
     ·cases hci
    have hspot:a.spot=none∧a.block < w.heap.size:=by
     obtain ⟨g0,hg0⟩:∃ g0,L[0]?=some g0:=⟨L[0]'(by omega),A9 (by omega)⟩;obtain ⟨c0,hc0,hgc0⟩:=hLi 0 g0 hg0;obtain ⟨u,h1,_⟩:=hgc0.get 0 k1[0] (A9 (by omega));unfold World.cells? at hc0;split at hc0
     ·obtain ⟨b,_,hb2⟩:=Lib.mapM_at hc0 0 0 (List.getElem?_range (show 0 < k1.length by omega))
      have:=ziL hb2
      rw [Nat.zero_mul] at this;simpa [Addr.add] using this
     ·cases hc0
    obtain ⟨ab,ao,asp⟩:=a;obtain ⟨hs1,hs2⟩:=hspot;simp only at hs1 hs2;subst hs1;refine ⟨ab,ao,rfl,hO ab,hs2,?_⟩;rw [Kd.RelAll_iff];intro j k hk;obtain ⟨u,h1,h2⟩:=cellAt j k hk;rw [Lib.add_plain,Lib.add_plain] at h1;rw [BI];refine ⟨u,h1,?_⟩;cases hat:UK P e with
    | true=>
     show Kd.Rel w O k (M0 g j) u;exact h2
    | false=>
     rw [hat] at hag;have h1l:k1.length=1:=vam (by simpa using hag);have hj:j < k1.length:=(BR.1 hk).1
     have:j=0:=by omega
     subst this;exact h2
  ·rename_i fs hu;split at h
   case h_2=>cases h
   rename_i k1 hk1;split at h
   case h_2=>cases h
   rename_i hc;have hc:=vam hc;simp only [AC] at h;subst h;obtain ⟨xs,m,_,hx,hcl,hxl,hall⟩:=DataW.trod_struct hu ht;simp only [AU] at hx;obtain ⟨rfl,_⟩:=hx;simp only [vbz,hu] at hw;have key:=rR (enc:=enc) (P:=P) (w:=w) (base:=base) (sp:=sp) (held:=held) (O:=O) (f:=RK P n) (n:=m) (cs:=cs) (fun t ks cs d p h1 h2 h3=>g8 hO n t ks m cs d p h1 h2 h3) (fs.toList.map fun f=>(f.type,f.offset)) 0 k1 xs hk1 (by simp [hxl]) (fun i t o hi=>by
     rw [B9,DE] at hi;obtain ⟨f,hf,he⟩:=hi;simp only [AU] at he;obtain ⟨rfl,rfl⟩:=he;exact hall i f (by simpa using hf)) (fun i t o x hi hx y hy=>by
     rw [B9,DE] at hi;obtain ⟨f,hf,he⟩:=hi;simp only [AU] at he;obtain ⟨rfl,rfl⟩:=he;exact hw y (qL (i:=i) (by rw [B9,hf]; rfl) (by rw [B9,hx]; rfl) y hy))
   obtain ⟨g,hg⟩:=key;rw [B2,CV (by omega)] at hg;exact ⟨g,hg⟩
  ·rename_i m0 e hu;split at h
   case h_2=>cases h
   rename_i k1 hk1;split at h
   case h_2=>cases h
   rename_i hc;have hc:=vam hc;simp only [AC] at h;subst h;obtain ⟨xs,m,_,hx,hcl,hxl,hall⟩:=DataW.trod_array hu ht;simp only [AU] at hx;obtain ⟨rfl,_⟩:=hx;simp only [vbz,hu] at hw;have key:=rR (enc:=enc) (P:=P) (w:=w) (base:=base) (sp:=sp) (held:=held) (O:=O) (f:=RK P n) (n:=m) (cs:=cs) (fun t ks cs d p h1 h2 h3=>g8 hO n t ks m cs d p h1 h2 h3) ((vaC m0).map fun i=>(e,i*P.cellsOf e)) 0 k1 xs hk1 (by simp [hxl]) (fun i t o hi=>by
     rw [B9,DE] at hi;obtain ⟨f,hf,he⟩:=hi;simp only [AU] at he;obtain ⟨rfl,rfl⟩:=he;have hfi:=BR.1 hf;obtain ⟨hl,he⟩:=hfi;rw [List.getElem_range] at he;subst he;exact hall i (by simpa using hl)) (fun i t o x hi hx y hy=>by
     rw [B9,DE] at hi;obtain ⟨f,hf,he⟩:=hi;simp only [AU] at he;obtain ⟨rfl,rfl⟩:=he;exact hw y (qK (vaS (vag hx)) y hy))
   obtain ⟨g,hg⟩:=key;rw [B2,CV (by omega)] at hg;exact ⟨g,hg⟩
  ·cases h
end
open Go Go.Proofs Go.RowKit Go.ChangeShapes Go.WideShapes
def YJ:Kd→IV→V
 | .int k,x=>.int k x.toInt
 | .bool,x=>.bool x.toBool
 | .str,x=>.str x.toStr
 | .list ag ks,x=>.list ag ks x.toList
theorem Pn {γ:Nat→Value} {o:Store} {w:World} {O:Nat→Prop} {k:Kd} {x:IV} {v:Value} (h:Kd.Rel w O k x v):VRel γ o w O (YJ k x) v:=by
 cases k with
 | int k=>simpa only [YJ,VRel,Kd.Rel] using h
 | bool=>simpa only [YJ,VRel,Kd.Rel] using h
 | str=>simpa only [YJ,VRel,Kd.Rel] using h
 | list ag ks=>
  simp only [YJ,VRel];simpa only [Kd.Rel,IV.toList] using h
def hU:List Kd→LI→List V
 | k :: ks,x :: f=>YJ k x :: hU ks f
 | _,_=>[]
theorem Pv {γ:Nat→Value} {o:Store} {w:World} {O:Nat→Prop}:∀ {ks:List Kd} {f:LI} {cs:List Value},CellsK w O ks f cs→VRels γ o w O (hU ks f) cs
 | [],[],[],_=>by simp only [hU,VRels]
 | _ :: _,_ :: _,_ :: _,h=>by
  simp only [CellsK] at h;simp only [hU,VRels];exact ⟨Pn h.1,Pv h.2⟩
 | [],_ :: _,_,h=>by simp [CellsK] at h
 | [],[],_ :: _,h=>by simp [CellsK] at h
 | _ :: _,[],_,h=>by simp [CellsK] at h
 | _ :: _,_ :: _,[],h=>by simp [CellsK] at h
theorem CellsK.len {w:World} {O:Nat→Prop}:∀ {ks:List Kd} {f:LI} {cs:List Value},CellsK w O ks f cs→f.length=ks.length
 | [],[],[],_=>rfl
 | _ :: _,_ :: _,_ :: _,h=>by
  simp only [CellsK] at h;simp only [List.length_cons,h.2.len]
 | [],_ :: _,_,h=>by simp [CellsK] at h
 | [],[],_ :: _,h=>by simp [CellsK] at h
 | _ :: _,[],_,h=>by simp [CellsK] at h
 | _ :: _,_ :: _,[],h=>by simp [CellsK] at h
section
variable {H:Type} {enc:TypeId × Value→H} {P:Program} {W:World} {base b0:Nat} {sp:Nat→Bool} {held:Bool}
theorem iV {n:Nat} {t:TypeId} {ks:List Kd} {v:Value} {d:DataW H} {p:List MemPlace} (hk:RK P n t=some ks) (hu:UK P t=true) (hval:Value.okWide P W .any base t v)
  (h:DataW.Trod enc P W b0 sp held t v d p) (hw:∀ y∈d.weights P t,y≤reachBytes):∃ g:LI,g.length=ks.length∧VRel γ0 [] W O0 (.agg (hU ks g)) v:=by
 obtain ⟨cs,rfl⟩:∃ cs,v = .agg cs:=by
  unfold UK at hu;unfold Value.okWide at hval;split at hu
  ·rename_i hh; rw [hh] at hval; exact hval.imp (fun _ h=>h.1)
  ·rename_i hh; rw [hh] at hval; exact hval.imp (fun _ h=>h.1)
  ·cases hu
 obtain ⟨fuel,hf⟩:=h;obtain ⟨g,hg⟩:=g8 (O:=O0) vP n t ks fuel _ d p hk hf hw;refine ⟨g,hg.len,?_⟩;simp only [VRel];exact ⟨cs,rfl,Pv hg⟩
theorem W5 {n:Nat} {t:TypeId} {k:Kd} {v:Value} {d:DataW H} {p:List MemPlace} (hk:RK P n t=some [k]) (hu:UK P t=false) (hval:Value.okWide P W .any base t v)
  (h:DataW.Trod enc P W b0 sp held t v d p) (hw:∀ y∈d.weights P t,y≤reachBytes):∃ x:IV,VRel γ0 [] W O0 (YJ k x) v:=by
 obtain ⟨fuel,hf⟩:=h;obtain ⟨g,hg⟩:=g8 (O:=O0) vP n t [k] fuel _ d p hk hf hw;have hc:v.cells.toList=[v]:=by
  cases v with
  | agg cs=>
   exfalso;unfold UK at hu;unfold Value.okWide at hval;split at hu
   ·cases hu
   ·cases hu
   ·rename_i h1 h2;split at hval
    ·rename_i hh; exact h1 _ hh
    ·rename_i hh; exact h2 _ _ hh
    ·unfold Cell.okWide Cell.ok at hval;split at hval <;> first | (split at hval <;> simp_all) | simp_all
  | _=>rfl
 rw [hc] at hg
 match g,hg with
 | [x],hg=>
  simp only [CellsK,and_true] at hg;exact ⟨x,Pn hg⟩
theorem Pj (hl:laidOutB P=true) {W':World} (hb:Below W.heap.size W W'):∀ {ts:List TypeId} {vs:List Value} {ds:List (DataW H)} {ps:List MemPlace},DataW.TrodAll enc P W 0 (fun _=>true) true ts vs ds ps →
  (∀ t∈ts,P.readableRec t=true∧t < P.types.size)→(∀ x∈ps,x.block < W.heap.size)→DataW.TrodAll enc P W' 0 (fun b=>decide (b < W.heap.size)) true ts vs ds ps
 | [],vs,ds,ps,h,_,_=>by
  obtain ⟨rfl,rfl,rfl⟩:=trodAll_nil h;rfl
 | t :: ts,vs,ds,ps,h,ht,hp=>by
  obtain ⟨v,vs1,d,ds1,a,b,rfl,rfl,rfl,h1,h2⟩:=trodAll_cons h;have hh:=ht t (List.mem_cons_self ..);exact ⟨a,b,Below.trod hl hh.1 hh.2 h1 hb (fun x hx=>hp x (List.mem_append.2 (.inl hx))),Pj hl hb h2 (fun t' h'=>ht t' (List.mem_cons_of_mem _ h')) (fun x hx=>hp x (List.mem_append.2 (.inr hx))),rfl⟩
end
theorem Jw:ownKnob Tryz.prog.godebug=none:=by kernel_rfl
theorem Jv:laidOutB Tryz.prog=true:=by kernel_rfl
theorem p8 {os:Os} (started:os.Started) {H:Type} {enc:TypeId × Value→H} {spec:ChangeSpec} {f:Nat} {fn:Func} {sp:DV} {laid:List (String × DataW Unit)} (hS:DX PR B0 f sp) (hf:Tryz.prog.funcs[f]?=some fn)
  (hn:(fn.name == "runtime.NumGoroutine")=false) (hb:fn.body.isNone=false) (hini:Tryz.prog.inits.idxOf? f=none) (hres:fn.resultTypes = #[4]) (hvars:spec.vars=[])
  (hspec:∀ (ds:List (DataW H)),ds.length=fn.params.toList.length→spec.fn H ds={ results:=[.lit (.bool true)],args:=ds })
  (hpar:fn.params.toList.all (fun t=>Tryz.prog.readableRec t&&decide (t < Tryz.prog.types.size))=true)
  (hglob:∀ W:World,laidMetH Tryz.prog laid W→W.ShapedOpen Tryz.prog→Glob B0 W)
  (witness:∃ (w:World) (tape:Tape) (i:Input),w.os=os∧(w.forCall tape i).Shaped Tryz.prog∧i.vars=[]∧Input.okWide Tryz.prog (w.forCall tape i) .any w.heap.size f i ∧
   (OpenSpec.ofChange spec).preRow enc Tryz.prog fn [] false laid (w.forCall tape i).memory i.args∧({}:Assume).holds Tryz.prog (lone (Frame.enter Tryz.prog f i.args .normal) [] (w.forCall tape i)))
  (harg:∀ (W:World) (base:Nat) (vs:List Value) (ds:List (DataW H)) (p:List MemPlace),DataW.TrodAll enc Tryz.prog W 0 (fun _=>true) true fn.params.toList vs ds p →
   (∀ (j:Nat) t v,fn.params.toList[j]?=some t→vs[j]?=some v→Value.okWide Tryz.prog W .any base t v) →
   (∀ (j:Nat) t d,fn.params.toList[j]?=some t→ds[j]?=some d→∀ y∈d.weights Tryz.prog t,y≤reachBytes) →
   ∃ l:List V,(sp l).get=some (.bool true,[])∧GN l=none∧VRels γ0 [] W O0 (l.map ER) vs) :
  ReturnsInHanded {} Tryz.checked os f .any ((OpenSpec.ofChange spec).preRow enc Tryz.prog fn [] false laid) (spec.post enc Tryz.prog fn false true false false):=by
 refine returnsInHanded_of_row (C:=Tryz.checked) (s:=OpenSpec.ofChange spec) (F:=fun _ _ _=>0) Jw started hini hf witness ?_;intro W base args ds gs before hval hW _ _ hwt hL hsh _;have hW':=hW;obtain ⟨p,q,hA,hV,rfl,_,_⟩:=hW;have hvars':(OpenSpec.ofChange spec).vars=[]:=hvars;rw [hvars'] at hV;obtain ⟨rfl,rfl⟩:=trodVars_none hV;have hlen:ds.length=fn.params.toList.length:=by
  have:∀ {ts:List TypeId} {vs:List Value} {ds:List (DataW H)} {ps:List MemPlace},DataW.TrodAll enc Tryz.prog W 0 (fun _=>true) true ts vs ds ps→ds.length=ts.length:=by
   intro ts
   induction ts with
   | nil=>intro vs ds ps h; obtain ⟨_,rfl,_⟩:=trodAll_nil h; rfl
   | cons t ts ih=>
    intro vs ds ps h;obtain ⟨v,vs1,d,ds1,a,b,rfl,rfl,rfl,h1,h2⟩:=trodAll_cons h;simp only [List.length_cons,ih h2]
  exact this hA
 simp only [List.append_nil] at hW' hwt;obtain ⟨l,hl,hbor,hrel⟩:=harg W base args.toList ds p hA (fun j t v h1 h2=>hval j t v (by simpa using h1) (by simpa using h2)) (fun j t d h1 h2 y hy=>by
  have hm:=qL (P:=Tryz.prog) (ts:=fn.params.toList++(OpenSpec.ofChange spec).bare.plain.varTypes Tryz.prog) (ds:=ds) (i:=j) (t:=t) (d:=d) (by
   rw [List.getElem?_append_left (by rw [← hlen]; exact (List.getElem?_eq_some_iff.1 h2).1)];exact h1) h2 y hy
  have:=List.all_eq_true.1 hwt y hm
  simpa using this)
 have hc:=Vr hS hf hn hb hl hbor (hglob W hL hsh) hrel;have ea:args.toList.toArray=args:=by simp
 rw [ea] at hc;refine hc.mono ?_;rintro e W' ⟨rfl,bel⟩;have hfn:spec.fn H (ds++[])={ results:=[.lit (.bool true)],args:=ds }:=by rw [List.append_nil]; exact hspec ds hlen
 have hlt:∀ x∈p,x.block < W.heap.size:=fun x hx=>hW'.lt x hx
 have post:spec.post enc Tryz.prog fn false true false false W args (.bool true) W':=by
  refine ⟨ds,[],p,[],p,[],hW',?_,?_,?_,bel.frame _,fun h=>by cases h⟩
  ·rw [hfn,hres];exact trodAll_mk1 (shut_bool Tryz.underlying4 _)
  ·rw [hfn];exact Pj Jv bel hA (fun t ht=>by
    have:=List.all_eq_true.1 hpar t ht
    simpa using this) hlt
  ·rw [hvars,hfn];rfl
 exact ⟨_,rfl,post⟩
end Go.FM
namespace Go.Proofs.YtehhekmihbaghaaGreatDoor
open Go Go.ChangeShapes Go.WideShapes Go.ChangeAt Go.RowKit Go.FM
theorem Jw:ownKnob Tryz.prog.godebug=none:=by kernel_rfl
theorem Jv:laidOutB Tryz.prog=true:=by kernel_rfl
abbrev TM:List (String × DataW Unit):=Rows.topLinesRow.laid
noncomputable def lR (os:Os):World:=
 let w0:=World.doorLaid Tryz.prog 72 os
 { w0 with heap:=w0.heap.modify 4 fun
  | .cells _ t frozen=>.cells (Lib.firstTab.map fun z=>Value.int .u8 z).toArray t frozen
  | o=>o }
theorem tA (os:Os) (args:Array Value):laidMetH Tryz.prog TM ((lR os).forCall (fun _ _=>0) ⟨#[],args,[]⟩).memory:=
 laidMetH_of_parts3 (fuel:=8) (laidMet_of_run' 8 (by kernel_rfl) (by kernel_rfl)) (by kernel_rfl) (by kernel_rfl)
theorem s7 {W:World} (hL:laidMetH Tryz.prog TM W) (hsh:W.ShapedOpen Tryz.prog):Glob B0 W:=by
 have hL':laidMet Tryz.prog TM W:=by
  rw [MakeChecks.laidMetH_plain _ _ _ (by kernel_rfl)] at hL;exact hL
 exact zat hL' hsh (n1 := "*errors.errorString") (n2 := "*errors.errorString") (.tail _ (.tail _ (.head _))) (.tail _ (.tail _ (.tail _ (.tail _ (.head _))))) (.tail _ (.tail _ (.tail _ (.tail _ (.tail _ (.head _))))))
end Go.Proofs.YtehhekmihbaghaaGreatDoor
namespace Go.FM
open Go Go.Proofs
def JC (N:Nat):Env:=D4 [(18,PZ),(21,SK),(17,LA),(25,WM),(27,SP),(22,P4),(20,N9),(16,SU),(15,SV)] [(4,⟨[2,3,4,10,11,12,13,14,15],[11,12],[]⟩),(11,⟨[2,3,10,11,12,13,14,18],[11,12],[]⟩),(23,⟨[10,22,24],[],[]⟩)] 134 N
abbrev SF (f a1:Ft) (l2 l3:LI) (x4:Int) (b10:Bool) (s13 s14:BA) (x15:Int):St:=⟨[(2,(.list true [.z,.z,.z,.z,.z,.z,.bool,.list false [.z]] l2)),(3,(.list true [.z,.z,.z,.z,.z,.z,.bool,.list false [.z]] l3)),(4,(.i x4)),(10,(.bool b10)),(11,(.ptr 11 0 0)),(12,(.ptr 12 0 0)),(13,(.str s13)),(14,(.str s14)),(15,(.i x15))],[(11,(some (.box (Md.cs (Ft.M f))))),(12,(some (.box (Md.cs (Ft.M a1)))))]⟩
abbrev T6 (f a1:Ft) (l2 l3:LI) (b10:Bool) (s13 s14:BA) (x18:Int):St:=⟨[(2,(.list true [.z,.z,.z,.z,.z,.z,.bool,.list false [.z]] l2)),(3,(.list true [.z,.z,.z,.z,.z,.z,.bool,.list false [.z]] l3)),(10,(.bool b10)),(11,(.ptr 11 0 0)),(12,(.ptr 12 0 0)),(13,(.str s13)),(14,(.str s14)),(18,(.i x18))],[(11,(some (.box (Md.cs (Ft.M f))))),(12,(some (.box (Md.cs (Ft.M a1)))))]⟩
abbrev T7 (b10:Bool) (l22:LI) (x24:Int):St:=⟨[(10,(.bool b10)),(22,(.list true [.z,.list true EB,.z,.z,.z,.z,.z,.z] l22)),(24,(.i x24))],[]⟩
theorem zd6 (N:Nat) (f a1:Ft) (a2 a3:LI) (a4:Int):DZ (JC N) LB [.tmp 10] [[.bool]] [(Ft.V f),(Ft.V a1),.list true [.z,.z,.z,.z,.z,.z,.bool,.list false [.z]] a2,.list true [.z,.z,.z,.z,.z,.z,.bool,.list false [.z]] a3,.i a4]=(DY (JC N) (DK LB [1,1,1,0,1,0,0]) ⟨[2,3,4,10,11,12,13,14,15],[11,12],[]⟩ N (SF f a1 a2 a3 a4 false ({data:=#[]}) ({data:=#[]}) 0) (DQ 0 (DS (JC N) (DK LB [1,1,1,1]) (DT (JC N) none [.tmp 10] [[.bool]])))):=by kernel_rfl
theorem ziU (N:Nat) (f a1:Ft) (l2 l3:LI) (x4:Int) (b10:Bool) (s13 s14:BA) (x15:Int) (again:St→DN) (k:Out→St→DN):E2 (JC N) (DK LB [1,1,1,0,1,0,0]) (SF f a1 l2 l3 x4 b10 s13 s14 x15) (EQ again ⟨[2,3,4,10,11,12,13,14,15],[11,12],[]⟩ k)=(cond (decide (x15 < ic (AF l2))) (cond (decide (x15 < 3)) (cond (decide (0≤x15)&&decide (x15 < ic (AF l2))) (cond (PN (Ft.M f)) (cond (decide (AG (EG (Qy.bud (FT (G0 (AI l2 (AE x15) default)) (Ft.M f)) (DO x4 0 300)) (Md.d (Ft.M f)))+AG {data:=#[10]}≤strMax)) (cond (decide (AG s13+AG (EG (Qy.bud (FT (G0 (AI l2 (AE x15) default)) (Ft.M f)) (DO x4 0 300)) (Md.d (Ft.M f))++{data:=#[10]})≤strMax)) (cond (decide (AG (s13++(EG (Qy.bud (FT (G0 (AI l2 (AE x15) default)) (Ft.M f)) (DO x4 0 300)) (Md.d (Ft.M f))++{data:=#[10]}))+AG (EG (Qy.bud (FT (G0 (AI l2 (AE x15) default)) (Ft.M f)) (DO x4 0 300)) (Md.d (Ft.M f))++{data:=#[10]})≤strMax)) (again (SF f a1 l2 l3 x4 b10 (s13++(EG (Qy.bud (FT (G0 (AI l2 (AE x15) default)) (Ft.M f)) (DO x4 0 300)) (Md.d (Ft.M f))++{data:=#[10]})++(EG (Qy.bud (FT (G0 (AI l2 (AE x15) default)) (Ft.M f)) (DO x4 0 300)) (Md.d (Ft.M f))++{data:=#[10]})) s14 (AA AB (x15+1)))) none) none) none) none) none) (k (.exit 0) (SF f a1 l2 l3 x4 b10 s13 s14 x15))) (k (.exit 0) (SF f a1 l2 l3 x4 b10 s13 s14 x15))):=by kernel_rfl
theorem Yw (N:Nat) (f a1:Ft) (l2 l3:LI) (x4:Int) (b10:Bool) (s13 s14:BA) (x15:Int):(DQ 0 (DS (JC N) (DK LB [1,1,1,1]) (DT (JC N) none [.tmp 10] [[.bool]]))) (.exit 0) (SF f a1 l2 l3 x4 b10 s13 s14 x15)=(DY (JC N) (DK LB [1,1,1,1,0,1,0,0]) ⟨[2,3,10,11,12,13,14,18],[11,12],[]⟩ N (T6 f a1 l2 l3 b10 s13 s14 0) (DQ 2 (DS (JC N) (DK LB [1,1,1,1,1]) (DT (JC N) none [.tmp 10] [[.bool]])))):=by kernel_rfl
theorem ziV (N:Nat) (f a1:Ft) (l2 l3:LI) (b10:Bool) (s13 s14:BA) (x18:Int) (again:St→DN) (k:Out→St→DN):E2 (JC N) (DK LB [1,1,1,1,0,1,0,0]) (T6 f a1 l2 l3 b10 s13 s14 x18) (EQ again ⟨[2,3,10,11,12,13,14,18],[11,12],[]⟩ k)=(cond (decide (x18 < ic (AF l3))) (cond (decide (x18 < 3)) (cond (decide (0≤x18)&&decide (x18 < ic (AF l3))) (cond (PN (Ft.M a1)) (cond (decide (AG s14+AG (EG (Qy.bud (FT (G0 (AI l3 (AE x18) default)) (Ft.M a1)) 100) (Md.d (Ft.M a1)))≤strMax)) (cond (decide (AG (s14++EG (Qy.bud (FT (G0 (AI l3 (AE x18) default)) (Ft.M a1)) 100) (Md.d (Ft.M a1)))+AG {data:=#[10]}≤strMax)) (again (T6 f a1 l2 l3 b10 s13 (s14++EG (Qy.bud (FT (G0 (AI l3 (AE x18) default)) (Ft.M a1)) 100) (Md.d (Ft.M a1))++{data:=#[10]}) (AA AB (x18+1)))) none) none) none) none) (k (.exit 2) (T6 f a1 l2 l3 b10 s13 s14 x18))) (k (.exit 2) (T6 f a1 l2 l3 b10 s13 s14 x18))):=by kernel_rfl
theorem Yx (N:Nat) (f a1:Ft) (l2 l3:LI) (b10:Bool) (s13 s14:BA) (x18:Int):(DQ 2 (DS (JC N) (DK LB [1,1,1,1,1]) (DT (JC N) none [.tmp 10] [[.bool]]))) (.exit 2) (T6 f a1 l2 l3 b10 s13 s14 x18)=(cond (decide (AG (EK (Ft.M f)) < 4294967281)&&(decide (AG s13 < 4294967281)&&decide (AG (F9 (EK (Ft.M f)) s13)≤strMax))) (cond (decide (AG (EK (Ft.M a1)) < 4294967281)&&(decide (AG s14 < 4294967281)&&decide (AG (F9 (EK (Ft.M a1)) s14)≤strMax))) (cond (decide (AG (EK (Ft.M f)) < 4294967281)&&(decide (AG s13 < 4294967281)&&decide (AG (F9 (EK (Ft.M f)) s13)≤strMax))) (cond (decide (AG (F9 (EK (Ft.M f)) s13) < 4294967281)) (cond (Option.isSome (KD (F9 (EK (Ft.M f)) s13))) (cond (!AW (F9 (EK (Ft.M f)) s13)==AW (F9 (EK (Ft.M f)) s13)) (some ((.bool false),[])) (cond (ic (AF (vbb (KD (F9 (EK (Ft.M f)) s13)) [])) != AA AB (2*min (ic (AF l2)) 3)) (some ((.bool false),[])) (DY (JC N) (DK LB [1,1,1,1,1,1,1,1,1,1,0,1,0,0]) ⟨[10,22,24],[],[]⟩ N (T7 b10 (vbb (KD (F9 (EK (Ft.M f)) s13)) []) 0) (DQ 4 (DS (JC N) (DK LB [1,1,1,1,1,1,1,1,1,1,1]) (DT (JC N) none [.tmp 10] [[.bool]])))))) (cond (!AW (F9 (EK (Ft.M f)) s13)==AW (F9 (EK (Ft.M f)) s13)) (some ((.bool false),[])) (some ((.bool false),[])))) none) none) none) none):=by kernel_rfl
theorem ziW (N:Nat) (b10:Bool) (l22:LI) (x24:Int) (again:St→DN) (k:Out→St→DN):E2 (JC N) (DK LB [1,1,1,1,1,1,1,1,1,1,0,1,0,0]) (T7 b10 l22 x24) (EQ again ⟨[10,22,24],[],[]⟩ k)=(cond (decide (AA AB (x24+1) < ic (AF l22))) (cond (decide (0≤x24)&&decide (x24 < ic (AF l22))) (cond (decide (0≤AA AB (x24+1))&&decide (AA AB (x24+1) < ic (AF l22))) (cond (!YK (JY (AI l22 (AE x24) default)) (JY (AI l22 (AE (AA AB (x24+1))) default))) (k .ret (T7 false l22 x24)) (again (T7 b10 l22 (AA AB (x24+2))))) none) none) (k (.exit 4) (T7 b10 l22 x24))):=by kernel_rfl
theorem Yy (N:Nat) (b10:Bool) (l22:LI) (x24:Int):(DQ 4 (DS (JC N) (DK LB [1,1,1,1,1,1,1,1,1,1,1]) (DT (JC N) none [.tmp 10] [[.bool]]))) (.exit 4) (T7 b10 l22 x24)=(some ((.bool true),[])):=by kernel_rfl
open Go Go.Proofs
theorem Jq (N:Nat) (l m:LI) (K:Out→St→DN) (hlm:l.length=m.length) (hl:l.length≤strMax)
  (hx:∀ b4 x5,K (.exit 0) ⟨[(0,(.list true EB l)),(1,(.list true EB m)),(4,(.bool b4)),(5,(.int .i64 x5))],[]⟩=some (.bool true,[]))
  (hr:∀ b4 x5,K .ret ⟨[(0,(.list true EB l)),(1,(.list true EB m)),(4,(.bool b4)),(5,(.int .i64 x5))],[]⟩=some (.bool b4,[])) :
  ∀ (d i n:Nat),i+d=l.length→d < n→DY (Q8 N) (DK UW [1,1,0,1,0,0]) ⟨[0,1,4,5],[],[]⟩ n ⟨[(0,(.list true EB l)),(1,(.list true EB m)),(4,(.bool false)),(5,(.int .i64 (i:Int)))],[]⟩ K=some (.bool (FH (l.drop i) (m.drop i)),[])
 | 0,i,n+1,hd,_=>by
  rw [D5,Mr,I5 (by omega),CS (by omega),CS (by omega)];simp only [BC,FH];exact hx ..
 | d+1,i,n+1,hd,hn=>by
  have hi:i < l.length:=by omega
  have hm:i < m.length:=by omega
  unfold strMax at hl;rw [D5,Mr,HA hi,HA hm,IL,HD (by omega),H8 hi,H8 hm,BG hi,BG hm];generalize l[i]=x;generalize m[i]=y;have ih:=Jq N l m K hlm (by unfold strMax; omega) hx hr d (i+1) n (by omega) (by omega);rw [ih];simp only [FH];generalize FH (AS (i+1) l) (AS (i+1) m)=rest;unfold TS GZ FD FR;simp only [BJ,B1];cases IV.toBool (IV.cell x 0)==IV.toBool (IV.cell y 0) <;> cases IV.toInt (IV.cell x 1)==IV.toInt (IV.cell y 1) <;> cases IV.toInt (IV.cell x 2)==IV.toInt (IV.cell y 2) <;>
   (simp only [BJ,BC,A2,A8,B1,vae,A6,BM,hr]
    try rfl)
 | 0,_,0,_,h=>by omega
 | _+1,_,0,_,h=>by omega
theorem Jk:∀ {l m:LI},FH l m=true→l.length=m.length
 | [],[],_=>rfl
 | [],_ :: _,h=>by simp [FH] at h
 | _ :: _,[],h=>by simp [FH] at h
 | x :: l,y :: m,h=>by
  simp only [FH,AH] at h;simp [Jk h.2]
theorem zhI:DX PR B0 64 cG:=by
 refine D6 [] [(4,⟨[0,1,4,5],[],[]⟩)] cG [[.bool]] Tryz.func64 za6 trivial ?_;intro vs r hwf h;unfold cG at h;split at h
 ·rename_i l m;rw [R.get_ok] at h;refine ⟨l.length+1,?_⟩;rw [← h];refine (zdT (l.length+1) l m).trans ?_;have hl:=(hwf (by simp [MD])).1;simp only [SA,wfL] at hl;by_cases hlm:l.length=m.length
  ·have e:(ic l.length != ic m.length)=false:=by simp [ic,hlm]
   rw [e];simp only [BC]
   have:=Jq (l.length+1) l m _ hlm hl.1 (fun b4 x5=>Yn (l.length+1) l m b4 x5) (fun b4 x5=>Yo (l.length+1) l m b4 x5) l.length 0 (l.length+1) (by omega) (by omega)
   rw [B2,B2] at this;exact this
  ·have e:(ic l.length != ic m.length)=true:=by simp [ic]; omega
   rw [e]
   have:FH l m=false:=by
    cases hs:FH l m with
    | false=>rfl
    | true=>exact absurd (Jk hs) hlm
   rw [this];rfl
 ·simp [R.get] at h
theorem Km:DX PR B0 25 WM:=by
 refine D6 [(64,cG)] [] WM [[.bool]] Tryz.func25 zbd ⟨zhI,trivial⟩ ?_;intro vs r hwf h;unfold WM at h;split at h
 ·rename_i k p a b c d t s k' p' a' b' c' d' t' s';rw [R.get_ok] at h;refine ⟨0,?_⟩;rw [← h];refine (zd0 0 ⟨k,p,a,b,c,d,t,s⟩ ⟨k',p',a',b',c',d',t',s'⟩).trans ?_;simp only [YK,B1];cases k==k'
  ·rfl
  cases FH p p'
  ·rfl
  cases a==a' <;> cases b==b' <;> cases c==c' <;> cases d==d' <;> cases t==t' <;> rfl
 ·simp [R.get] at h
open Go Go.Proofs
open Go Go.Proofs
def MN (N:Nat):Env:=D4 [(18,PZ),(21,SK),(23,WL),(24,P1),(26,P2),(17,LA),(25,WM),(27,SP),(22,P4),(19,ST),(20,N9),(16,SU),(15,SV)] [(5,⟨[1,2,6,7,8,9,10],[7,47],[⟨.tmp 9,47,38,true,ZX⟩]⟩),(16,⟨[6,9,12,82,83,84],[12,47],[⟨.tmp 9,47,38,true,ZX⟩]⟩)] 133 N
abbrev SE (f:Ft) (l1:LI) (x2:Int) (b6:Bool) (s8:BA) (n9:Nat) (x10:Int) (lo47:LI):St:=⟨[(1,(.list true [.z,.z,.z,.z,.z,.z,.bool,.list false [.z]] l1)),(2,(.i x2)),(6,(.bool b6)),(7,(.ptr 7 0 0)),(8,(.str s8)),(9,(.row 47 0 n9)),(10,(.i x10))],[(7,(some (.box (Md.cs (Ft.M f))))),(47,(some (.row true 38 true [.z,.z,.z,.z,.z,.z,.z,.z,.z,.z,.z,.z,.z,.z,.z,.bool,.z] lo47)))]⟩
abbrev NE (f:Ft) (b6:Bool) (n9:Nat) (l82:LI) (x83 x84:Int) (lo47:LI):St:=⟨[(6,(.bool b6)),(9,(.row 47 0 n9)),(12,(.ptr 12 0 0)),(82,(.list true [.z,.list true EB,.z,.z,.z,.z,.z,.z] l82)),(83,(.i x83)),(84,(.i x84))],[(12,(some (.box (Md.cs (FS (EK (Ft.M f))))))),(47,(some (.row true 38 true [.z,.z,.z,.z,.z,.z,.z,.z,.z,.z,.z,.z,.z,.z,.z,.bool,.z] lo47)))]⟩
theorem zd5 (N:Nat) (f:Ft) (a1:LI) (a2:Int):DZ (MN N) O7 [.tmp 6] [[.bool]] [(Ft.V f),.list true [.z,.z,.z,.z,.z,.z,.bool,.list false [.z]] a1,.i a2]=(DY (MN N) (DK O7 [1,1,1,1,0,1,0,0]) ⟨[1,2,6,7,8,9,10],[7,47],[⟨(.tmp 9),47,38,true,[.z,.z,.z,.z,.z,.z,.z,.z,.z,.z,.z,.z,.z,.z,.z,.bool,.z]⟩]⟩ N (SE f a1 a2 false ({data:=#[]}) 0 0 []) (DQ 0 (DS (MN N) (DK O7 [1,1,1,1,1]) (DT (MN N) none [.tmp 6] [[.bool]])))):=by kernel_rfl
theorem ziT (N:Nat) (f:Ft) (l1:LI) (x2:Int) (b6:Bool) (s8:BA) (n9:Nat) (x10:Int) (lo47:LI) (again:St→DN) (k:Out→St→DN):E2 (MN N) (DK O7 [1,1,1,1,0,1,0,0]) (SE f l1 x2 b6 s8 n9 x10 lo47) (EQ again ⟨[1,2,6,7,8,9,10],[7,47],[⟨(.tmp 9),47,38,true,[.z,.z,.z,.z,.z,.z,.z,.z,.z,.z,.z,.z,.z,.z,.z,.bool,.z]⟩]⟩ k)=(cond (decide (x10 < ic (AF l1))) (cond (decide (x10 < 4)) (cond (decide (0≤x10)&&decide (x10 < ic (AF l1))) (cond (PN (Ft.M f)) (cond (decide ((n9+1)*136≤EE)) (cond (decide (AG s8+AG (EG (Qy.bud (FT (G0 (AI l1 (AE x10) default)) (Ft.M f)) (DO (AA AB (x2+AA AB (7*x10))) 0 600)) (Md.d (Ft.M f)))≤strMax)) (cond (decide (AG (s8++EG (Qy.bud (FT (G0 (AI l1 (AE x10) default)) (Ft.M f)) (DO (AA AB (x2+AA AB (7*x10))) 0 600)) (Md.d (Ft.M f)))+AG {data:=#[10]}≤strMax)) (again (SE f l1 x2 b6 (s8++EG (Qy.bud (FT (G0 (AI l1 (AE x10) default)) (Ft.M f)) (DO (AA AB (x2+AA AB (7*x10))) 0 600)) (Md.d (Ft.M f))++{data:=#[10]}) (n9+1) (AA AB (x10+1)) (AK n9 lo47++[(Qy.I (Qy.bud (FT (G0 (AI l1 (AE x10) default)) (Ft.M f)) (DO (AA AB (x2+AA AB (7*x10))) 0 600)))]))) none) none) none) none) none) (k (.exit 0) (SE f l1 x2 b6 s8 n9 x10 lo47))) (k (.exit 0) (SE f l1 x2 b6 s8 n9 x10 lo47))):=by kernel_rfl
theorem Yu (N:Nat) (f:Ft) (l1:LI) (x2:Int) (b6:Bool) (s8:BA) (n9:Nat) (x10:Int) (lo47:LI):(DQ 0 (DS (MN N) (DK O7 [1,1,1,1,1]) (DT (MN N) none [.tmp 6] [[.bool]]))) (.exit 0) (SE f l1 x2 b6 s8 n9 x10 lo47)=(cond (decide (AG (EK (Ft.M f)) < 4294967281)) (cond (decide (AG (EK (FS (EK (Ft.M f)))) < 4294967281)&&(decide (AG s8 < 4294967281)&&decide (AG (F9 (EK (FS (EK (Ft.M f)))) s8)≤strMax))) (cond (decide (AG (F9 (EK (FS (EK (Ft.M f)))) s8) < 4294967281)) (cond (Option.isSome (KD (F9 (EK (FS (EK (Ft.M f)))) s8))) (cond (!K6 (EK (Ft.M f))) (some ((.bool false),[])) (cond (ic (AF (vbb (KD (F9 (EK (FS (EK (Ft.M f)))) s8)) [])) != ic (n9 - 0)) (some ((.bool false),[])) (DY (MN N) (DK O7 [1,1,1,1,1,1,1,1,0,1,0,0]) ⟨[6,9,12,82,83,84],[12,47],[⟨(.tmp 9),47,38,true,[.z,.z,.z,.z,.z,.z,.z,.z,.z,.z,.z,.z,.z,.z,.z,.bool,.z]⟩]⟩ N (NE f b6 n9 (vbb (KD (F9 (EK (FS (EK (Ft.M f)))) s8)) []) (ic (AF (vbb (KD (F9 (EK (FS (EK (Ft.M f)))) s8)) []))) 0 lo47) (DQ 2 (DS (MN N) (DK O7 [1,1,1,1,1,1,1,1,1]) (DT (MN N) none [.tmp 6] [[.bool]])))))) (cond (!K6 (EK (Ft.M f))) (some ((.bool false),[])) (some ((.bool false),[])))) none) none) none):=by kernel_rfl
theorem Mx (N:Nat) (f:Ft) (b6:Bool) (n9:Nat) (l82:LI) (x83 x84:Int) (lo47:LI) (again:St→DN) (k:Out→St→DN):E2 (MN N) (DK O7 [1,1,1,1,1,1,1,1,0,1,0,0]) (NE f b6 n9 l82 x83 x84 lo47) (EQ again ⟨[6,9,12,82,83,84],[12,47],[⟨(.tmp 9),47,38,true,[.z,.z,.z,.z,.z,.z,.z,.z,.z,.z,.z,.z,.z,.z,.z,.bool,.z]⟩]⟩ k)=(cond (decide (x84 < x83)) (cond (decide (0≤x84)&&decide (x84 < ic (AF l82))) (cond (decide (AG (EH (JY (AI l82 (AE x84) default)))≤strMax)) (cond (decide (AG (EH (JY (AI l82 (AE x84) default))) < 4294967281)) (cond (decide (AG (EH (HT (EH (JY (AI l82 (AE x84) default)))))≤strMax)) (cond (!QJ (EH (JY (AI l82 (AE x84) default)))) (k .ret (NE f false n9 l82 x83 x84 lo47)) (cond (!YK (IB (EH (JY (AI l82 (AE x84) default)))) (JY (AI l82 (AE x84) default))) (k .ret (NE f false n9 l82 x83 x84 lo47)) (cond (IV.toInt (IV.cell (AI l82 (AE x84) default) 0)==1) (cond (decide (0≤x84)&&decide (x84 < ic (n9 - 0))) (cond (!true==IC (FS (EK (Ft.M f))) (sH (AI lo47 (0+AE x84) default)) (IB (EH (JY (AI l82 (AE x84) default))))) (k .ret (NE f false n9 l82 x83 x84 lo47)) (cond (decide (0≤x84)&&decide (x84 < ic (n9 - 0))) (cond (decide (IV.toInt (IV.cell (AI l82 (AE x84) default) 7) > IV.toInt (IV.cell (AI lo47 (0+AE x84) default) 16))) (k .ret (NE f false n9 l82 x83 x84 lo47)) (again (NE f b6 n9 l82 x83 (AA AB (x84+1)) lo47))) none)) none) (cond (decide (0≤x84)&&decide (x84 < ic (n9 - 0))) (cond (! (IV.toInt (IV.cell (AI l82 (AE x84) default) 0)==2)==IC (FS (EK (Ft.M f))) (sH (AI lo47 (0+AE x84) default)) (IB (EH (JY (AI l82 (AE x84) default))))) (k .ret (NE f false n9 l82 x83 x84 lo47)) (cond (decide (0≤x84)&&decide (x84 < ic (n9 - 0))) (cond (decide (IV.toInt (IV.cell (AI l82 (AE x84) default) 7) > IV.toInt (IV.cell (AI lo47 (0+AE x84) default) 16))) (k .ret (NE f false n9 l82 x83 x84 lo47)) (again (NE f b6 n9 l82 x83 (AA AB (x84+1)) lo47))) none)) none)))) none) none) none) none) (k (.exit 2) (NE f b6 n9 l82 x83 x84 lo47))):=by kernel_rfl
theorem Yv (N:Nat) (f:Ft) (b6:Bool) (n9:Nat) (l82:LI) (x83 x84:Int) (lo47:LI):(DQ 2 (DS (MN N) (DK O7 [1,1,1,1,1,1,1,1,1]) (DT (MN N) none [.tmp 6] [[.bool]]))) (.exit 2) (NE f b6 n9 l82 x83 x84 lo47)=(some ((.bool true),[])):=by kernel_rfl
open Go Go.Proofs
def Z3 (z:Int) (i:Nat):Int:=DO (AA AB (z+AA AB (7*(i:Int)))) 0 600
theorem qD (z:Int) (i:Nat):0≤Z3 z i∧Z3 z i≤600:=QZ _ 0 600 (by omega) (by omega) (by omega)
def ON (m:Md) (z:Int):Nat→LI→List Qy
 | _,[]=>[]
 | i,x :: r=>(FT (G0 x) m).bud (Z3 z i) :: ON m z (i+1) r
theorem Hr (m:Md) (z:Int):∀ (i:Nat) (l:LI),(ON m z i l).length=l.length
 | _,[]=>rfl
 | i,x :: r=>by rw [ON,AM,Hr m z (i+1) r,AM]
theorem Hs (f:Ft) (z:Int):∀ (i:Nat) (l:LI),∀ q∈ON f.M z i l,Sits f.M q
 | _,[],q,h=>by cases h
 | i,x :: r,q,h=>by
  have hw:=qD z i;rcases AO.1 h with rfl | h
  ·exact (Ke f (G0 x) hw.1 (by omega)).1
  ·exact Hs f z (i+1) r q h
theorem Ht {m:Md} (hm:PN m=true) (z:Int):∀ (i:Nat) (l:LI),∀ q∈ON m z i l,(EG q m.d).size≤2000
 | _,[],q,h=>by cases h
 | i,x :: r,q,h=>by
  have hw:=qD z i;rcases AO.1 h with rfl | h
  ·exact Y7 hm (G0 x) hw.1 (by omega)
  ·exact Ht hm z (i+1) r q h
theorem Ou (N:Nat) (f:Ft) (l:LI) (z:Int) (T:BA→LI→DN) (K:Out→St→DN) (hx:∀ s8 x O,K (.exit 0) (SE f l z false s8 O.length x O)=T s8 O) :
  ∀ (d i n:Nat) (s8:BA) (O:LI),i+d=4→d < n→s8.size≤2001*i→O.length=i →
   DY (MN N) (DK O7 [1,1,1,1,0,1,0,0]) ⟨[1,2,6,7,8,9,10],[7,47],[⟨(.tmp 9),47,38,true,ZX⟩]⟩ n (SE f l z false s8 O.length (i:Int) O) K =
    T (GL f.M.d s8 (ON f.M z i ((l.take 4).drop i))) (O++(ON f.M z i ((l.take 4).drop i)).map Qy.I)
 | d,i,n+1,s8,O,hd,hn,h8,hO=>by
  have hw:=qD z i;have hdone:∀ y,K (.exit 0) (SE f l z false s8 O.length y O)=T (GL f.M.d s8 (ON f.M z i [])) (O++(ON f.M z i []).map Qy.I):=fun y=>by
   rw [hx];simp [ON,GL]
  rw [D5,ziT];by_cases hi:i < l.length
  ·by_cases hk:i < 4
   ·obtain ⟨d,rfl⟩:∃ e,d=e+1:=⟨d - 1,by omega⟩;have hp:=Y7 (O2 f) (G0 l[i]) hw.1 (show Z3 z i≤65536 by omega);rw [HA hi,IL,H8 hi,AD (show ((i:Nat):Int) < 4 by omega),O2,HD (by omega)];rw [mI hi hk,ON,GL,A0 (f:=Qy.I)];rw [show DO (AA AB (z+AA AB (7*(i:Int)))) 0 600=Z3 z i from rfl];generalize (FT (G0 l[i]) f.M).bud (Z3 z i)=q at hp ⊢;have g1:(s8++EG q f.M.d).size=s8.size+(EG q f.M.d).size:=AV;have e1:EJ.size=1:=rfl;rw [AD (show (O.length+1)*136≤EE by unfold EE; omega)];rw [AD (show s8.size+(EG q f.M.d).size≤strMax by unfold strMax; omega)];rw [AD (show (s8++EG q f.M.d).size+AG { data:=#[10] }≤strMax by rw [g1]; unfold strMax; show _+EJ.size≤_; omega)];rw [BO];simp only [DI,B1];have ih:=Ou N f l z T K hx d (i+1) n (s8++EG q f.M.d++EJ) (O++[q.I]) (by omega) (by omega) (by rw [AV,AV]; omega) (by simp; omega);rw [AT,vaH] at ih;exact ih
   ·rw [HA hi,AL (show ¬ ((i:Nat):Int) < 4 by omega),DI,DJ,VT (by omega)];exact hdone _
  ·rw [I5 (by omega),DJ,VT (by omega)];exact hdone _
 | _,_,0,_,_,_,h,_,_=>by omega
theorem zgu (q:Qy):sH q.I=q:=rfl
theorem Ov (N:Nat) (f:Ft) (Q:List Qy) (hQ:∀ q∈Q,Sits f.M q) (hl:Q.length≤4) (K:Out→St→DN)
  (hx:∀ x y,K (.exit 2) (NE f false Q.length ((Q.map (EC f.M)).map HW) x y (Q.map Qy.I))=some (.bool true,[])) :
  ∀ (d i n:Nat),i+d=Q.length→d < n →
   DY (MN N) (DK O7 [1,1,1,1,1,1,1,1,0,1,0,0]) ⟨[6,9,12,82,83,84],[12,47],[⟨(.tmp 9),47,38,true,ZX⟩]⟩ n (NE f false Q.length ((Q.map (EC f.M)).map HW) (ic Q.length) (i:Int) (Q.map Qy.I)) K=some (.bool true,[])
 | 0,i,n+1,hd,_=>by
  rw [D5,Mx,AL (show ¬ ((i:Nat):Int) < ic Q.length by simp only [ic]; omega),DJ];exact hx _ _
 | d+1,i,n+1,hd,hn=>by
  have hi:i < Q.length:=by omega
  have hi2:i < ((Q.map (EC f.M)).map HW).length:=by rw [BE,BE]; exact hi
  have hi3:i < (Q.map Qy.I).length:=by rw [BE]; exact hi
  have hs:=hQ _ (C1 hi);have hM:=YZ f;have hW:R9 f.M:=kU _ _ _ _;obtain ⟨t1,t2⟩:=gY hM hW;have hv:((Q.map (EC f.M)).map HW)[i]=HW (EC f.M Q[i]):=by rw [List.getElem_map,List.getElem_map]
  have hq:(Q.map Qy.I)[i]=(Q[i]).I:=by rw [List.getElem_map]
  rw [D5,Mx,AD (show ((i:Nat):Int) < ic Q.length by simp only [ic]; omega),HA hi2,IL,H8 hi2,hv,t2,BI,H8 hi3,hq,HD (by omega),vaD,AD (show ((i:Nat):Int) < ic Q.length by simp only [ic]; omega),zgu];obtain ⟨b1,b2,b3,b4⟩:=zg3 hs.right hs.few;obtain ⟨r1,r2⟩:=Jd hs.right hs.few;obtain ⟨s1,s2,s3,hk,h0,hbu⟩:=sX hs.right hs.few;have hsame:=wH r1 r2;have hpr:EH (JY (HW (EC f.M Q[i])))=EH (EC f.M Q[i]):=Hh hsame;have hpv:IB (EH (EC f.M Q[i]))=JY (HW (EC f.M Q[i])):=rfl;rw [hpr,hpv,b1,u6.2 (VSame.rfl' _),Hk hsame];rw [show IV.toInt (IV.cell (HW (EC f.M Q[i])) 0)=(JY (HW (EC f.M Q[i]))).kind from rfl,hsame.kind];rw [show IV.toInt (IV.cell (HW (EC f.M Q[i])) 7)=(JY (HW (EC f.M Q[i]))).spent from rfl,hsame.spent];rw [show IV.toInt (IV.cell (Q[i]).I 16)=(Q[i]).bu from rfl];rw [AD (show (EH (EC f.M Q[i])).size≤strMax by unfold strMax; omega),AD (show (EH (EC f.M Q[i])).size < 4294967281 by omega),AD (show (EH (HT (EH (EC f.M Q[i])))).size≤strMax by unfold strMax; omega),AL (show ¬ (EC f.M Q[i]).spent > (Q[i]).bu by omega)];have ih:=Ov N f Q hQ hl K hx d (i+1) n (by omega) (by omega);rcases hk with hk | hk | hk
  ·rw [hk,(s1 hk).1];simp only [DI,DJ,B1,A2,CY];exact ih
  ·rw [hk,(s2 hk).1,show ((2:Int)==1)=false from rfl];simp only [DI,DJ,B1,A2,CY];exact ih
  ·have hp3:IC f.M Q[i] (EC f.M Q[i])=false:=by
    unfold IC;rw [hk];simp
   rw [hk,hp3,show ((3:Int)==1)=false from rfl,show ((3:Int)==2)=false from rfl];simp only [DI,DJ,B1,A2,CY];exact ih
 | 0,_,0,_,h=>by omega
 | _+1,_,0,_,h=>by omega
theorem zhQ:DX PR B0 3 m9:=by
 refine D6 [(18,PZ),(21,SK),(23,WL),(24,P1),(26,P2),(17,LA),(25,WM),(27,SP),(22,P4),(19,ST),(20,N9),(16,SU),(15,SV)] [(5,⟨[1,2,6,7,8,9,10],[7,47],[⟨.tmp 9,47,38,true,ZX⟩]⟩),(16,⟨[6,9,12,82,83,84],[12,47],[⟨.tmp 9,47,38,true,ZX⟩]⟩)] m9 [[.bool]] Tryz.func3 zbi ⟨lT,tL,Kl,lV,lW,YB,Km,tR,lY,tY,gT,tJ,tK,trivial⟩ ?_;intro vs r hwf h;unfold m9 at h;split at h
 ·rename_i f l z;replace h:=hZ h;obtain ⟨f,rfl,h⟩:=h;rw [R.get_ok] at h;refine ⟨6,(zd5 6 f l z).trans ?_⟩;rw [← h];refine (Ou 6 f l z _ _ (fun s8 x O=>Yu 6 f l z false s8 O.length x O) 4 0 6 D9 [] rfl (by omega) (AZ _) rfl).trans ?_;rw [B2,C5];have hsit:=Hs f z 0 (l.take 4);have hsm:=Ht (O2 f) z 0 (l.take 4);have hql:(ON f.M z 0 (l.take 4)).length≤4:=by rw [Hr,BB]; omega
  generalize ON f.M z 0 (l.take 4)=Q at hsit hsm hql ⊢;have hM:=YZ f;have hW:R9 f.M:=kU _ _ _ _;obtain ⟨t1,t2⟩:=gY hM hW;have hps:=lD hM;have hqz:=gF f.M.d Q D9 hsm;have e0:D9.size=0:=rfl;have hz:=lK (EK f.M) (GL f.M.d D9 Q) (by rw [lE]; omega);have htold:=Oo hM hW (GL f.M.d D9 Q);rw [nD hsit] at htold;rw [t2,AD (show (EK f.M).size < 4294967281 by omega),AD (show (GL f.M.d D9 Q).size < 4294967281 by omega),AD (show (F9 (EK f.M) (GL f.M.d D9 Q)).size≤strMax by unfold strMax; omega),AD (show (F9 (EK f.M) (GL f.M.d D9 Q)).size < 4294967281 by omega),htold,t1];have hlen:((Q.map (EC f.M)).map HW).length=Q.length:=by rw [BE,BE]
  simp only [B3,DI,Option.isSome_some,vad,A2,DJ,hlen,BE,vaD,bne_self_eq_false];exact Ov 6 f Q hsit hql _ (fun x y=>Yv 6 f false Q.length _ x y _) Q.length 0 6 (by omega) (by omega)
 ·simp [R.get] at h
end Go.FM
