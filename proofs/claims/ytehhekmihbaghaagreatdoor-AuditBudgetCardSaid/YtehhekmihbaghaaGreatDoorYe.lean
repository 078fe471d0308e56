/-
  A small machine that reckons what a call comes to; the functions of the program, one by one. (proof.Sums COMES TO WHAT IS SAID., check's FUNCTIONS COME TO WHAT IS SAID (1): Sums, shown, Pro, NORMAL FORMS: what the functions' runs come to (written by a, and so on.)
-/
import Derived.Test.YtehhekmihbaghaaGreatDoorYd
import Derived.Lib.LaidU8
import Derived.OpenShut
import Derived.ProofKit
import Derived.LaidMore
import Derived.Test.YtehhekmihbaghaaGreatDoorTie
import Derived.Test.YtehhekmihbaghaaGreatDoorCards
import Derived.Deep.DeepWitnessRowRef
set_option linter.all false
set_option maxRecDepth 100000
open Array renaming length_toList→CL,getElem?_eq_some_iff→DE,toList_append→vah
open Bool renaming and_eq_true→AH,not_true→A2,not_false→A6,true_and→A8,false_and→BM,not_eq_true'→B1,and_self→B3,and_true→B9,and_false→vad,or_eq_true→vao,or_eq_false_iff→vas,false_or→vax,eq_iff_iff→vaZ
open ByteArray renaming size→AD,size_append→AY,toList→AZ,extract→B2,empty→CJ,append_assoc→vag,size_push→va0,data_extract→vbc,size_extract→vbd
open Go.DataW renaming weights→vbz,weightsEach→vbJ
open Go.IntKind renaming wrap→AA,i64→AB
open Go.Lib renaming decDigits→BV,itoa→C5,indexByte→DF,split→vaq,cut→vaN,parseUint10→vaO,join→va4,atoiAll→vbh,count_one→vbu
open Go.Lib.laidMet renaming reads→vbv
open Go.ResultVar renaming tmp→CF,cell→va5
open Go.World renaming cell?→vaL
open Int renaming toNat→AF,toNat_natCast→BD
open List renaming length→AG,getD→AI,take→AK,length_cons→AM,mem_cons_self→AN,mem_cons→AP,length_append→AS,drop→AT,mem_append→AV,mem_cons_of_mem→AW,map_cons→A0,map→A4,length_nil→A7,length_take→BC,getElem?_eq_getElem→BE,drop_eq_getElem_cons→BF,mem_singleton→BJ,length_map→BK,take_length→BR,getElem?_eq_some_iff→BS,getD_eq_getElem?_getD→BW,not_mem_nil→BX,getElem?_cons_zero→BY,getElem?_eq_none→BZ,drop_zero→B5,getElem?_map→CA,map_nil→CB,mem_map→CK,getElem?_take→CM,drop_of_length_le→CR,cons_append→CS,all_eq_true→CU,take_of_length_le→CV,length_drop→CY,getElem_mem→C1,length_singleton→C3,size_toArray→C7,append_nil→C9,nil_append→DA,getElem?_append→vae,mem_of_getElem?→vaf,count_eq_zero_of_not_mem→van,all_cons→vay,drop_length→vaB,extract_eq_take_drop→vaE,length_set→vaF,mem_of_mem_take→vaH,range→vaI,mem_map_of_mem→vaR,append_assoc→va1,mem_of_mem_drop→va6,mem_range→vbn,getElem?_append_right→vbt,count_append→vbx,isPrefixOf→vbA
open List.cons renaming injEq→vau
open Nat renaming le_of_ble_eq_true→AO,le_refl→AX,zero_add→BL,beq→BQ,blt→BU,zero_le→B4,ble→B6,lt_of_lt_of_le→CW,le_trans→C2,eq_of_beq_eq_true→vam,strongRecOn→vbq
open Option renaming map_eq_some_iff→DD,getD_some→vaj,map_some→vav
open Option.some renaming injEq→AC,inj→CX
open Prod.mk renaming injEq→AU
open UInt8 renaming toNat_ofNat_of_lt'→vaa,size→vbm
namespace Go.FM
open Go Go.Proofs
set_option maxRecDepth 100000
def RO (l L:LI) (n:Nat) (out:LI) (m:Nat) (i:Int):St:=⟨[(4,.zs),(5,.bool false),(6,.row 500 0 n),(7,.row 501 0 m),(19,.list true EE l),(20,.int .i64 (ic l.length)),(21,.int .i64 i)],[(500,some (.row true 36 true E9 L)),(501,some (.row true 36 true E9 out))]⟩
abbrev pC:KP:=⟨[4,5,6,7,19,20,21],[500,501],[⟨.tmp 6,500,36,true,E9⟩,⟨.tmp 7,501,36,true,E9⟩]⟩
def qW (p:Int) (f:Nat→DP):DP:=cond (decide (p=ic 0)) (f 0) (cond (decide (p=ic 1)) (f 1) (cond (decide (p=ic 2)) (f 2) (cond (decide (p=ic 3)) (f 3) (cond (decide (p=ic 4)) (f 4) none))))
def K2 (n:Nat):Int:=AA AB (ic (n - 0) - 1)
def pX (L:LI) (n:Nat):IV:=L.getD (0+(K2 n).toNat) default
noncomputable abbrev jT (N:Nat):Out→St→DP:=DS 0 (DT (YP N) (DL Y4 [1,1,1,1,1]) (DV (YP N) none [.tmp 4,.tmp 5] [[.list true E9],[.bool]]))
theorem zd6 (N:Nat) (l:LI) (b:Bx):D1 (YP N) Y4 [.tmp 4,.tmp 5] [[.list true E9],[.bool]] [b.V,.list true EE l] =
 cond (!decide (KK l > 0)) (some (.tup [.list true E9 [],.bool false],[])) (D0 (YP N) (DL Y4 [1,1,1,1,0,1,0,0]) pC N (RO l [b.I] 1 [] 0 0) (jT N)):=by kernel_rfl
theorem Yf (N:Nat) (l L out:LI) (n m:Nat) (i:Int):jT N (.exit 0) (RO l L n out m i)=some (.tup [.list true E9 (AK m out),.bool true],[]):=by kernel_rfl
theorem Ag (N:Nat) (l L out:LI) (n m:Nat) (i:Int):jT N .ret (RO l L n out m i)=some (.tup [.list true E9 [],.bool false],[]):=by kernel_rfl
theorem Mn (N:Nat) (l L out:LI) (n m:Nat) (i:Int) (again:St→DP) (k:Out→St→DP):FG (YP N) (DL Y4 [1,1,1,1,0,1,0,0]) (RO l L n out m i) (EW again pC k) =
 cond (decide (i < ic l.length)) (cond (decide (0≤i)&&decide (i < ic l.length)) (cond (decide (0≤K2 n)&&decide (K2 n < ic (n - 0))) (cond (decide (0≤K2 n)&&decide (K2 n≤ic (n - 0)))
 (cond (G3 (l.getD i.toNat default)) (cond (decide ((m+1)*80≤EG)) (again (RO l L (0+(K2 n).toNat) (out.take m++[(D9 (pX L n)).I]) (m+1) (FR (i+1)))) none)
 (qW (FC (l.getD i.toNat default)) fun j=>cond (decide (FV (l.getD i.toNat default) < cI (pX L n) (2*j))) (k .ret (RO l L (0+(K2 n).toNat) out m i))
 (qW (FC (l.getD i.toNat default)) fun j=>cond (decide (FV (l.getD i.toNat default)≥cI (pX L n) (2*j+1))) (k .ret (RO l L (0+(K2 n).toNat) out m i))
 (cond (H6 (FC (l.getD i.toNat default))) (cond (decide ((0+(K2 n).toNat+2)*80≤EG))
 (again (RO l (L.take (0+(K2 n).toNat)++[((D9 (pX L n)).cutH (FC (l.getD i.toNat default)) (FV (l.getD i.toNat default))).I,((D9 (pX L n)).cutL (FC (l.getD i.toNat default)) (FV (l.getD i.toNat default))).I]) (0+(K2 n).toNat+2) out m (FR (i+1)))) none) none)))) none) none) none)
 (k (.exit 0) (RO l L n out m i)):=by kernel_rfl
theorem Gb {p:Int} {a:Nat} (h:p=(a:Int)) (ha:a < 5) (f:Nat→DP):qW p f=f a:=by
 subst h
 match a,ha with
 | 0,_=>rfl
 | 1,_=>rfl
 | 2,_=>rfl
 | 3,_=>rfl
 | 4,_=>rfl
 | n+5,h=>omega
theorem Ui (x:IV):∀ {a:Nat},a < 5→(D9 x).g a=⟨cI x (2*a),cI x (2*a+1)⟩
 | 0,_=>rfl
 | 1,_=>rfl
 | 2,_=>rfl
 | 3,_=>rfl
 | 4,_=>rfl
 | n+5,h=>by omega
def rE (o:Option (List IV × LI)):DP:=match o with
 | some lo=>some (.tup [.list true E9 lo.2,.bool true],[])
 | none=>some (.tup [.list true E9 [],.bool false],[])
theorem rG (N:Nat) (l:LI) (hl:l.length≤65536):∀ (d c i:Nat) (L:LI) (n:Nat) (out:LI) (most:Int) (st:Int × Int),i+d=l.length→d < c→n≤L.length→n≤i+1→out.length≤i→JA (l.drop i) (ic n,most)=some st →
  D0 (YP N) (DL Y4 [1,1,1,1,0,1,0,0]) pC c (RO l L n out out.length (i:Int)) (jT N)=rE (IH (l.drop i) (L.take n,out))
 | d,0,_,_,_,_,_,_,_,h,_,_,_,_=>absurd h (by omega)
 | 0,c+1,i,L,n,out,most,st,hd,_,_,_,_,_=>by
  rw [EA,Mn,J5 (by omega),DK,CR (by omega),Yf,BR];rfl
 | d+1,c+1,i,L,n,out,most,st,hd,hc,hn,hn2,ho,hdp=>by
  have hi:i < l.length:=by omega
  rw [BF hi,JA] at hdp;rw [EA,Mn,IK hi,DJ,JP,B3,DJ,JB hi,BF hi,IH];have ei:FR ((i:Int)+1)=((i+1:Nat):Int):=HR (by omega);rw [ei];generalize l[i]=x at hdp ⊢;cases h1:LE (ic n,most) x with
  | none=>rw [h1] at hdp; cases hdp
  | some s1=>
   rw [h1] at hdp;obtain ⟨hne,hr,hcase⟩:=nW h1;obtain ⟨j,rfl⟩:∃ j,n=j+1:=⟨n - 1,by simp only [ic] at hne; omega⟩;have hlen:(L.take (j+1)).length=j+1:=by rw [BC]; omega
   have htop:E4 (L.take (j+1))=L.getD j default:=by
    unfold E4;rw [hlen,BW,BW,CM,BP (by omega)];rfl
   have hpop:GB (L.take (j+1))=L.take j:=by
    unfold GB;rw [hlen,List.take_take];congr 1;omega
   have ew:K2 (j+1)=(j:Int):=by
    unfold K2;rw [show ic (j+1 - 0) - 1=(j:Int) by simp only [ic]; omega];exact EO (by omega) (by omega)
   have ej:0+(K2 (j+1)).toNat=j:=by rw [ew]; omega
   have ex:pX L (j+1)=E4 (L.take (j+1)):=by unfold pX; rw [ej,htop]
   have i2:(decide (0≤K2 (j+1))&&decide (K2 (j+1) < ic (j+1 - 0)))=true:=by rw [ew,AE (by omega),AE (by simp only [ic]; omega)]; rfl
   have i3:(decide (0≤K2 (j+1))&&decide (K2 (j+1)≤ic (j+1 - 0)))=true:=by rw [ew,AE (by omega),AE (by simp only [ic]; omega)]; rfl
   have et:D2 (L.take (j+1))=D9 (E4 (L.take (j+1))):=rfl;rw [i2,DJ,i3,DJ,ej,ex];unfold LN;simp only [hpop,et];generalize E4 (L.take (j+1))=y;rcases hcase with ⟨hs,rfl⟩ | ⟨hs,rfl⟩
   ·rw [hs,DJ,DJ,AE (show (out.length+1)*80≤EG by unfold EG; omega),DJ,BR]
    have:=rG N l hl d c (i+1) L j (out++[(D9 y).I]) most st (by omega) (by omega) (by omega) (by omega) (by simp only [AS,AM,A7]; omega) (by rw [show ic j=ic (j+1) - 1 by simp only [ic]; omega]; exact hdp)
    rw [show (out++[(D9 y).I]).length=out.length+1 by simp] at this;exact this
   ·have hpl:=rT hr hs;obtain ⟨a,ha⟩:∃ a:Nat,FC x=(a:Int):=⟨(FC x).toNat,by omega⟩;have ha5:a < 5:=by omega
    rw [hs,DK,DK,Gb ha ha5,Gb ha ha5];have eg:=Ui y ha5;rw [show (FC x).toNat=a by omega,eg];show cond (decide (FV x < cI y (2*a))) _ _=rE (match cond (decide (FV x < cI y (2*a))||decide (FV x≥cI y (2*a+1))) none _ with | some st'=>IH (l.drop (i+1)) st' | none=>none);cases decide (FV x < cI y (2*a)) with
    | true=>rw [DJ,Ag,Bool.true_or,DJ]; rfl
    | false=>
     rw [DK,vax];cases decide (FV x≥cI y (2*a+1)) with
     | true=>rw [DJ,Ag,DJ]; rfl
     | false=>
      have hin:H6 (FC x)=true:=by unfold H6; rw [AE hpl.1,AE (by omega)]; rfl
      rw [DK,DK,hin,DJ,AE (show (j+2)*80≤EG by unfold EG; omega),DJ];have e2:∀ v1 v2:IV,(L.take j++[v1,v2]).take (j+2)=L.take j++[v1,v2]:=fun v1 v2=>CV (by simp only [AS,BC,AM,A7]; omega)
      have:=rG N l hl d c (i+1) (L.take j++[((D9 y).cutH (FC x) (FV x)).I,((D9 y).cutL (FC x) (FV x)).I]) (j+2) out (max most (ic (j+1)+1)) st (by omega) (by omega) (by simp only [AS,BC,AM,A7]; omega) (by omega) (by omega) (by rw [show ic (j+2)=ic (j+1)+1 by simp only [ic]; omega]; exact hdp)
      rw [e2] at this;exact this
theorem zhM:DY PR B0 67 cU:=by
 refine D7 [(111,PP),(110,cT)] [(6,⟨[4,5,6,7,19,20,21],[500,501],[⟨.tmp 6,500,36,true,E9⟩,⟨.tmp 7,501,36,true,E9⟩]⟩)] cU [[.list true [.z,.z,.z,.z,.z,.z,.z,.z,.z,.z]],[.bool]] Tryz.func67 zbk ⟨k9,zhL,trivial⟩ ?_;intro vs r hwf h;unfold cU at h;split at h
 ·rename_i b l;replace h:=JY h;obtain ⟨b,rfl,h⟩:=h;rw [R.get_br] at h;refine ⟨l.length+1,(zd6 (l.length+1) l b).trans ?_⟩;cases hd:decide (KK l > 0) with
  | false=>
   have e:J9 b l=none:=by unfold J9; rw [hd,DK]
   rw [e] at h;rw [A6,DJ];exact h
  | true=>
   obtain ⟨st,hst⟩:=zS (A1 hd);have hl:l.length≤65536:=by
    have:=A1 hd
    unfold KK at this;by_cases hc:ic l.length > 65536
    ·rw [AE hc,DJ] at this; omega
    ·simp only [ic] at hc; omega
   have run:=rG (l.length+1) l hl l.length (l.length+1) 0 [b.I] 1 [] 1 st (by omega) (by omega) (AX _) (by omega) (AX _) hst;rw [B5] at run;have e:J9 b l=(IH l ([b.I],[])).map (·.2):=by unfold J9; rw [hd,DJ]
   rw [A2,DK];refine Eq.trans run ?_;show rE (IH l ([b.I],[]))=_;rw [e] at h;cases hp:IH l ([b.I],[]) with
   | none=>rw [hp] at h; exact h
   | some lo=>rw [hp] at h; exact h
 ·simp [R.get] at h
open Go Go.Proofs
theorem nD (N:Nat) (ts:LI) (b:Bx) (k:Int) (hts:ts.length≤8) (hT:∀ t∈ts,G4 (FH t) 4=true) (hb:GA b=true):∀ (m i n:Nat) (lo hi:Int),i+m=ts.length→m < n→(-2147483648*(i+1)≤lo∧lo≤2147483648*(i+1))→(-2147483648*(i+1)≤hi∧hi≤2147483648*(i+1)) →
  D0 (G6 N) (DL IQ [1,1,1,0,1,0,0]) ⟨[1,5,6,7,8,9,40,41,42],[5],[]⟩ n ⟨[(1,(.int .i64 k)),(5,(.ptr 5 0 0)),(6,(.int .i64 0)),(7,(.int .i64 0)),(8,(.int .i64 lo)),(9,(.int .i64 hi)),(40,(.list true MX ts)),(41,(.int .i64 (ic ts.length))),(42,(.int .i64 (i:Int)))],[(5,(some (.box (Bx.cs b))))]⟩ (DS 0 (DT (G6 N) (DL IQ [1,1,1,1]) (DV (G6 N) none [(CF 6),(CF 7)] [[.z],[.z]]))) =
   some (.tup [.int .i64 (I3 (fun l=>H9 l b) k (ts.drop i) lo),.int .i64 (I3 (fun l=>H8 l b) k (ts.drop i) hi)],[])
 | m,i,0,_,_,_,h,_,_=>absurd h (by omega)
 | 0,i,n+1,lo,hi,hd,_,_,_=>by
  have hlt:i=ts.length:=by omega
  subst hlt;rw [EA,Lu,J5 (AX _),DK,vaB];exact Xh N b _ _ _ _ _ _ _ _
 | m+1,i,n+1,lo,hi,hd,hn,h1,h2=>by
  have hlt:i < ts.length:=by omega
  have ei:AA AB ((i:Int)+1)=((i+1:Nat):Int):=HR (by omega);rw [EA,Lu,ei,IK hlt,DJ,JP,B3,DJ,JB hlt,BF hlt,I3,I3];obtain ⟨q1,q2⟩:=lM (FH ts[i]) b;have q1:=NK q1;have q2:=NK q2;have hti:G4 (IV.toList (IV.cell ts[i] 1)) 4=true:=hT _ (C1 hlt);cases ((ts[i].cell 0).toInt==k) with
  | true=>
   rw [DJ,DJ,DJ,hti,hb,B3,DJ];have ew:AA AB (lo+H9 (FH ts[i]) b)=lo+H9 (FH ts[i]) b:=EO (by omega) (by omega);have ew2:AA AB (hi+H8 (FH ts[i]) b)=hi+H8 (FH ts[i]) b:=EO (by omega) (by omega);have ih:=nD N ts b k hts hT hb m (i+1) n (lo+H9 (FH ts[i]) b) (hi+H8 (FH ts[i]) b) (by omega) (by omega) (by omega) (by omega);rw [← ew,← ew2] at ih;refine Eq.trans ih ?_;rw [ew,ew2]
  | false=>
   rw [DK,DK,DK];exact nD N ts b k hts hT hb m (i+1) n lo hi (by omega) (by omega) (by omega) (by omega)
theorem zha:DY PR B0 113 bO:=by
 refine D7 [(112,LB),(158,bP),(53,MP)] [(5,⟨[1,5,6,7,8,9,40,41,42],[5],[]⟩)] bO [[.z],[.z]] Tryz.func113 zaw ⟨XZ,zhb,Z9,trivial⟩ ?_;intro vs r hwf h;unfold bO at h;split at h
 ·rename_i m k b;replace h:=JZ h;obtain ⟨m,rfl,h⟩:=h;replace h:=JY h;obtain ⟨b,rfl,h⟩:=h;cases hg:(b.emp||GA b) with
  | false=>rw [hg] at h; simp [R.get] at h
  | true=>
  rw [hg,R.get_br,DJ,R.get_ok] at h;refine ⟨10,?_⟩;rw [← h];refine (zdh 10 m k b).trans ?_;unfold ED EB HA;cases hm:E0 m with
  | false=>rfl
  | true=>
   rw [A2,DK];cases h0:decide (k < 0) with
   | true=>
    have:IC m k=false:=by unfold IC; rw [AL (show ¬ 0≤k by have:=A1 h0; omega)]; rfl
    rw [this];rfl
   | false=>
    rw [DK];cases h1:decide (k≥m.c) with
    | true=>
     have:IC m k=false:=by unfold IC; rw [AL (show ¬ k < m.c by have:=A1 h1; omega),vad]
     rw [this];rfl
    | false=>
     have hc:IC m k=true:=by unfold IC; rw [AE (show 0≤k by have:=BG h0; omega),AE (show k < m.c by have:=BG h1; omega)]; rfl
     rw [DK,hc];cases he:b.emp with
     | true=>rfl
     | false=>
      rw [he,vax] at hg;have hb:=iJ hm k;have run:=nD 10 m.ts b k (MD hm).2.2.1 (fun t ht=>aE hm ht) hg m.ts.length 0 10 (L0 m k) (L0 m k) (by omega) (by have:=(MD hm).2.2.1; omega) (by omega) (by omega);rw [DK];rcases nH hm hc with rfl | rfl | rfl <;> exact run
 ·simp [R.get] at h
theorem sD (N:Nat) (m:Md) (q:Qy) (b:Bx) (hb:(b.emp||GA b)=true):∀ (d i n:Nat),((i+d:Nat):Int)=m.c→d < n→m.c < 1000 →
  D0 (LV N) (DL N6 [1,1,1,0,1,0,1,1,1,0,0,1,0,0]) ⟨[3,4,5,6,7,42,43],[3,4,5],[]⟩ n ⟨[(3,(.ptr 3 0 0)),(4,(.ptr 4 0 0)),(5,(.ptr 5 0 0)),(6,(.bool false)),(7,(.int .i64 (ED m q.c b))),(42,(.int .i64 m.c)),(43,(.int .i64 (i:Int)))],[(3,(some (.box (Md.cs m)))),(4,(some (.box (Qy.cs q)))),(5,(some (.box (Bx.cs b))))]⟩ (DS 1 (DT (LV N) (DL N6 [1,1,1,0,1,0,1,1,1,0,1]) (DS 0 (DT (LV N) (DL N6 [1,1,1,1]) (DV (LV N) none [(CF 6)] [[.bool]])))))=some (.bool (WU m q b d i),[])
 | d,i,0,_,h,_=>absurd h (by omega)
 | 0,i,n+1,hd,_,_=>by
  rw [EA,Lv,AL (show ¬ (i:Int) < m.c by omega),DK];exact Xi N m q b _ _ _ _
 | d+1,i,n+1,hd,hn,hc=>by
  have ei:AA AB ((i:Int)+1)=((i+1:Nat):Int):=HR (by omega);rw [EA,Lv,ei,AE (show (i:Int) < m.c by omega),DJ,hb,DJ,WU];have en:((i:Int) != q.c)=!((i:Int)==q.c):=rfl;rw [en];cases ((i:Int)==q.c) with
  | true=>
   rw [A2,DK,BM,DK];exact sD N m q b hb d (i+1) n (by omega) (by omega) hc
  | false=>
   rw [A6,DJ,A8];cases decide (EB m (i:Int) b≥ED m q.c b) with
   | true=>
    rw [DJ,DJ];exact Xj N m q b _ _ _ _
   | false=>
    rw [DK,DK];exact sD N m q b hb d (i+1) n (by omega) (by omega) hc
theorem zhc:DY PR B0 68 bQ:=by
 refine D7 [(112,LB),(113,bO)] [(9,⟨[3,4,5,6,7,42,43],[3,4,5],[]⟩)] bQ [[.bool]] Tryz.func68 zay ⟨XZ,zha,trivial⟩ ?_;intro vs r hwf h;unfold bQ at h;split at h
 ·rename_i m q b;replace h:=JZ h;obtain ⟨m,rfl,h⟩:=h;replace h:=KU h;obtain ⟨q,rfl,h⟩:=h;replace h:=JY h;obtain ⟨b,rfl,h⟩:=h;cases hg:(FB m q&&(b.emp||GA b)) with
  | false=>rw [hg] at h; simp [R.get] at h
  | true=>
  rw [hg,R.get_br,DJ,R.get_ok] at h;rw [AH] at hg;obtain ⟨hr,hb⟩:=hg;have hb':b.emp=true∨b.good:=by
   rw [vao] at hb;exact hb.imp id ZI.1
  refine ⟨1000,?_⟩;rw [← h,← zgN hr hb'];refine (zdi 1000 m q b).trans ?_;obtain ⟨hm,_,_,_,hk⟩:=XU hr;unfold sC;cases he:b.emp with
  | true=>rfl
  | false=>
   have hgd:GA b=true:=by rw [he,vax] at hb; exact hb
   rw [DK,DK,hgd,vax,DJ];rcases jW hk with ⟨e,_⟩ | ⟨e,h2,_⟩ | ⟨e,hf,_⟩
   ·rw [e];show cond (decide (q.lo≤ED m q.c b)) (some (V.bool (decide (EB m q.c b≤q.hi)),[])) (some (V.bool false,[]))=some (V.bool (decide (q.lo≤ED m q.c b)&&decide (EB m q.c b≤q.hi)),[]);cases decide (q.lo≤ED m q.c b) <;> rfl
   ·rw [e];have hc:=(MD hm).2.1;exact sD 1000 m q b (by rw [he,hgd]; rfl) m.c.toNat 0 1000 (by omega) (by omega) (by omega)
   ·rw [e];have hp:=qR hm e hf;have hg2:GA (K6 q b)=true:=ZI.2 (U2 (ZI.1 hgd) ((ZI.1 hgd) 4 (by omega)) (by rcases RN hp with e | e | e | e <;> rw [e] <;> decide));have fin:(cond (decide ((b.g q.ft.toNat).lo≥b.s4.hi)) (some (V.bool true,[])) (cond ((K6 q b).emp||GA (K6 q b)) (cond q.fl (some (V.bool (decide (EB m q.c (K6 q b)≤ED m q.c b)),[])) (some (V.bool (decide (ED m q.c (K6 q b)≥EB m q.c b)),[]))) none):DP) =
      some (V.bool (cond (decide ((b.g q.ft.toNat).lo≥b.s4.hi)) true (cond q.fl (decide (EB m q.c (K6 q b)≤ED m q.c b)) (decide (ED m q.c (K6 q b)≥EB m q.c b)))),[]):=by
     rw [hg2,Bool.or_true,DJ];cases decide ((b.g q.ft.toNat).lo≥b.s4.hi) <;> cases q.fl <;> rfl
    refine Eq.trans ?_ fin;unfold K6;rcases RN hp with e | e | e | e <;> rw [e] <;> rfl
 ·simp [R.get] at h
theorem Gq (N:Nat) (m:Md) (q:Qy) (hr:FB m q=true) (l:LI) (hl:l.length < 100000) (hg:∀ y∈l,(D9 y).good):∀ (d i n:Nat),i+d=l.length→d < n →
  D0 (J0 N) (DL L5 [1,1,1,0,1,0,1,0,1,0,1,0,0]) ⟨[3,4,6,9,29,30,31],[3,4],[]⟩ n ⟨[(3,(.ptr 3 0 0)),(4,(.ptr 4 0 0)),(6,(.bool false)),(9,(.bool true)),(29,(.list true E9 l)),(30,(.int .i64 (ic l.length))),(31,(.int .i64 (i:Int)))],[(3,(some (.box (Md.cs m)))),(4,(some (.box (Qy.cs q))))]⟩ (DS 1 (DT (J0 N) (DL L5 [1,1,1,0,1,0,1,0,1,1]) (DS 0 (DT (J0 N) (DL L5 [1,1,1,1]) (DV (J0 N) none [(CF 6)] [[.bool]]))))) =
   some (.bool ((l.drop i).all fun x=>G0 m q (D9 x)),[])
 | d,i,0,_,h=>absurd h (by omega)
 | 0,i,n+1,hd,_=>by
  rw [EA,tD,J5 (by omega),DK,CR (by omega)];exact Af N m q _ _ l _ _
 | d+1,i,n+1,hd,hn=>by
  have hi:i < l.length:=by omega
  have hgi:=hg _ (C1 hi);rw [EA,tD,IK hi,DJ,JP,B3,DJ,HR (by omega),JB hi,BF hi,vay,hr,ZI.2 hgi,Bool.or_true,B3,DJ];cases G0 m q (D9 l[i]) with
  | false=>
   rw [A6,DJ];exact Xg N m q _ _ l _ _
  | true=>
   rw [A2,DK,A8];exact Gq N m q hr l hl hg d (i+1) n (by omega) (by omega)
theorem zfL {b:Bx} {l outs:LI} (h:J9 b l=some outs):outs.length≤65536:=by
 have key:∀ {l:LI} {st lo:LI × LI},IH l st=some lo→lo.2.length≤st.2.length+l.length:=by
  intro l
  induction l with
  | nil=>intro st lo h; obtain rfl:=CX h; exact AX _
  | cons x l ih=>
   intro st lo h;rw [IH] at h;cases h1:LN st x with
   | none=>rw [h1] at h; cases h
   | some s1=>
    rw [h1] at h
    have:=ih h
    have h2:s1.2.length≤st.2.length+1:=by
     unfold LN at h1;cases hs:G3 x with
     | true=>rw [hs] at h1; obtain rfl:=CX h1; simp
     | false=>
      rw [hs,DK] at h1;cases hc:(decide (FV x < ((D2 st.1).g (FC x).toNat).lo)||decide (FV x≥((D2 st.1).g (FC x).toNat).hi)) with
      | true=>rw [hc] at h1; cases h1
      | false=>rw [hc] at h1; obtain rfl:=CX h1; exact Nat.le_succ _
    simp only [AM];omega
 unfold J9 at h;cases hd:decide (KK l > 0) with
 | false=>rw [hd,DK] at h; cases h
 | true=>
  rw [hd,DJ] at h;have hl:l.length≤65536:=by
   have:=A1 hd
   unfold KK at this;by_cases hc:ic l.length > 65536
   ·rw [AE hc,DJ] at this; omega
   ·simp only [ic] at hc; omega
  cases hp:IH l ([b.I],[]) with
  | none=>rw [hp] at h; cases h
  | some lo=>
   rw [hp] at h;obtain rfl:=CX h
   have:=key hp
   simp only [A7] at this;show lo.2.length≤65536;omega
theorem Jm:DY PR B0 26 V7:=by
 refine D7 [(69,bG),(68,bQ),(67,cU),(70,WG),(65,MR),(66,WH)] [(8,⟨[3,4,6,9,29,30,31],[3,4],[]⟩)] V7 [[.bool]] Tryz.func26 zav ⟨zg2,zhc,zhM,Jy,aB,Jz,trivial⟩ ?_;intro vs r hwf h;unfold V7 at h;split at h
 ·rename_i m q v;replace h:=JZ h;obtain ⟨m,rfl,h⟩:=h;replace h:=KU h;obtain ⟨q,rfl,h⟩:=h;replace h:=Pc h;obtain ⟨v,rfl,h⟩:=h;rw [R.get_ok] at h;refine ⟨70000,?_⟩;rw [← h];refine (zdg 70000 m q v).trans ?_;unfold J8;cases hr:FB m q with
  | false=>rfl
  | true=>
   rw [A2,DK,A8];cases v.kind==1 with
   | true=>
    rw [DJ,DJ];cases hp:J9 (GR q) v.proof with
    | none=>
     show cond false _ _=_;rw [DK,EA,tD];exact Af 70000 m q _ _ [] _ _
    | some l=>
     show cond true _ _=_;rw [DJ];have hl:=zfL hp
     have:=Gq 70000 m q hr l (by omega) (zfK (tG hr) hp) l.length 0 70000 (by omega) (by omega)
     rw [B5] at this;exact this
   | false=>
    rw [DK,DK];cases v.kind==2 with
    | false=>rfl
    | true=>
     rw [DJ,DJ];show cond ((GR q).has v.p v.twin) (some (V.bool (HJ m q v.p v.twin),[])) (some (V.bool false,[]))=some (V.bool ((GR q).has v.p v.twin&&HJ m q v.p v.twin),[]);cases (GR q).has v.p v.twin <;> rfl
 ·simp [R.get] at h
open Go Go.Proofs
def QW (N:Nat):Env:=D6 [] [(4,⟨[2,13,14,15],[],[]⟩)] 37 N
abbrev OO (b2:Bool) (l13:LI) (x14 x15:Int):St:=⟨[(2,(.bool b2)),(13,(.list true [.bool,.z,.z] l13)),(14,(.i x14)),(15,(.i x15))],[]⟩
theorem zdf (N:Nat) (l:LI):D1 (QW N) UH [.tmp 2] [[.bool]] [.list true [.bool,.z,.z] l]=(cond (decide (ic (AG l) < 1)) (some ((.bool false),[])) (cond (decide (ic (AG l) > 65536)) (some ((.bool false),[])) (D0 (QW N) (DL UH [1,1,0,1,0,0]) ⟨[2,13,14,15],[],[]⟩ N (OO false l (ic (AG l)) 0) (DS 0 (DT (QW N) (DL UH [1,1,1]) (DV (QW N) none [.tmp 2] [[.bool]])))))):=by kernel_rfl
theorem Lt (N:Nat) (b2:Bool) (l13:LI) (x14 x15:Int) (again:St→DP) (k:Out→St→DP):FG (QW N) (DL UH [1,1,0,1,0,0]) (OO b2 l13 x14 x15) (EW again ⟨[2,13,14,15],[],[]⟩ k)=(cond (decide (x15 < x14)) (cond (decide (0≤x15)&&decide (x15 < ic (AG l13))) (cond (IV.toBool (IV.cell (AI l13 (AF x15) default) 0)) (cond (! (IV.toBool (IV.cell (AI l13 (AF x15) default) 0)==true&&(IV.toInt (IV.cell (AI l13 (AF x15) default) 1)==0&&(IV.toInt (IV.cell (AI l13 (AF x15) default) 2)==0&&true)))) (k .ret (OO false l13 x14 x15)) (cond (decide (IV.toInt (IV.cell (AI l13 (AF x15) default) 1) < 0)) (k .ret (OO false l13 x14 x15)) (cond (decide (IV.toInt (IV.cell (AI l13 (AF x15) default) 1) > 4)) (k .ret (OO false l13 x14 x15)) (again (OO b2 l13 x14 (AA AB (x15+1))))))) (cond (decide (IV.toInt (IV.cell (AI l13 (AF x15) default) 1) < 0)) (k .ret (OO false l13 x14 x15)) (cond (decide (IV.toInt (IV.cell (AI l13 (AF x15) default) 1) > 4)) (k .ret (OO false l13 x14 x15)) (again (OO b2 l13 x14 (AA AB (x15+1))))))) none) (k (.exit 0) (OO b2 l13 x14 x15))):=by kernel_rfl
theorem Xe (N:Nat) (b2:Bool) (l13:LI) (x14 x15:Int):(DS 0 (DT (QW N) (DL UH [1,1,1]) (DV (QW N) none [.tmp 2] [[.bool]]))) (.exit 0) (OO b2 l13 x14 x15)=(some ((.bool true),[])):=by kernel_rfl
theorem Xf (N:Nat) (b2:Bool) (l13:LI) (x14 x15:Int):(DS 0 (DT (QW N) (DL UH [1,1,1]) (DV (QW N) none [.tmp 2] [[.bool]]))) .ret (OO b2 l13 x14 x15)=(some ((.bool b2),[])):=by kernel_rfl
def Qb (N:Nat):Env:=D6 [(106,bN)] [] 47 N
theorem zdb (N:Nat) (u00:Int) (u01:LI) (u04 u05 u06 u07 u03 u02:Int):D1 (Qb N) wP [.tmp 2] [[.bool]] [.agg [.i u00,.list true [.bool,.z,.z] u01,.i u04,.i u05,.i u06,.i u07,.i u03,.i u02]]=(cond (decide (u02 < 0)) (some ((.bool false),[])) (cond (decide (u02 > 65536)) (some ((.bool false),[])) (cond (u04==0&&(u05==0&&(u06==0&&(u07==0&&true)))) (cond (u00==1) (cond (u03==0) (some ((.bool (PK u01)),[])) (some ((.bool false),[]))) (cond (u00==2) (some ((.bool (ic (AG u01)==0)),[])) (cond (u00==3) (cond (u03==0) (some ((.bool (ic (AG u01)==0)),[])) (some ((.bool false),[]))) (cond (u00==4) (cond (u03==0) (some ((.bool (ic (AG u01)==0)),[])) (some ((.bool false),[]))) (some ((.bool false),[])))))) (cond (u00==1) (some ((.bool false),[])) (cond (u00==2) (some ((.bool (ic (AG u01)==0)),[])) (cond (u00==3) (some ((.bool false),[])) (cond (u00==4) (some ((.bool false),[])) (some ((.bool false),[]))))))))):=by kernel_rfl
def TW (N:Nat):Env:=D6 [(43,OT),(97,YR),(60,T3)] [(2,⟨[0,11,12,13],[900000],[]⟩)] 26 N
abbrev aO (l11:LI) (x12 x13:Int) (u00:BA):St:=⟨[(0,(.ptr 900000 0 0)),(11,(.list false [.z] l11)),(12,(.i x12)),(13,(.i x13))],[(900000,(some (.bld u00)))]⟩
theorem zdc (N:Nat) (b word:BA) (l:LI):D1 (TW N) WW [] [] [.bor [.bld b],.str word,.list false [.z] l]=(cond (decide (AD b+AD word≤strMax)) (D0 (TW N) (DL WW [1,0,1,0,0]) ⟨[0,11,12,13],[900000],[]⟩ N (aO l (ic (AG l)) 0 (b++word)) (DS 0 (DT (TW N) (DL WW [1,1]) (DV (TW N) (some [.bld b]) [] [])))) none):=by kernel_rfl
theorem Ls (N:Nat) (l11:LI) (x12 x13:Int) (u00:BA) (again:St→DP) (k:Out→St→DP):FG (TW N) (DL WW [1,0,1,0,0]) (aO l11 x12 x13 u00) (EW again ⟨[0,11,12,13],[900000],[]⟩ k)=(cond (decide (x13 < x12)) (cond (decide (0≤x13)&&decide (x13 < ic (AG l11))) (cond (decide (AD u00+1≤strMax)) (cond (decide (AD (ByteArray.push u00 (NE 32))+AD (DQ (IV.toInt (AI l11 (AF x13) default)))≤strMax)) (again (aO l11 x12 (AA AB (x13+1)) (ByteArray.push u00 (NE 32)++DQ (IV.toInt (AI l11 (AF x13) default))))) none) none) none) (k (.exit 0) (aO l11 x12 x13 u00))):=by kernel_rfl
theorem Xb (N:Nat) (b:BA) (l11:LI) (x12 x13:Int) (u00:BA):(DS 0 (DT (TW N) (DL WW [1,1]) (DV (TW N) (some [.bld b]) [] []))) (.exit 0) (aO l11 x12 x13 u00)=(cond (decide (AD u00+1≤strMax)) (some ((.tup []),[[.bld (ByteArray.push u00 (NE 10))]])) none):=by kernel_rfl
def Qc (N:Nat):Env:=D6 [(90,Q1)] [] 20 N
theorem zdd (N:Nat) (l:LI) (i:Int):D1 (Qc N) wQ [.tmp 4] [[.z]] [.list false [.str] l,.i i]=(cond (decide (i≥ic (AG l))) (some ((.i 0),[])) (cond (decide (0≤i)&&decide (i < ic (AG l))) (some ((.i (FK (IV.toStr (AI l (AF i) default)))),[])) none)):=by kernel_rfl
open Go Go.Proofs
theorem Na (N:Nat) (l:LI) (K:Out→St→DP) (hl:l.length≤65536)
  (hx:∀ b2 x14 x15,K (.exit 0) ⟨[(2,(.bool b2)),(13,(.list true [.bool,.z,.z] l)),(14,(.int .i64 x14)),(15,(.int .i64 x15))],[]⟩=some (.bool true,[]))
  (hr:∀ b2 x14 x15,K .ret ⟨[(2,(.bool b2)),(13,(.list true [.bool,.z,.z] l)),(14,(.int .i64 x14)),(15,(.int .i64 x15))],[]⟩=some (.bool b2,[])) :
  ∀ (d i n:Nat),i+d=l.length→d < n→D0 (QW N) (DL UH [1,1,0,1,0,0]) ⟨[2,13,14,15],[],[]⟩ n ⟨[(2,(.bool false)),(13,(.list true [.bool,.z,.z] l)),(14,(.int .i64 (ic l.length))),(15,(.int .i64 (i:Int)))],[]⟩ K=some (.bool ((l.drop i).all PJ),[])
 | 0,i,n+1,hd,_=>by
  rw [EA,Lt];rw [J5 (by omega),CR (by omega)];simp only [A9,List.all_nil];exact hx ..
 | d+1,i,n+1,hd,hn=>by
  rw [EA,Lt];have hi:i < l.length:=by omega
  rw [IK hi,JP,HR (by omega),JB hi,BF hi,vay];generalize l[i]=x;have ih:=Na N l K hl hx hr d (i+1) n (by omega) (by omega);rw [ih];generalize (AT (i+1) l).all PJ=rest;unfold PJ G3 FC FV;simp only [BH,B9,nR,nS,T9];cases hs:IV.toBool (IV.cell x 0) <;> cases hp0:decide (IV.toInt (IV.cell x 1) < 0) <;> cases hp4:decide (4 < IV.toInt (IV.cell x 1)) <;> cases hz:decide (IV.toInt (IV.cell x 1)=0) <;> cases ha:decide (IV.toInt (IV.cell x 2)=0) <;>
   (simp only [BH,A9,A2,A6,B9,vad,A8,BM,DG,hr]
    try rfl)
 | 0,_,0,_,h=>by omega
 | _+1,_,0,_,h=>by omega
theorem zg9:DY PR B0 106 bN:=by
 refine D7 [] [(4,⟨[2,13,14,15],[],[]⟩)] bN [[.bool]] Tryz.func106 zau trivial ?_;intro vs r hwf h;unfold bN at h;split at h
 ·rename_i l;refine ⟨l.length+1,?_⟩;rw [← h];refine (zdf (l.length+1) l).trans ?_;simp only [R.get_ok];unfold PK;by_cases h1:l.length < 1
  ·have e1:decide (ic l.length < 1)=true:=AE (by show ((l.length:Nat):Int) < 1; omega);have e2:decide (1≤l.length)=false:=AL (by omega);rw [e1,e2]; rfl
  ·have e1:decide (ic l.length < 1)=false:=AL (by show ¬ ((l.length:Nat):Int) < 1; omega);have e2:decide (1≤l.length)=true:=AE (by omega);rw [e1,e2];simp only [A9,A8];by_cases h3:l.length≤65536
   ·have e3:decide (ic l.length > 65536)=false:=AL (by show ¬ ((l.length:Nat):Int) > 65536; omega);have e4:decide (l.length≤65536)=true:=AE h3;rw [e3,e4];simp only [A9,A8]
    have:=Na (l.length+1) l _ h3 (fun b2 x14 x15=>Xe (l.length+1) b2 l x14 x15) (fun b2 x14 x15=>Xf (l.length+1) b2 l x14 x15) l.length 0 (l.length+1) (by omega) (by omega)
    rw [B5] at this;exact this
   ·have e3:decide (ic l.length > 65536)=true:=AE (by show ((l.length:Nat):Int) > 65536; omega);have e4:decide (l.length≤65536)=false:=AL h3;rw [e3,e4]; rfl
 ·simp [R.get] at h
theorem zco (l:LI):(ic l.length==0)=l.isEmpty:=by
 cases l with
 | nil=>rfl
 | cons a l=>
  simp only [ic,List.isEmpty_cons,AM];rw [A3];omega
theorem zg5:DY PR B0 62 bJ:=by
 refine D7 [(106,bN)] [] bJ [[.bool]] Tryz.func62 zaq ⟨zg9,trivial⟩ ?_;intro vs r hwf h;unfold bJ at h;split at h
 ·rename_i k p a b c d t s;refine ⟨0,?_⟩;rw [← h];refine (zdb 0 k p a b c d t s).trans ?_;simp only [R.get_ok,zco];unfold Vd.right Vd.bare;simp only [nR,nS,B9];generalize PK p=sp;generalize p.isEmpty=pe;cases decide (s < 0) <;> cases decide (65536 < s) <;> simp only [BH,A9,A2,A6,A8,BM]
  by_cases k1:k=1
  ·subst k1;cases a==0 <;> cases b==0 <;> cases c==0 <;> cases d==0 <;> cases t==0 <;> cases sp <;> cases pe <;> rfl
  by_cases k2:k=2
  ·subst k2;cases a==0 <;> cases b==0 <;> cases c==0 <;> cases d==0 <;> cases t==0 <;> cases sp <;> cases pe <;> rfl
  by_cases k3:k=3
  ·subst k3;cases a==0 <;> cases b==0 <;> cases c==0 <;> cases d==0 <;> cases t==0 <;> cases sp <;> cases pe <;> rfl
  by_cases k4:k=4
  ·subst k4;cases a==0 <;> cases b==0 <;> cases c==0 <;> cases d==0 <;> cases t==0 <;> cases sp <;> cases pe <;> rfl
  simp only [A3.2 k1,A3.2 k2,A3.2 k3,A3.2 k4,A9,BM,Bool.or_false,Bool.cond_self]
 ·simp [R.get] at h
theorem kG:∀ (l:LI) (s:BA),s.size≤(M0 s l).size
 | [],s=>AX _
 | x :: l,s=>by
  simp only [M0];refine C2 ?_ (kG l _);simp only [AY,va0];omega
theorem Cw (N:Nat) (l:LI) (K:Out→St→DP) (hl:l.length≤strMax) (z:DP)
  (hx:∀ s x12 x13,s=M0 s []→K (.exit 0) ⟨[(0,(.ptr 900000 0 0)),(11,(.list false [.z] l)),(12,(.int .i64 x12)),(13,(.int .i64 x13))],[(900000,(some (.bld s)))]⟩=cond (decide (s.size+1≤strMax)) (some (.tup [],[[.bld (s.push (NE 10))]])) none) :
  ∀ (d i n:Nat) (s:BA),i+d=l.length→d < n→(M0 s (l.drop i)).size≤strMax→D0 (TW N) (DL WW [1,0,1,0,0]) ⟨[0,11,12,13],[900000],[]⟩ n ⟨[(0,(.ptr 900000 0 0)),(11,(.list false [.z] l)),(12,(.int .i64 (ic l.length))),(13,(.int .i64 (i:Int)))],[(900000,(some (.bld s)))]⟩ K =
   cond (decide ((M0 s (l.drop i)).size+1≤strMax)) (some (.tup [],[[.bld ((M0 s (l.drop i)).push (NE 10))]])) none
 | 0,i,n+1,s,hd,_,_=>by
  rw [EA,Ls,J5 (by omega),CR (by omega)];simp only [A9,M0];exact hx s _ _ rfl
 | d+1,i,n+1,s,hd,hn,hs=>by
  have hi:i < l.length:=by omega
  unfold strMax at hl;rw [EA,Ls,IK hi,JP,HR (by omega),JB hi];rw [BF hi] at hs ⊢;simp only [M0] at hs ⊢;have e32:NE 32=32:=rfl;rw [e32];have hsz:=kG (l.drop (i+1)) (s.push 32++DQ l[i].toInt);have h1:decide (s.size+1≤strMax)=true:=AE (by
   simp only [AY,va0] at hsz;omega)
  have h2:decide ((s.push 32).size+(DQ l[i].toInt).size≤strMax)=true:=AE (by
   simp only [AY] at hsz;omega)
  rw [h1,h2];simp only [BH,B9];exact Cw N l K (by unfold strMax; omega) z hx d (i+1) n _ (by omega) (by omega) hs
 | 0,_,0,_,_,h,_=>by omega
 | _+1,_,0,_,_,h,_=>by omega
theorem zg6:DY PR B0 63 bK:=by
 refine D7 [(43,OT),(97,YR),(60,T3)] [(2,⟨[0,11,12,13],[900000],[]⟩)] bK [] Tryz.func63 zar ⟨gH,Kf,sU,trivial⟩ ?_;intro vs r hwf h;unfold bK at h;split at h
 ·rename_i s w l;refine ⟨l.length+1,?_⟩;rw [← h];refine (zdc (l.length+1) s w l).trans ?_;simp only [R.get_br,R.get_ok,R.get_no];have hwf:=hwf (by simp [MG,GN]);simp only [TK,RW,wfLs,wfL] at hwf;rw [R.get_br,R.get_ok,R.get_no] at h;cases hc:decide ((GP s w l).size≤strMax) with
  | false=>rw [hc] at h; cases h
  | true=>
   have hle:=A1 hc;unfold GP at hle ⊢;rw [va0] at hle;have h1:=kG l (s++w);have e1:decide (s.size+w.size≤strMax)=true:=AE (by rw [AY] at h1; omega);rw [e1];simp only [BH]
   have:=Cw (l.length+1) l _ hwf.2.2.1.1 none (fun s' x12 x13 _=>Xb (l.length+1) s l x12 x13 s') l.length 0 (l.length+1) (s++w) (by omega) (by omega) (by rw [B5]; omega)
   rw [B5] at this;refine this.trans ?_;rw [AE hle];rfl
 ·simp [R.get] at h
theorem zg7:DY PR B0 105 bL:=by
 refine D7 [(90,Q1)] [] bL [[.z]] Tryz.func105 zas ⟨lB,trivial⟩ ?_;intro vs r hwf h;unfold bL at h;split at h
 ·rename_i l i;refine ⟨0,?_⟩;rw [← h];refine (zdd 0 l i).trans ?_;simp only [R.get_br,R.get_ok,R.get_no];unfold GL;rw [R.get_br,R.get_ok,R.get_no] at h;cases hc:decide (0≤i) with
  | false=>rw [hc] at h; cases h
  | true=>
   have h0:=A1 hc;simp only [BH,A8];have e:decide (i≥ic l.length)=decide (ic l.length≤i):=rfl;rw [e];cases h2:decide (ic l.length≤i) with
   | true=>rfl
   | false=>
    have h3:=BG h2;rw [AE (show i < ic l.length by omega)];rfl
 ·simp [R.get] at h
open Go Go.Proofs
def HB (N:Nat):Env:=D6 [(105,bL),(104,T4),(46,ND)] [(7,⟨[2,4,7],[2,7,51],[⟨.cell 7 1,51,127,true,[.bool,.z,.z]⟩]⟩),(16,⟨[2,6,7,66],[2,7],[]⟩)] 87 N
abbrev VQ (s4:BA) (u01 u02 u03 u04 u05 u06 u07 u08:Int) (u00:Nat) (u09 u0a u0b u0c u0d u0e:Int) (lo51:LI):St:=⟨[(2,(.ptr 2 0 0)),(4,(.str s4)),(7,(.ptr 7 0 0))],[(2,(some (.box [.i u01,.zs,.i u02,.i u03,.i u04,.i u05,.i u06,.i u07]))),(7,(some (.box [.i u08,.row 51 0 u00,.i u09,.i u0a,.i u0b,.i u0c,.i u0d,.i u0e]))),(51,(some (.row true 127 true EE lo51)))]⟩
abbrev TN (l6:LI) (x66 u00 u01 u02 u03 u04 u05 u06 u07 u08 u09 u0a u0b u0c u0d:Int):St:=⟨[(2,(.ptr 2 0 0)),(6,(.list false [.str] l6)),(7,(.ptr 7 0 0)),(66,(.i x66))],[(2,(some (.box [.i u00,.zs,.i u01,.i u02,.i u03,.i u04,.i u05,.i u06]))),(7,(some (.box [.i u07,.zs,.i u08,.i u09,.i u0a,.i u0b,.i u0c,.i u0d])))]⟩
theorem zde (N:Nat) (s:BA):D1 (HB N) H5 [.cell 2 55] [[.z,.list true [.bool,.z,.z],.z,.z,.z,.z,.z,.z]] [.str s]=(cond (decide (AD s < 4294967281)) (cond (decide (AD (cutL s {data:=#[10]}) < 4294967281)&&decide (1≤AD {data:=#[32]})) (cond (decide (0≤0)&&decide (0 < ic (AG (A4 IV.str (D3 (cutL s {data:=#[10]}) {data:=#[32]}))))) (cond (AZ (IV.toStr (AI (A4 IV.str (D3 (cutL s {data:=#[10]}) {data:=#[32]})) (AF 0) default))==AZ {data:=#[104,111,108,100,115]}) (D0 (HB N) (DL H5 [1,1,1,1,0,1,0,1,0,1,0,0]) ⟨[2,4,7],[2,7,51],[⟨(.cell 7 1),51,127,true,EE⟩]⟩ N (VQ (FW s {data:=#[10]}) 0 0 0 0 0 0 0 1 0 0 0 0 0 0 (GL (A4 IV.str (D3 (cutL s {data:=#[10]}) {data:=#[32]})) 1) []) (DS 1 (DS 0 (DT (HB N) (DL H5 [1,1,1,1,1]) (DV (HB N) none [.cell 2 55] [[.z,.list true EE,.z,.z,.z,.z,.z,.z]]))))) (cond (AZ (IV.toStr (AI (A4 IV.str (D3 (cutL s {data:=#[10]}) {data:=#[32]})) (AF 0) default))==AZ {data:=#[102,97,105,108,115]}) (D0 (HB N) (DL H5 [1,1,1,1,0,1,0,1,1,1,0,1,0,1,0,0]) ⟨[2,6,7,66],[2,7],[]⟩ N (TN (A4 IV.str (D3 (cutL s {data:=#[10]}) {data:=#[32]})) 0 0 0 0 0 0 0 0 2 0 0 0 0 0 (GL (A4 IV.str (D3 (cutL s {data:=#[10]}) {data:=#[32]})) 1)) (DS 3 (DT (HB N) (DL H5 [1,1,1,1,0,1,0,1,1,1,0,1,1]) (DS 0 (DT (HB N) (DL H5 [1,1,1,1,1]) (DV (HB N) none [.cell 2 55] [[.z,.list true EE,.z,.z,.z,.z,.z,.z]])))))) (cond (AZ (IV.toStr (AI (A4 IV.str (D3 (cutL s {data:=#[10]}) {data:=#[32]})) (AF 0) default))==AZ {data:=#[117,110,107,110,111,119,110]}) (some ((.agg [.i 3,.list true EE [],.i 0,.i 0,.i 0,.i 0,.i 0,(.i (GL (A4 IV.str (D3 (cutL s {data:=#[10]}) {data:=#[32]})) 1))]),[])) (cond (AZ (IV.toStr (AI (A4 IV.str (D3 (cutL s {data:=#[10]}) {data:=#[32]})) (AF 0) default))==AZ {data:=#[119,114,111,110,103]}) (some ((.agg [.i 4,.list true EE [],.i 0,.i 0,.i 0,.i 0,.i 0,(.i (GL (A4 IV.str (D3 (cutL s {data:=#[10]}) {data:=#[32]})) 1))]),[])) (some ((.agg [.i 0,.list true EE [],.i 0,.i 0,.i 0,.i 0,.i 0,(.i (GL (A4 IV.str (D3 (cutL s {data:=#[10]}) {data:=#[32]})) 1))]),[])))))) none) none) none):=by kernel_rfl
theorem zil (N:Nat) (s4:BA) (u01 u02 u03 u04 u05 u06 u07 u08:Int) (u00:Nat) (u09 u0a u0b u0c u0d u0e:Int) (lo51:LI) (again:St→DP) (k:Out→St→DP):FG (HB N) (DL H5 [1,1,1,1,0,1,0,1,0,1,0,0]) (VQ s4 u01 u02 u03 u04 u05 u06 u07 u08 u00 u09 u0a u0b u0c u0d u0e lo51) (EW again ⟨[2,4,7],[2,7,51],[⟨(.cell 7 1),51,127,true,EE⟩]⟩ k)=(cond (!AZ s4==AZ {data:=#[]}) (cond (decide (ic (u00 - 0)≤65536)) (cond (decide (AD s4 < 4294967281)) (cond (decide (AD (cutL s4 {data:=#[10]}) < 4294967281)&&decide (1≤AD {data:=#[32]})) (cond (decide (0≤0)&&decide (0 < ic (AG (A4 IV.str (D3 (cutL s4 {data:=#[10]}) {data:=#[32]}))))) (cond (AZ (IV.toStr (AI (A4 IV.str (D3 (cutL s4 {data:=#[10]}) {data:=#[32]})) (AF 0) default))==AZ {data:=#[115,117,109]}) (cond (decide ((u00+1)*24≤EG)) (again (VQ (FW s4 {data:=#[10]}) u01 u02 u03 u04 u05 u06 u07 u08 (u00+1) u09 u0a u0b u0c u0d u0e (AK u00 lo51++[IV.agg [IV.bool true,IV.int 0,IV.int 0]]))) none) (cond (decide ((u00+1)*24≤EG)) (again (VQ (FW s4 {data:=#[10]}) u01 u02 u03 u04 u05 u06 u07 u08 (u00+1) u09 u0a u0b u0c u0d u0e (AK u00 lo51++[IV.agg [IV.bool false,IV.int (GL (A4 IV.str (D3 (cutL s4 {data:=#[10]}) {data:=#[32]})) 1),IV.int (GL (A4 IV.str (D3 (cutL s4 {data:=#[10]}) {data:=#[32]})) 2)]]))) none)) none) none) none) (k (.exit 1) (VQ s4 u01 u02 u03 u04 u05 u06 u07 u08 u00 u09 u0a u0b u0c u0d u0e lo51))) (k (.exit 1) (VQ s4 u01 u02 u03 u04 u05 u06 u07 u08 u00 u09 u0a u0b u0c u0d u0e lo51))):=by kernel_rfl
theorem gK (N:Nat) (l6:LI) (x66 u00 u01 u02 u03 u04 u05 u06 u07 u08 u09 u0a u0b u0c u0d:Int) (again:St→DP) (k:Out→St→DP):FG (HB N) (DL H5 [1,1,1,1,0,1,0,1,1,1,0,1,0,1,0,0]) (TN l6 x66 u00 u01 u02 u03 u04 u05 u06 u07 u08 u09 u0a u0b u0c u0d) (EW again ⟨[2,6,7,66],[2,7],[]⟩ k)=(cond (decide (x66 < 4)) (cond (decide (0≤AA AB (2+x66))) (cond (decide (x66=ic 0)) (again (TN l6 (AA AB (x66+1)) u00 u01 u02 u03 u04 u05 u06 u07 (GL l6 (AA AB (2+x66))) u09 u0a u0b u0c u0d)) (cond (decide (x66=ic 1)) (again (TN l6 (AA AB (x66+1)) u00 u01 u02 u03 u04 u05 u06 u07 u08 (GL l6 (AA AB (2+x66))) u0a u0b u0c u0d)) (cond (decide (x66=ic 2)) (again (TN l6 (AA AB (x66+1)) u00 u01 u02 u03 u04 u05 u06 u07 u08 u09 (GL l6 (AA AB (2+x66))) u0b u0c u0d)) (cond (decide (x66=ic 3)) (again (TN l6 (AA AB (x66+1)) u00 u01 u02 u03 u04 u05 u06 u07 u08 u09 u0a (GL l6 (AA AB (2+x66))) u0c u0d)) none)))) none) (k (.exit 3) (TN l6 x66 u00 u01 u02 u03 u04 u05 u06 u07 u08 u09 u0a u0b u0c u0d))):=by kernel_rfl
theorem Xc (N:Nat) (s4:BA) (u01 u02 u03 u04 u05 u06 u07 u08:Int) (u00:Nat) (u09 u0a u0b u0c u0d u0e:Int) (lo51:LI):(DS 1 (DS 0 (DT (HB N) (DL H5 [1,1,1,1,1]) (DV (HB N) none [.cell 2 55] [[.z,.list true EE,.z,.z,.z,.z,.z,.z]])))) (.exit 1) (VQ s4 u01 u02 u03 u04 u05 u06 u07 u08 u00 u09 u0a u0b u0c u0d u0e lo51)=(some ((.agg [.i u08,.list true EE (AT 0 (AK u00 lo51)),.i u09,.i u0a,.i u0b,.i u0c,.i u0d,.i u0e]),[])):=by kernel_rfl
theorem Xd (N:Nat) (l6:LI) (x66 u00 u01 u02 u03 u04 u05 u06 u07 u08 u09 u0a u0b u0c u0d:Int):(DS 3 (DT (HB N) (DL H5 [1,1,1,1,0,1,0,1,1,1,0,1,1]) (DS 0 (DT (HB N) (DL H5 [1,1,1,1,1]) (DV (HB N) none [.cell 2 55] [[.z,.list true EE,.z,.z,.z,.z,.z,.z]]))))) (.exit 3) (TN l6 x66 u00 u01 u02 u03 u04 u05 u06 u07 u08 u09 u0a u0b u0c u0d)=(some ((.agg [.i u07,.list true EE [],.i u08,.i u09,.i u0a,.i u0b,.i (GL l6 6),.i u0d]),[])):=by kernel_rfl
def TV (N:Nat):Env:=D6 [(62,bJ),(63,bK),(56,T2)] [(9,⟨[2,3,25,26,27],[3],[]⟩)] 61 N
abbrev YJ (s2:BA) (l25:LI) (x26 x27:Int) (so3:BA):St:=⟨[(2,(.str s2)),(3,(.ptr 3 0 0)),(25,(.list true EE l25)),(26,(.i x26)),(27,(.i x27))],[(3,(some (.bld so3)))]⟩
theorem zda (N:Nat) (v:Vd):D1 (TV N) WV [.tmp 2] [[.str]] [(Vd.V v)]=(cond (!Vd.right v) (some ((.str ({data:=#[]})),[])) (cond (Vd.kind v==1) (cond (decide (AD (GP CJ {data:=#[104,111,108,100,115]} [IV.int (Vd.spent v),IV.int (ic (AG (Vd.proof v)))])≤strMax)) (D0 (TV N) (DL WV [1,1,1,0,1,0,1,0,1,1,0,0]) ⟨[2,3,25,26,27],[3],[]⟩ N (YJ ({data:=#[]}) (Vd.proof v) (ic (AG (Vd.proof v))) 0 (GP CJ {data:=#[104,111,108,100,115]} [IV.int (Vd.spent v),IV.int (ic (AG (Vd.proof v)))])) (DS 1 (DS 0 (DT (TV N) (DL WV [1,1,1,1]) (DV (TV N) none [.tmp 2] [[.str]]))))) none) (cond (Vd.kind v==2) (cond (decide (AD (GP CJ {data:=#[102,97,105,108,115]} (AT 0 (AK (1+4+1) (AK (1+4) (AK 1 [IV.int (Vd.spent v)]++[IV.int (Vd.w0 v),IV.int (Vd.w1 v),IV.int (Vd.w2 v),IV.int (Vd.w3 v)])++[IV.int (Vd.twin v)]))))≤strMax)) (some ((.str (GP CJ {data:=#[102,97,105,108,115]} (AT 0 (AK (1+4+1) (AK (1+4) (AK 1 [IV.int (Vd.spent v)]++[IV.int (Vd.w0 v),IV.int (Vd.w1 v),IV.int (Vd.w2 v),IV.int (Vd.w3 v)])++[IV.int (Vd.twin v)]))))),[])) none) (cond (Vd.kind v==3) (cond (decide (AD (GP CJ {data:=#[117,110,107,110,111,119,110]} [IV.int (Vd.spent v)])≤strMax)) (some ((.str (GP CJ {data:=#[117,110,107,110,111,119,110]} [IV.int (Vd.spent v)])),[])) none) (cond (decide (AD (GP CJ {data:=#[119,114,111,110,103]} [IV.int (Vd.spent v)])≤strMax)) (some ((.str (GP CJ {data:=#[119,114,111,110,103]} [IV.int (Vd.spent v)])),[])) none))))):=by kernel_rfl
theorem Lr (N:Nat) (s2:BA) (l25:LI) (x26 x27:Int) (so3:BA) (again:St→DP) (k:Out→St→DP):FG (TV N) (DL WV [1,1,1,0,1,0,1,0,1,1,0,0]) (YJ s2 l25 x26 x27 so3) (EW again ⟨[2,3,25,26,27],[3],[]⟩ k)=(cond (decide (x27 < x26)) (cond (decide (0≤x27)&&decide (x27 < ic (AG l25))) (cond (IV.toBool (IV.cell (AI l25 (AF x27) default) 0)) (cond (decide (AD (GP so3 {data:=#[115,117,109]} [])≤strMax)) (again (YJ s2 l25 x26 (AA AB (x27+1)) (GP so3 {data:=#[115,117,109]} []))) none) (cond (decide (AD (GP so3 {data:=#[99,117,116]} [IV.int (IV.toInt (IV.cell (AI l25 (AF x27) default) 1)),IV.int (IV.toInt (IV.cell (AI l25 (AF x27) default) 2))])≤strMax)) (again (YJ s2 l25 x26 (AA AB (x27+1)) (GP so3 {data:=#[99,117,116]} [IV.int (IV.toInt (IV.cell (AI l25 (AF x27) default) 1)),IV.int (IV.toInt (IV.cell (AI l25 (AF x27) default) 2))]))) none)) none) (k (.exit 1) (YJ s2 l25 x26 x27 so3))):=by kernel_rfl
theorem Xa (N:Nat) (s2:BA) (l25:LI) (x26 x27:Int) (so3:BA):(DS 1 (DS 0 (DT (TV N) (DL WV [1,1,1,1]) (DV (TV N) none [.tmp 2] [[.str]])))) (.exit 1) (YJ s2 l25 x26 x27 so3)=(some ((.str so3),[])):=by kernel_rfl
def Qa (N:Nat):Env:=D6 [(24,SC),(61,bM)] [] 17 N
theorem zc9 (N:Nat) (s:BA):D1 (Qa N) wO [.cell 2 55,.tmp 3] [[.z,.list true [.bool,.z,.z],.z,.z,.z,.z,.z,.z],[.bool]] [.str s]=(cond (decide (AD s < 4294967281)) (cond (AZ s==AZ {data:=#[]}) (some ((.tup [.agg [.i 0,.list true EE [],.i 0,.i 0,.i 0,.i 0,.i 0,.i 0],.bool false]),[])) (cond (decide (AD (EI (II s))≤strMax)) (cond (!AZ (EI (II s))==AZ s) (some ((.tup [.agg [.i 0,.list true EE [],.i 0,.i 0,.i 0,.i 0,.i 0,.i 0],.bool false]),[])) (some ((.tup [(Vd.V (II s)),.bool true]),[]))) none)) none):=by kernel_rfl
open Go Go.Proofs
theorem zid (s sep:BA) (h:1≤sep.size):0 < ((D3 s sep).map IV.str).length:=by
 rw [BK];unfold D3;rw [Lib.splitB_all sep h 0 _ s rfl];omega
theorem s9 (s:BA):decide (0 < ic (AG (A4 IV.str (D3 s VL))))=true:=AE (by
 have:=zid s VL (by decide)
 simp only [ic];omega)
theorem zJ {s sep:BA} (h:s.size < 4294967281):decide (AD (cutL s sep) < 4294967281)=true:=AE (by
 have:=(iW s sep).1
 omega)
theorem Vm {s:BA} (h:(s.toList==D8.toList)=false):(FW s ES).size < s.size:=by
 have h0:0 < s.size:=by
  rcases Nat.eq_zero_or_pos s.size with e | e
  ·exfalso
   have:s=D8:=ByteArray.ext (Array.eq_empty_of_size_eq_zero e)
   rw [this] at h;simp at h
  ·exact e
 have h0:0 < s.data.toList.length:=h0;show (vaN s.data.toList ES.data.toList).2.1.toArray.size < s.data.toList.length;rw [C7];unfold vaN;split
 ·have e1:(ES.data.toList).length=1:=rfl;rw [CY,e1];omega
 ·exact h0
theorem zV:decide (1≤AD VL)=true:=rfl
theorem Hh (N:Nat) (a0 a2 a3 a4 a5 a6 a7 b0 b2 b3 b4 b5 b6 b7:Int) (K:Out→St→DP)
  (hx:∀ s (p:LI),K (.exit 1) ⟨[(2,(.ptr 2 0 0)),(4,(.str s)),(7,(.ptr 7 0 0))],[(2,(some (.box [(.int .i64 a0),.zs,(.int .i64 a2),(.int .i64 a3),(.int .i64 a4),(.int .i64 a5),(.int .i64 a6),(.int .i64 a7)]))),(7,(some (.box [(.int .i64 b0),(.row 51 0 p.length),(.int .i64 b2),(.int .i64 b3),(.int .i64 b4),(.int .i64 b5),(.int .i64 b6),(.int .i64 b7)]))),(51,(some (.row true 127 true EE p)))]⟩=some ((.agg [(.int .i64 b0),(.list true EE (AT 0 (AK p.length p))),(.int .i64 b2),(.int .i64 b3),(.int .i64 b4),(.int .i64 b5),(.int .i64 b6),(.int .i64 b7)]),[])) :
  ∀ (m n:Nat) (s:BA) (p:LI),s.size < m→m≤n→s.size < 4294967281 →
   D0 (HB N) (DL H5 [1,1,1,1,0,1,0,1,0,1,0,0]) ⟨[2,4,7],[2,7,51],[⟨(.cell 7 1),51,127,true,EE⟩]⟩ n ⟨[(2,(.ptr 2 0 0)),(4,(.str s)),(7,(.ptr 7 0 0))],[(2,(some (.box [(.int .i64 a0),.zs,(.int .i64 a2),(.int .i64 a3),(.int .i64 a4),(.int .i64 a5),(.int .i64 a6),(.int .i64 a7)]))),(7,(some (.box [(.int .i64 b0),(.row 51 0 p.length),(.int .i64 b2),(.int .i64 b3),(.int .i64 b4),(.int .i64 b5),(.int .i64 b6),(.int .i64 b7)]))),(51,(some (.row true 127 true EE p)))]⟩ K =
   some ((.agg [(.int .i64 b0),(.list true EE (S6 m s p)),(.int .i64 b2),(.int .i64 b3),(.int .i64 b4),(.int .i64 b5),(.int .i64 b6),(.int .i64 b7)]),[])
 | m+1,n+1,s,p,hm,hn,hs=>by
  rw [EA,zil];have ep:AT 0 (AK p.length p)=p:=by rw [B5,BR]
  have e65:decide (ic (p.length - 0)≤65536)=decide (p.length≤65536):=by
   rw [vaZ];simp only [AQ,ic];omega
  unfold S6;rw [e65];cases h1:(s.toList==D8.toList) with
  | true=>
   simp only [A2,DK,BM];refine (hx s p).trans ?_;rw [ep]
  | false=>
   simp only [A6,DJ,A8];cases h2:decide (p.length≤65536) with
   | false=>
    simp only [DK];refine (hx s p).trans ?_;rw [ep]
   | true=>
    have h2:=A1 h2;simp only [DJ];have hlt:=Vm h1;rw [AE hs,zJ hs,zV,s9];simp only [AX,decide_true,B9,DJ];rw [AE (show (p.length+1)*24≤EG by unfold EG; omega)];simp only [DJ];have el:∀ x:IV,p.length+1=(p++[x]).length:=fun x=>by
     rw [AS]; rfl
    have ih:=fun x:IV=>Hh N a0 a2 a3 a4 a5 a6 a7 b0 b2 b3 b4 b5 b6 b7 K hx m n (FW s ES) (p++[x]) (by omega) (by omega) (by omega)
    unfold Z1 MM;have ez:AF 0=0:=rfl;rw [ez];unfold ID;cases h3:(AZ (IV.toStr (AI (A4 IV.str (D3 (cutL s ES) VL)) 0 default))==AZ RV) with
    | true=>
     simp only [DJ];rw [BR,el];exact ih _
    | false=>
     simp only [DK];rw [BR,el];exact ih _
 | 0,_,_,_,h,_,_=>by omega
 | _+1,0,_,_,_,h,_=>by omega
theorem VJ {a b c:Int} (h:AA .i64 (a+b)=c):AA .i64 (a+b)=c:=h
theorem zf5 (N n:Nat) (l:LI) (x w0 w1 w2 w3:Int) (K:Out→St→DP):D0 (HB N) (DL H5 [1,1,1,1,0,1,0,1,1,1,0,1,0,1,0,0]) ⟨[2,6,7,66],[2,7],[]⟩ (n+1) ⟨[(2,(.ptr 2 0 0)),(6,(.list false [.str] l)),(7,(.ptr 7 0 0)),(66,(.int .i64 0))],[(2,(some (.box [(.int .i64 0),.zs,(.int .i64 0),(.int .i64 0),(.int .i64 0),(.int .i64 0),(.int .i64 0),(.int .i64 0)]))),(7,(some (.box [(.int .i64 2),.zs,(.int .i64 w0),(.int .i64 w1),(.int .i64 w2),(.int .i64 w3),(.int .i64 0),(.int .i64 x)])))]⟩ K =
  D0 (HB N) (DL H5 [1,1,1,1,0,1,0,1,1,1,0,1,0,1,0,0]) ⟨[2,6,7,66],[2,7],[]⟩ n ⟨[(2,(.ptr 2 0 0)),(6,(.list false [.str] l)),(7,(.ptr 7 0 0)),(66,(.int .i64 1))],[(2,(some (.box [(.int .i64 0),.zs,(.int .i64 0),(.int .i64 0),(.int .i64 0),(.int .i64 0),(.int .i64 0),(.int .i64 0)]))),(7,(some (.box [(.int .i64 2),.zs,(.int .i64 (GL l 2)),(.int .i64 w1),(.int .i64 w2),(.int .i64 w3),(.int .i64 0),(.int .i64 x)])))]⟩ K:=by
 rw [EA,gK,VJ (a:=2) (b:=0) (c:=2) rfl,VJ (a:=0) (b:=1) (c:=1) rfl];simp only [show decide ((0:Int) < 4)=true from rfl,show decide ((0:Int)≤2)=true from rfl,show decide ((0:Int)=ic 0)=true from rfl,DJ]
theorem zf6 (N n:Nat) (l:LI) (x w0 w1 w2 w3:Int) (K:Out→St→DP):D0 (HB N) (DL H5 [1,1,1,1,0,1,0,1,1,1,0,1,0,1,0,0]) ⟨[2,6,7,66],[2,7],[]⟩ (n+1) ⟨[(2,(.ptr 2 0 0)),(6,(.list false [.str] l)),(7,(.ptr 7 0 0)),(66,(.int .i64 1))],[(2,(some (.box [(.int .i64 0),.zs,(.int .i64 0),(.int .i64 0),(.int .i64 0),(.int .i64 0),(.int .i64 0),(.int .i64 0)]))),(7,(some (.box [(.int .i64 2),.zs,(.int .i64 w0),(.int .i64 w1),(.int .i64 w2),(.int .i64 w3),(.int .i64 0),(.int .i64 x)])))]⟩ K =
  D0 (HB N) (DL H5 [1,1,1,1,0,1,0,1,1,1,0,1,0,1,0,0]) ⟨[2,6,7,66],[2,7],[]⟩ n ⟨[(2,(.ptr 2 0 0)),(6,(.list false [.str] l)),(7,(.ptr 7 0 0)),(66,(.int .i64 2))],[(2,(some (.box [(.int .i64 0),.zs,(.int .i64 0),(.int .i64 0),(.int .i64 0),(.int .i64 0),(.int .i64 0),(.int .i64 0)]))),(7,(some (.box [(.int .i64 2),.zs,(.int .i64 w0),(.int .i64 (GL l 3)),(.int .i64 w2),(.int .i64 w3),(.int .i64 0),(.int .i64 x)])))]⟩ K:=by
 rw [EA,gK,VJ (a:=2) (b:=1) (c:=3) rfl,VJ (a:=1) (b:=1) (c:=2) rfl];simp only [show decide ((1:Int) < 4)=true from rfl,show decide ((0:Int)≤3)=true from rfl,show decide ((1:Int)=ic 0)=false from rfl,show decide ((1:Int)=ic 1)=true from rfl,DJ,DK]
theorem zf7 (N n:Nat) (l:LI) (x w0 w1 w2 w3:Int) (K:Out→St→DP):D0 (HB N) (DL H5 [1,1,1,1,0,1,0,1,1,1,0,1,0,1,0,0]) ⟨[2,6,7,66],[2,7],[]⟩ (n+1) ⟨[(2,(.ptr 2 0 0)),(6,(.list false [.str] l)),(7,(.ptr 7 0 0)),(66,(.int .i64 2))],[(2,(some (.box [(.int .i64 0),.zs,(.int .i64 0),(.int .i64 0),(.int .i64 0),(.int .i64 0),(.int .i64 0),(.int .i64 0)]))),(7,(some (.box [(.int .i64 2),.zs,(.int .i64 w0),(.int .i64 w1),(.int .i64 w2),(.int .i64 w3),(.int .i64 0),(.int .i64 x)])))]⟩ K =
  D0 (HB N) (DL H5 [1,1,1,1,0,1,0,1,1,1,0,1,0,1,0,0]) ⟨[2,6,7,66],[2,7],[]⟩ n ⟨[(2,(.ptr 2 0 0)),(6,(.list false [.str] l)),(7,(.ptr 7 0 0)),(66,(.int .i64 3))],[(2,(some (.box [(.int .i64 0),.zs,(.int .i64 0),(.int .i64 0),(.int .i64 0),(.int .i64 0),(.int .i64 0),(.int .i64 0)]))),(7,(some (.box [(.int .i64 2),.zs,(.int .i64 w0),(.int .i64 w1),(.int .i64 (GL l 4)),(.int .i64 w3),(.int .i64 0),(.int .i64 x)])))]⟩ K:=by
 rw [EA,gK,VJ (a:=2) (b:=2) (c:=4) rfl,VJ (a:=2) (b:=1) (c:=3) rfl];simp only [show decide ((2:Int) < 4)=true from rfl,show decide ((0:Int)≤4)=true from rfl,show decide ((2:Int)=ic 0)=false from rfl,show decide ((2:Int)=ic 1)=false from rfl,show decide ((2:Int)=ic 2)=true from rfl,DJ,DK]
theorem zf8 (N n:Nat) (l:LI) (x w0 w1 w2 w3:Int) (K:Out→St→DP):D0 (HB N) (DL H5 [1,1,1,1,0,1,0,1,1,1,0,1,0,1,0,0]) ⟨[2,6,7,66],[2,7],[]⟩ (n+1) ⟨[(2,(.ptr 2 0 0)),(6,(.list false [.str] l)),(7,(.ptr 7 0 0)),(66,(.int .i64 3))],[(2,(some (.box [(.int .i64 0),.zs,(.int .i64 0),(.int .i64 0),(.int .i64 0),(.int .i64 0),(.int .i64 0),(.int .i64 0)]))),(7,(some (.box [(.int .i64 2),.zs,(.int .i64 w0),(.int .i64 w1),(.int .i64 w2),(.int .i64 w3),(.int .i64 0),(.int .i64 x)])))]⟩ K =
  D0 (HB N) (DL H5 [1,1,1,1,0,1,0,1,1,1,0,1,0,1,0,0]) ⟨[2,6,7,66],[2,7],[]⟩ n ⟨[(2,(.ptr 2 0 0)),(6,(.list false [.str] l)),(7,(.ptr 7 0 0)),(66,(.int .i64 4))],[(2,(some (.box [(.int .i64 0),.zs,(.int .i64 0),(.int .i64 0),(.int .i64 0),(.int .i64 0),(.int .i64 0),(.int .i64 0)]))),(7,(some (.box [(.int .i64 2),.zs,(.int .i64 w0),(.int .i64 w1),(.int .i64 w2),(.int .i64 (GL l 5)),(.int .i64 0),(.int .i64 x)])))]⟩ K:=by
 rw [EA,gK,VJ (a:=2) (b:=3) (c:=5) rfl,VJ (a:=3) (b:=1) (c:=4) rfl];simp only [show decide ((3:Int) < 4)=true from rfl,show decide ((0:Int)≤5)=true from rfl,show decide ((3:Int)=ic 0)=false from rfl,show decide ((3:Int)=ic 1)=false from rfl,show decide ((3:Int)=ic 2)=false from rfl,show decide ((3:Int)=ic 3)=true from rfl,DJ,DK]
theorem zf9 (N n:Nat) (l:LI) (x w0 w1 w2 w3:Int):D0 (HB N) (DL H5 [1,1,1,1,0,1,0,1,1,1,0,1,0,1,0,0]) ⟨[2,6,7,66],[2,7],[]⟩ (n+1) ⟨[(2,(.ptr 2 0 0)),(6,(.list false [.str] l)),(7,(.ptr 7 0 0)),(66,(.int .i64 4))],[(2,(some (.box [(.int .i64 0),.zs,(.int .i64 0),(.int .i64 0),(.int .i64 0),(.int .i64 0),(.int .i64 0),(.int .i64 0)]))),(7,(some (.box [(.int .i64 2),.zs,(.int .i64 w0),(.int .i64 w1),(.int .i64 w2),(.int .i64 w3),(.int .i64 0),(.int .i64 x)])))]⟩ (DS 3 (DT (HB N) (DL H5 [1,1,1,1,0,1,0,1,1,1,0,1,1]) (DS 0 (DT (HB N) (DL H5 [1,1,1,1,1]) (DV (HB N) none [(va5 2 55)] [[.z,(.list true EE),.z,.z,.z,.z,.z,.z]]))))) =
  some ((.agg [(.int .i64 2),(.list true EE []),(.int .i64 w0),(.int .i64 w1),(.int .i64 w2),(.int .i64 w3),(.int .i64 (GL l 6)),(.int .i64 x)]),[]):=by
 rw [EA,gK];simp only [show decide ((4:Int) < 4)=false from rfl,DK];exact Xd N _ _ _ _ _ _ _ _ _ _ _ _ _ _ _ _
theorem zga (N n:Nat) (l:LI) (x:Int):D0 (HB N) (DL H5 [1,1,1,1,0,1,0,1,1,1,0,1,0,1,0,0]) ⟨[2,6,7,66],[2,7],[]⟩ (n+1+1+1+1+1) ⟨[(2,(.ptr 2 0 0)),(6,(.list false [.str] l)),(7,(.ptr 7 0 0)),(66,(.int .i64 0))],[(2,(some (.box [(.int .i64 0),.zs,(.int .i64 0),(.int .i64 0),(.int .i64 0),(.int .i64 0),(.int .i64 0),(.int .i64 0)]))),(7,(some (.box [(.int .i64 2),.zs,(.int .i64 0),(.int .i64 0),(.int .i64 0),(.int .i64 0),(.int .i64 0),(.int .i64 x)])))]⟩ (DS 3 (DT (HB N) (DL H5 [1,1,1,1,0,1,0,1,1,1,0,1,1]) (DS 0 (DT (HB N) (DL H5 [1,1,1,1,1]) (DV (HB N) none [(va5 2 55)] [[.z,(.list true EE),.z,.z,.z,.z,.z,.z]]))))) =
  some ((.agg [(.int .i64 2),(.list true EE []),(.int .i64 (GL l 2)),(.int .i64 (GL l 3)),(.int .i64 (GL l 4)),(.int .i64 (GL l 5)),(.int .i64 (GL l 6)),(.int .i64 x)]),[]):=
 (zf5 N (n+1+1+1+1) l x 0 0 0 0 _).trans ((zf6 N (n+1+1+1) l x _ 0 0 0 _).trans ((zf7 N (n+1+1) l x _ _ 0 0 _).trans ((zf8 N (n+1) l x _ _ _ 0 _).trans (zf9 N n l x _ _ _ _))))
theorem zg8:DY PR B0 61 bM:=by
 refine D7 [(105,bL),(104,T4),(46,ND)] [(7,⟨[2,4,7],[2,7,51],[⟨.cell 7 1,51,127,true,[.bool,.z,.z]⟩]⟩),(16,⟨[2,6,7,66],[2,7],[]⟩)] bM [[.z,.list true [.bool,.z,.z],.z,.z,.z,.z,.z,.z]] Tryz.func61 zat ⟨zg7,sV,aC,trivial⟩ ?_;intro vs r hwf h;unfold bM at h;split at h
 ·rename_i s;refine ⟨s.size+1+1+1+1+1+1,?_⟩;rw [← h];refine (zde (s.size+1+1+1+1+1+1) s).trans ?_;simp only [R.get_br,R.get_ok,R.get_no];cases hs:decide (s.size < 4294967281) with
  | false=>rfl
  | true=>
   have hs:=A1 hs;simp only [DJ];rw [zJ hs,zV,s9];simp only [AX,decide_true,B9,DJ];have ez:AF 0=0:=rfl;rw [ez];unfold II MM ID;have hlt:=(iW s ES).2;generalize A4 IV.str (D3 (cutL s ES) VL)=l;generalize (AZ (IV.toStr (AI l 0 default))==AZ IZ)=q1;generalize (AZ (IV.toStr (AI l 0 default))==AZ QL)=q2;generalize (AZ (IV.toStr (AI l 0 default))==AZ QM)=q3;generalize (AZ (IV.toStr (AI l 0 default))==AZ QN)=q4;cases q1
   ·cases q2
    ·cases q3
     ·cases q4 <;> simp only [DJ,DK]
     ·simp only [DJ,DK]
    ·simp only [DJ,DK];exact zga _ (s.size+1) _ _
   ·simp only [DJ];exact Hh _ _ _ _ _ _ _ _ _ _ _ _ _ _ _ _ (fun s' p=>Xc _ s' _ _ _ _ _ _ _ _ _ _ _ _ _ _ _ p) ((FW s ES).size+1) _ (FW s ES) [] (by omega) (by omega) (by omega)
 ·simp [R.get] at h
theorem Ct (s w:BA) (l:LI):s.size≤(GP s w l).size:=by
 unfold GP
 have:=kG l (s++w)
 rw [AY] at this;rw [va0];omega
theorem rB:∀ (l:LI) (s:BA),s.size≤(K4 s l).size
 | [],s=>AX _
 | x :: l,s=>by
  unfold K4;refine C2 ?_ (rB l _);cases G3 x
  ·exact Ct _ _ _
  ·exact Ct _ _ _
theorem Gm (N:Nat) (l:LI) (t:BA) (K:Out→St→DP) (hl:l.length≤65536)
  (hx:∀ s x26 x27,K (.exit 1) ⟨[(2,(.str t)),(3,(.ptr 3 0 0)),(25,(.list true EE l)),(26,(.int .i64 x26)),(27,(.int .i64 x27))],[(3,(some (.bld s)))]⟩=some (.str s,[])) :
  ∀ (d i n:Nat) (s:BA),i+d=l.length→d < n→(K4 s (l.drop i)).size≤strMax →
   D0 (TV N) (DL WV [1,1,1,0,1,0,1,0,1,1,0,0]) ⟨[2,3,25,26,27],[3],[]⟩ n ⟨[(2,(.str t)),(3,(.ptr 3 0 0)),(25,(.list true EE l)),(26,(.int .i64 (ic l.length))),(27,(.int .i64 (i:Int)))],[(3,(some (.bld s)))]⟩ K=some (.str (K4 s (l.drop i)),[])
 | 0,i,n+1,s,hd,_,_=>by
  rw [EA,Lr,J5 (by omega),CR (l:=l) (i:=i) (by omega)];simp only [DK,K4];exact hx s _ _
 | d+1,i,n+1,s,hd,hn,hs=>by
  have hi:i < l.length:=by omega
  rw [EA,Lr,IK hi,JP,HR (by omega),JB hi];rw [BF hi] at hs ⊢;simp only [K4] at hs ⊢;simp only [DJ,B9];have hsz:=rB (l.drop (i+1)) (cond (G3 l[i]) (GP s RV []) (GP s YB [.int (FC l[i]),.int (FV l[i])]));have ih:=fun s' h'=>Gm N l t K hl hx d (i+1) n s' (by omega) (by omega) h'
  have es:(l[i].cell 0).toBool=G3 l[i]:=rfl;rw [es];cases hc:G3 l[i] with
  | true=>
   rw [hc] at hsz hs;simp only [DJ] at hsz hs ⊢;rw [AE (show (GP s RV []).size≤strMax by omega)];simp only [DJ];exact ih _ hs
  | false=>
   rw [hc] at hsz hs;simp only [DK] at hsz hs ⊢;have e2:[IV.int (IV.toInt (IV.cell l[i] 1)),IV.int (IV.toInt (IV.cell l[i] 2))]=[.int (FC l[i]),.int (FV l[i])]:=rfl;rw [e2,AE (show (GP s YB [.int (FC l[i]),.int (FV l[i])]).size≤strMax by omega)];simp only [DJ];exact ih _ hs
 | 0,_,0,_,_,h,_=>by omega
 | _+1,_,0,_,_,h,_=>by omega
theorem zgl {v:Vd} (h:v.right=true):v.proof.length≤65536:=by
 unfold Vd.right at h;simp only [AH,vao] at h;rcases h.2.2 with h1 | h1 | h1
 ·have:=h1.2.2
  unfold PK at this;simp only [AH,AQ] at this;exact this.2.1
 ·have:=h1.2
  cases hp:v.proof with
  | nil=>simp
  | cons a b=>rw [hp] at this; cases this
 ·have:=h1.2.2
  cases hp:v.proof with
  | nil=>simp
  | cons a b=>rw [hp] at this; cases this
theorem sP:DY PR B0 24 SC:=by
 refine D7 [(62,bJ),(63,bK),(56,T2)] [(9,⟨[2,3,25,26,27],[3],[]⟩)] SC [[.str]] Tryz.func24 zap ⟨zg5,zg6,sT,trivial⟩ ?_;intro vs r hwf h;unfold SC at h;split at h
 ·rename_i k p a b c d t s;obtain ⟨v,hv⟩:∃ v:Vd,v=⟨k,p,a,b,c,d,t,s⟩:=⟨_,rfl⟩;refine ⟨v.proof.length+1,?_⟩;rw [← h];rw [← hv] at h ⊢;have hn:=zda (v.proof.length+1) v;rw [show Vd.V v = .agg [.int .i64 k,.list true [.bool,.z,.z] p,.int .i64 a,.int .i64 b,.int .i64 c,.int .i64 d,.int .i64 t,.int .i64 s] by rw [hv]; rfl] at hn;refine hn.trans ?_;clear hn;rw [R.get_br,R.get_ok,R.get_no] at h;simp only [R.get_br,R.get_ok,R.get_no];cases hc:decide ((EI v).size≤strMax) with
  | false=>rw [hc] at h; cases h
  | true=>
   have hle:=A1 hc;simp only [DJ];unfold EI at hle ⊢;cases hr:Vd.right v with
   | false=>rfl
   | true=>
    rw [hr] at hle;simp only [A2,DJ,DK] at hle ⊢;have e0:CJ=D8:=rfl;simp only [e0];cases k1:v.kind==1 with
    | true=>
     rw [k1] at hle;simp only [DJ] at hle ⊢;have h1:=rB v.proof (GP D8 IZ [.int v.spent,.int (ic v.proof.length)]);rw [AE (show (GP D8 IZ [.int v.spent,.int (ic v.proof.length)]).size≤strMax by omega)];simp only [DJ]
     have:=Gm (v.proof.length+1) v.proof D8 _ (zgl hr) (fun s' x26 x27=>Xa (v.proof.length+1) D8 v.proof x26 x27 s') v.proof.length 0 (v.proof.length+1) (GP D8 IZ [.int v.spent,.int (ic v.proof.length)]) (by omega) (by omega) (by rw [B5]; exact hle)
     rw [B5] at this;exact this
    | false=>
     rw [k1] at hle;simp only [DK] at hle ⊢;cases k2:v.kind==2 with
     | true=>
      rw [k2] at hle;simp only [DJ] at hle ⊢;have ew:(AT 0 (AK (1+4+1) (AK (1+4) (AK 1 [IV.int (Vd.spent v)]++[IV.int (Vd.w0 v),IV.int (Vd.w1 v),IV.int (Vd.w2 v),IV.int (Vd.w3 v)])++[IV.int (Vd.twin v)])))=[.int v.spent,.int v.w0,.int v.w1,.int v.w2,.int v.w3,.int v.twin]:=rfl;rw [ew,AE hle];rfl
     | false=>
      rw [k2] at hle;simp only [DK] at hle ⊢;cases k3:v.kind==3 with
      | true=>
       rw [k3] at hle;simp only [DJ] at hle ⊢;rw [AE hle];rfl
      | false=>
       rw [k3] at hle;simp only [DK] at hle ⊢;rw [AE hle];rfl
 ·simp [R.get] at h
theorem zg4:DY PR B0 23 bI:=by
 refine D7 [(24,SC),(61,bM)] [] bI [[.z,.list true [.bool,.z,.z],.z,.z,.z,.z,.z,.z],[.bool]] Tryz.func23 zao ⟨sP,zg8,trivial⟩ ?_;intro vs r hwf h;unfold bI at h;split at h
 ·rename_i s;refine ⟨0,?_⟩;rw [← h];refine (zc9 0 s).trans ?_;simp only [R.get_br,R.get_ok,R.get_no] at h ⊢;cases h1:decide (s.size < 4294967281) with
  | false=>rfl
  | true=>
   rw [h1] at h;simp only [DJ] at h ⊢;cases h2:decide ((EI (II s)).size≤strMax) with
   | false=>rw [h2] at h; cases h
   | true=>
    simp only [DJ];unfold JS U3;cases h3:(s.toList==D8.toList) with
    | true=>rfl
    | false=>
     cases h4:((EI (II s)).toList==s.toList) with
     | true=>rfl
     | false=>rfl
 ·simp [R.get] at h
open Go
abbrev YD:BA:=⟨#[113,117,101,114,121,32]⟩
abbrev uF:BA:=⟨#[109,111,100,101,108,10]⟩
def EK (s:BA):LI:=cond (s.toList==D8.toList) [] ((D3 (F1 s ES) ES).map IV.str)
def SF:DW
 | [.str s]=>.br (decide (s.size < 4294967281)) (.ok (.list false [.str] (EK s)) []) .no
 | _=>.no
def QO:Vd:=⟨4,[],0,0,0,0,0,0⟩
def LY (m:Md) (l:BA):Bool:=KW l&&(JK l==m.d&&FB m (ET l))
def WS (m:Md) (q:Qy):Vd:=cond ((FN m q).kind==3||J8 m q (FN m q)) (FN m q) QO
def I6 (m:Md) (l:BA):Vd:=cond (LY m l) (WS m (ET l)) QO
def WC:DW
 | [m,.str l]=>JI m fun m=>.br (decide (l.size < 4294967281)) (.ok (I6 m l).V []) .no
 | _=>.no
def F2 (i:Nat):BA:=(YD++DQ (i:Int))++ES
def US (i:Int):BA:=(YD++DQ i)++ES
def U6 (m:Md):BA→Nat→LI→BA
 | s,_,[]=>s
 | s,i,x :: l=>U6 m (s++F2 i++EI (I6 m x.toStr)) (i+1) l
def FT (a b:BA):BA:=cond (KE a) (U6 (GH a) D8 0 (EK b)) uF
def WD:DW
 | [.str a,.str b]=>.br (decide (a.size < 4294967281)&&(decide (b.size < 4294967281)&&decide ((FT a b).size≤strMax))) (.ok (.str (FT a b)) []) .no
 | _=>.no
def iA:DW
 | [.str s,.int .u8 c]=>.ok (.int .i64 (DF s.data.toList c.toNat.toUInt8)) []
 | _=>.no
def O5 (l:List UInt8):Nat→Nat→Option Nat
 | 0,at_=>some at_
 | n+1,at_=>cond (decide (DF (l.drop at_) 10 < 0)) none (O5 l n (at_+(DF (l.drop at_) 10).toNat+1))
def LD (s:BA) (n:Int):Bool:=(O5 s.data.toList n.toNat 0).isSome
def d7 (s:BA) (n:Int):Nat:=(O5 s.data.toList n.toNat 0).getD 0
def I9 (s:BA) (n:Int):BA:=cond (LD s n) (s.extract 0 (d7 s n)) D8
def SS (s:BA) (n:Int):BA:=cond (LD s n) (s.extract (d7 s n) s.size) D8
def aZ:DW
 | [.str s,.int .i64 n]=>.br (decide (s.size < 4294967281)) (.ok (.tup [.str (I9 s n),.str (SS s n),.bool (LD s n)]) []) .no
 | _=>.no
def NQ (s:BA):LI:=(D3 (F1 s ES) VL).map IV.str
def LG (s:BA):Int:=
 cond (!((MM (NQ s)).toList==IZ.toList)||!(ic (NQ s).length==3)) 1
  (cond (!(KX (DX (NQ s) 2))||(decide (FK (DX (NQ s) 2) < 0)||decide (FK (DX (NQ s) 2) > 65536))) 1 (FR (1+FK (DX (NQ s) 2))))
def a8:DW
 | [.str s]=>.br (decide (s.size < 4294967281)) (.ok (.int .i64 (LG s)) []) .no
 | _=>.no
abbrev SZ:List Kd:=[.z,.list true [.bool,.z,.z],.z,.z,.z,.z,.z,.z]
def Vd.I (v:Vd):IV:=.agg [.int v.kind,.list v.proof,.int v.w0,.int v.w1,.int v.w2,.int v.w3,.int v.twin,.int v.spent]
def TF (x:IV):Vd:=⟨cI x 0,(x.cell 1).toList,cI x 2,cI x 3,cI x 4,cI x 5,cI x 6,cI x 7⟩
def KA (s:BA) (i:Nat):BA:=GI s (F2 i)
def QB (s:BA) (i:Nat):BA:=I9 (KA s i) (LG (I9 (KA s i) 1))
def Z4 (s:BA) (i:Nat):BA:=SS (KA s i) (LG (I9 (KA s i) 1))
def kV (s:BA) (i:Nat):Bool:=OB s (F2 i)&&(LD (KA s i) 1&&(LD (KA s i) (LG (I9 (KA s i) 1))&&U3 (QB s i)))
def TC:Nat→Nat→BA→LI→Option LI
 | 0,_,_,_=>none
 | n+1,i,s,out=>cond (s.toList==D8.toList) (some out) (cond (kV s i) (TC n (i+1) (Z4 s i) (out++[(JS (QB s i)).I])) none)
def KT (s:BA):Option LI:=TC (s.size+1) 0 s []
def R8:DW
 | [.str s]=>.br (decide (s.size < 4294967281)) (.br (KT s).isSome (.ok (.tup [.list true SZ ((KT s).getD []),.bool true]) []) (.ok (.tup [.list true SZ [],.bool false]) [])) .no
 | _=>.no
def QC (s:BA) (i:Int):BA:=GI s (US i)
def PD (s:BA) (i:Int):BA:=I9 (QC s i) (LG (I9 (QC s i) 1))
def Hz (s:BA) (i:Int):BA:=SS (QC s i) (LG (I9 (QC s i) 1))
def KH (m:Md) (l:BA) (v:Vd):Bool:=
 cond (LY m l) (cond (v.kind==3) (v.spent==(ET l).bu)
   (cond (v.kind==1||v.kind==2) (decide (v.spent≥1)&&(decide (v.spent≤(ET l).bu)&&J8 m (ET l) v)) false))
  (v.kind==4&&v.spent==0)
def aY:DW
 | [m,.str l,v]=>JI m fun m=>uK v fun v=>.br (decide (l.size < 4294967281)) (.ok (.bool (KH m l v)) []) .no
 | _=>.no
def T8 (m:Md):LI→LI→Bool
 | [],_=>true
 | v :: r,ls=>KH m (ls.getD 0 default).toStr (TF v)&&T8 m r (ls.drop 1)
def GQ (a b r:BA):Bool:=
 cond (KE a) (match KT r with
  | some vs=>ic vs.length==ic (EK b).length&&T8 (GH a) vs (EK b)
  | none=>false) (r.toList==uF.toList)
def R7:DW
 | [.str a,.str b,.str r]=>.br (decide (a.size < 4294967281)&&(decide (b.size < 4294967281)&&decide (r.size < 4294967281))) (.ok (.bool (GQ a b r)) []) .no
 | _=>.no
open Go Go.Proofs
theorem oQ:∀ (l:List UInt8) (c:UInt8),-1≤DF l c∧DF l c < l.length
 | [],_=>⟨by show (-1:Int) ≤ -1; omega,by show (-1:Int) < 0; omega⟩
 | b :: l,c=>by
  have ih:=oQ l c;unfold DF;rw [AM];split
  ·omega
  ·split
   ·omega
   ·omega
theorem zh5:DY PR B0 102 iA:=by
 intro w X γ vs xs r out hsp hg hx hR hV;unfold iA at hsp;simp only at hsp;split at hsp
 ·rename_i s c;simp only [R.get,AC,AU] at hsp;obtain ⟨rfl,rfl⟩:=hsp;obtain ⟨x0,x1,rfl⟩:∃ x0 x1,xs=[x0,x1]:=by
   have:=hV.length
   simp at this
   match xs,this with
   | [a,b],_=>exact ⟨a,b,rfl⟩
  simp only [A0,CB,ER,VRels,VRel,B7] at hV;obtain ⟨⟨rfl,hs⟩,rfl,_⟩:=hV;refine QF hR rfl rfl (Does.of_calls Tryz.func102 (by kernel_rfl) (by kernel_rfl) ((Tryz.strings_IndexByte s c w).mono ?_));rintro e w' ⟨rfl,rfl⟩;refine ⟨_,rfl,Keep.refl _ _,fun O _=>?_⟩;simp only [VRel];have hb:=oQ s.data.toList c.toNat.toUInt8;have hz:s.data.toList.length=s.size:=by rw [CL]; rfl
  have e1:AB.min = -9223372036854775808:=rfl;have e2:AB.max=9223372036854775807:=rfl;unfold strMax at hs;exact ⟨by first | rfl | trivial,by omega,by omega⟩
 ·simp [R.get] at hsp
open Go Go.Proofs
def Qx (N:Nat):Env:=D6 [(46,ND),(47,SG)] [] 8 N
theorem zdI (N:Nat) (s:BA):D1 (Qx N) xJ [.tmp 2] [[.list false [.str]]] [.str s]=(cond (AZ s==AZ {data:=#[]}) (some ((.list false [.str] []),[])) (cond (decide (AD (F1 s {data:=#[10]}) < 4294967281)&&decide (1≤AD {data:=#[10]})) (some ((.list false [.str] (A4 IV.str (D3 (F1 s {data:=#[10]}) {data:=#[10]}))),[])) none)):=by kernel_rfl
def Qw (N:Nat):Env:=D6 [(73,V2),(26,V7),(65,MR),(35,dC)] [] 46 N
theorem zdH (N:Nat) (m:Md) (line:BA):D1 (Qw N) xI [.cell 4 55] [[.z,.list true [.bool,.z,.z],.z,.z,.z,.z,.z,.z]] [(Md.V m),.str line]=(cond (decide (AD line < 4294967281)) (cond (!KW line) (some ((.agg [.i 4,.list true EE [],.i 0,.i 0,.i 0,.i 0,.i 0,.i 0]),[])) (cond (JK line != Md.d m) (some ((.agg [.i 4,.list true EE [],.i 0,.i 0,.i 0,.i 0,.i 0,.i 0]),[])) (cond (!FB m (ET line)) (some ((.agg [.i 4,.list true EE [],.i 0,.i 0,.i 0,.i 0,.i 0,.i 0]),[])) (cond (Vd.kind (FN m (ET line))==3) (some ((Vd.V (FN m (ET line))),[])) (cond (J8 m (ET line) (FN m (ET line))) (some ((Vd.V (FN m (ET line))),[])) (some ((.agg [.i 4,.list true EE [],.i 0,.i 0,.i 0,.i 0,.i 0,.i 0]),[]))))))) none):=by kernel_rfl
def TZ (N:Nat):Env:=D6 [(24,SC),(32,WC),(31,SF),(43,OT),(56,T2),(60,T3),(19,WM)] [(6,⟨[4,5,7,18,19,20],[5,7],[]⟩)] 37 N
abbrev VT (u00 s4:BA) (l18:LI) (x19 x20:Int) (so7:BA):St:=⟨[(4,(.str s4)),(5,(.ptr 5 0 0)),(7,(.ptr 7 0 0)),(18,(.list false [.str] l18)),(19,(.i x19)),(20,(.i x20))],[(5,(some (.box (Md.cs (GH u00))))),(7,(some (.bld so7)))]⟩
theorem zdJ (N:Nat) (u00 u01:BA):D1 (TZ N) WZ [.tmp 4] [[.str]] [.str u00,.str u01]=(cond (decide (AD u00 < 4294967281)) (cond (!KE u00) (some ((.str ({data:=#[109,111,100,101,108,10]})),[])) (cond (decide (AD u01 < 4294967281)) (D0 (TZ N) (DL WZ [1,1,1,1,0,1,0,0]) ⟨[4,5,7,18,19,20],[5,7],[]⟩ N (VT u00 ({data:=#[]}) (EK u01) (ic (AG (EK u01))) 0 CJ) (DS 0 (DT (TZ N) (DL WZ [1,1,1,1,1]) (DV (TZ N) none [.tmp 4] [[.str]])))) none)) none):=by kernel_rfl
theorem Me (N:Nat) (u00 s4:BA) (l18:LI) (x19 x20:Int) (so7:BA) (again:St→DP) (k:Out→St→DP):FG (TZ N) (DL WZ [1,1,1,1,0,1,0,0]) (VT u00 s4 l18 x19 x20 so7) (EW again ⟨[4,5,7,18,19,20],[5,7],[]⟩ k)=(cond (decide (x20 < x19)) (cond (decide (0≤x20)&&decide (x20 < ic (AG l18))) (cond (decide (AD {data:=#[113,117,101,114,121,32]}+AD (DQ x20)≤strMax)) (cond (decide (AD ({data:=#[113,117,101,114,121,32]}++DQ x20)+AD {data:=#[10]}≤strMax)) (cond (decide (AD so7+AD (US x20)≤strMax)) (cond (decide (AD (IV.toStr (AI l18 (AF x20) default)) < 4294967281)) (cond (decide (AD (EI (I6 (GH u00) (IV.toStr (AI l18 (AF x20) default))))≤strMax)) (cond (decide (AD (so7++(US x20))+AD (EI (I6 (GH u00) (IV.toStr (AI l18 (AF x20) default))))≤strMax)) (again (VT u00 s4 l18 x19 (AA AB (x20+1)) (so7++(US x20)++EI (I6 (GH u00) (IV.toStr (AI l18 (AF x20) default)))))) none) none) none) none) none) none) none) (k (.exit 0) (VT u00 s4 l18 x19 x20 so7))):=by kernel_rfl
theorem Xt (N:Nat) (u00 s4:BA) (l18:LI) (x19 x20:Int) (so7:BA):(DS 0 (DT (TZ N) (DL WZ [1,1,1,1,1]) (DV (TZ N) none [.tmp 4] [[.str]]))) (.exit 0) (VT u00 s4 l18 x19 x20 so7)=(some ((.str so7),[])):=by kernel_rfl
def QT (N:Nat):Env:=D6 [(102,iA)] [(3,⟨[0,4,5,6,7,9,10],[],[]⟩)] 29 N
abbrev QQ (s0 s4 s5:BA) (b6:Bool) (x7 x9 x10:Int):St:=⟨[(0,(.str s0)),(4,(.str s4)),(5,(.str s5)),(6,(.bool b6)),(7,(.i x7)),(9,(.i x9)),(10,(.i x10))],[]⟩
theorem zcX (N:Nat) (s:BA) (n:Int):D1 (QT N) UE [.tmp 4,.tmp 5,.tmp 6] [[.str],[.str],[.bool]] [.str s,.i n]=(D0 (QT N) (DL UE [1,1,0,1,0,0]) ⟨[0,4,5,6,7,9,10],[],[]⟩ N (QQ s ({data:=#[]}) ({data:=#[]}) false 0 n 0) (DS 0 (DT (QT N) (DL UE [1,1,1]) (DV (QT N) none [.tmp 4,.tmp 5,.tmp 6] [[.str],[.str],[.bool]])))):=by kernel_rfl
theorem zik (N:Nat) (s0 s4 s5:BA) (b6:Bool) (x7 x9 x10:Int) (again:St→DP) (k:Out→St→DP):FG (QT N) (DL UE [1,1,0,1,0,0]) (QQ s0 s4 s5 b6 x7 x9 x10) (EW again ⟨[0,4,5,6,7,9,10],[],[]⟩ k)=(cond (decide (x10 < x9)) (cond (decide (0≤x7)&&decide (x7≤ic (AD s0))) (cond (decide (DF (Array.toList (ByteArray.data (B2 s0 (AF x7) (AD s0)))) (Nat.toUInt8 (AF 10)) < 0)) (k .ret (QQ s0 ({data:=#[]}) ({data:=#[]}) false x7 x9 x10)) (again (QQ s0 s4 s5 b6 (AA AB (x7+AA AB (DF (Array.toList (ByteArray.data (B2 s0 (AF x7) (AD s0)))) (Nat.toUInt8 (AF 10))+1))) x9 (AA AB (x10+1))))) none) (k (.exit 0) (QQ s0 s4 s5 b6 x7 x9 x10))):=by kernel_rfl
theorem Wv (N:Nat) (s0 s4 s5:BA) (b6:Bool) (x7 x9 x10:Int):(DS 0 (DT (QT N) (DL UE [1,1,1]) (DV (QT N) none [.tmp 4,.tmp 5,.tmp 6] [[.str],[.str],[.bool]]))) (.exit 0) (QQ s0 s4 s5 b6 x7 x9 x10)=(cond (decide (0≤x7)&&decide (x7≤ic (AD s0))) (cond (decide (0≤x7)&&decide (x7≤ic (AD s0))) (some ((.tup [.str (B2 s0 0 (AF x7)),.str (B2 s0 (AF x7) (AD s0)),.bool true]),[])) none) none):=by kernel_rfl
theorem Ww (N:Nat) (s0 s4 s5:BA) (b6:Bool) (x7 x9 x10:Int):(DS 0 (DT (QT N) (DL UE [1,1,1]) (DV (QT N) none [.tmp 4,.tmp 5,.tmp 6] [[.str],[.str],[.bool]]))) .ret (QQ s0 s4 s5 b6 x7 x9 x10)=(some ((.tup [.str s4,.str s5,.bool b6]),[])):=by kernel_rfl
def Po (N:Nat):Env:=D6 [(90,Q1),(46,ND),(47,SG)] [] 37 N
theorem zcY (N:Nat) (u00:BA):D1 (Po N) wD [.tmp 2] [[.z]] [.str u00]=(cond (decide (AD (F1 u00 {data:=#[10]}) < 4294967281)&&decide (1≤AD {data:=#[32]})) (cond (decide (0≤0)&&decide (0 < ic (AG (A4 IV.str (D3 (F1 u00 {data:=#[10]}) {data:=#[32]}))))) (cond (!AZ (IV.toStr (AI (A4 IV.str (D3 (F1 u00 {data:=#[10]}) {data:=#[32]})) (AF 0) default))==AZ {data:=#[104,111,108,100,115]}) (some ((.i 1),[])) (cond (ic (AG (A4 IV.str (D3 (F1 u00 {data:=#[10]}) {data:=#[32]}))) != 3) (some ((.i 1),[])) (cond (decide (0≤2)&&decide (2 < ic (AG (A4 IV.str (D3 (F1 u00 {data:=#[10]}) {data:=#[32]}))))) (cond (!KX (IV.toStr (AI (A4 IV.str (D3 (F1 u00 {data:=#[10]}) {data:=#[32]})) (AF 2) default))) (some ((.i 1),[])) (cond (decide (FK (IV.toStr (AI (A4 IV.str (D3 (F1 u00 {data:=#[10]}) {data:=#[32]})) (AF 2) default)) < 0)) (some ((.i 1),[])) (cond (decide (FK (IV.toStr (AI (A4 IV.str (D3 (F1 u00 {data:=#[10]}) {data:=#[32]})) (AF 2) default)) > 65536)) (some ((.i 1),[])) (some ((.i (AA AB (1+FK (IV.toStr (AI (A4 IV.str (D3 (F1 u00 {data:=#[10]}) {data:=#[32]})) (AF 2) default))))),[]))))) none))) none) none):=by kernel_rfl
def Pn (N:Nat):Env:=D6 [(73,V2),(26,V7),(65,MR)] [] 66 N
theorem zcW (N:Nat) (m:Md) (a1:BA) (a2:Vd):D1 (Pn N) wC [.tmp 6] [[.bool]] [(Md.V m),.str a1,(Vd.V a2)]=(cond (decide (AD a1 < 4294967281)) (cond (!KW a1) (cond (Vd.kind a2==4) (some ((.bool (Vd.spent a2==0)),[])) (some ((.bool false),[]))) (cond (JK a1 != Md.d m) (cond (Vd.kind a2==4) (some ((.bool (Vd.spent a2==0)),[])) (some ((.bool false),[]))) (cond (!FB m (ET a1)) (cond (Vd.kind a2==4) (some ((.bool (Vd.spent a2==0)),[])) (some ((.bool false),[]))) (cond (Vd.kind a2==3) (some ((.bool (Vd.spent a2==Qy.bu (ET a1))),[])) (cond (Vd.kind a2==1) (cond (decide (Vd.spent a2≥1)) (cond (decide (Vd.spent a2≤Qy.bu (ET a1))) (some ((.bool (J8 m (ET a1) a2)),[])) (some ((.bool false),[]))) (some ((.bool false),[]))) (cond (Vd.kind a2==2) (cond (decide (Vd.spent a2≥1)) (cond (decide (Vd.spent a2≤Qy.bu (ET a1))) (some ((.bool (J8 m (ET a1) a2)),[])) (some ((.bool false),[]))) (some ((.bool false),[]))) (some ((.bool false),[])))))))) none):=by kernel_rfl
open Go
theorem Y2 {s t:BA} (h:s.data.toList=t.data.toList):s=t:=ByteArray.ext (Array.ext' h)
theorem SL (s t:BA):(s.toList==t.toList)=decide (s=t):=by
 rw [Lib.toList_data,Lib.toList_data];by_cases h:s=t
 ·subst h; simp
 ·rw [AL h,A3];exact fun e=>h (Y2 e)
theorem QE (s:BA):s.size=s.data.toList.length:=by rw [CL]; rfl
theorem nQ (u:Nat):∀ c∈BV u,48≤c.toNat∧c.toNat≤57:=by
 induction u using vbq with
 | _ u ih=>
  intro c hc;rw [BV] at hc;split at hc
  ·rename_i h;simp only [BJ] at hc;subst hc;rw [vaa (by simp [vbm]; omega)];omega
  ·rename_i h;rw [AV,BJ] at hc;rcases hc with hc | hc
   ·exact ih (u / 10) (by omega) c hc
   ·subst hc;rw [vaa (by simp [vbm]; omega)];omega
theorem zR (u:Nat):BV u≠[]:=by
 rw [BV];split <;> simp
theorem zb7 (n:Int):∀ c∈C5 n,c.toNat=45∨(48≤c.toNat∧c.toNat≤57):=by
 intro c hc;unfold C5 at hc;split at hc
 ·rcases AP.1 hc with h | h
  ·subst h; exact .inl rfl
  ·exact .inr (nQ _ c h)
 ·exact .inr (nQ _ c hc)
theorem Br (n:Int) (c:UInt8) (hc:c.toNat < 45):c ∉ C5 n:=by
 intro h;rcases zb7 n c h with h1 | h1 <;> omega
theorem zfq (u:Nat):∀ (acc:Nat) (r:List UInt8),acc*10 ^ (BV u).length+u < 18446744073709551616 →
  vaO acc (BV u++r)=vaO (acc*10 ^ (BV u).length+u) r:=by
 induction u using vbq with
 | _ u ih=>
  intro acc r hlt;rw [BV] at hlt ⊢;split at hlt
  ·rename_i h;rw [dif_pos h];simp only [C3,Nat.pow_one,List.singleton_append] at hlt ⊢;have hc:(UInt8.ofNat (48+u)).toNat=48+u:=vaa (by simp [vbm]; omega);rw [vaO,hc,BP (by omega),BB (by omega),BB (by omega)];congr 1;omega
  ·rename_i h;rw [dif_neg h];simp only [AS,C3,Nat.pow_succ,va1,List.singleton_append] at hlt ⊢;have ea:acc*(10 ^ (BV (u / 10)).length*10)=acc*10 ^ (BV (u / 10)).length*10:=by rw [Nat.mul_assoc]
   rw [ea] at hlt ⊢;rw [ih (u / 10) (by omega) acc _ (by omega)];have hc:(UInt8.ofNat (48+u % 10)).toNat=48+u % 10:=vaa (by simp [vbm]; omega);rw [vaO,hc,BP (by omega),BB (by omega),BB (by omega)];congr 1;omega
theorem Fv (u:Nat) (h:u < 18446744073709551616):Lib.parseMag (BV u) = .ok u:=by
 unfold Lib.parseMag;rw [BB (zR u)]
 have:=zfq u 0 [] (by omega)
 rw [C9] at this;rw [this,Nat.zero_mul,BL];rfl
theorem vJ (n:Int) (h0 : -9223372036854775808≤n) (h1:n≤9223372036854775807):vbh (C5 n) = .ok n:=by
 unfold C5;split
 ·rename_i hn;unfold vbh;have e:(45:UInt8).toNat=45:=rfl;simp only [e,or_true,CQ,Fv n.natAbs (by omega),va9,false_and,if_false,vaA];rw [BB (by omega)];congr 1;omega
 ·rename_i hn;obtain ⟨c,r,hl⟩:∃ c r,BV n.toNat=c :: r:=by
   cases h:BV n.toNat with
   | nil=>exact absurd h (zR _)
   | cons c r=>exact ⟨c,r,rfl⟩
  have hc:=nQ n.toNat c (by rw [hl]; exact AN ..);have hm:=Fv n.toNat (by omega);rw [hl] at hm ⊢;unfold vbh;have e1:¬ c.toNat=43:=by omega
  have e2:¬ c.toNat=45:=by omega
  simp only [e1,e2,or_self,if_false,hm,false_and,not_false_eq_true,vaA];rw [BB (by omega)];congr 1;omega
theorem vH {s:BA} {n:Int} (h:s.data.toList=C5 n) (h0 : -9223372036854775808≤n) (h1:n≤9223372036854775807):FK s=n:=by
 unfold FK;rw [h,vJ n h0 h1]
theorem jK:∀ (w r:List UInt8) (c:UInt8),c ∉ w→DF (w++c :: r) c=w.length
 | [],r,c,_=>by simp [DF]
 | b :: w,r,c,h=>by
  simp only [AP,not_or] at h;have e:(b==c)=false:=A3.2 (fun e=>h.1 e.symm);have e2:((w.length:Int) == -1)=false:=by rw [A3]; omega
  simp only [CS,DF,e,jK w r c h.2,e2,AM];simp
theorem Vq (w r:List UInt8) (c:UInt8) (h:c ∉ w):vaN (w++c :: r) [c]=(w,r,true):=by
 unfold vaN;rw [Lib.index_one,jK w r c h,BP (by omega)];simp
theorem Lc (w r:List UInt8) (c:UInt8) (h:c ∉ w):vaq (w++c :: r) [c]=w :: vaq r [c]:=by
 unfold vaq;have ec:Lib.count (w++c :: r) [c]=Lib.count r [c]+1:=by
  rw [vbu,vbu,vbx,van h,List.count_cons_self,BL]
 rw [ec,Lib.splitK,Lib.index_one,jK w r c h];have e2:((w.length:Int) == -1)=false:=by rw [A3]; omega
 rw [e2];simp
theorem s8 (w:List UInt8) (c:UInt8) (h:c ∉ w):vaq w [c]=[w]:=by
 unfold vaq;rw [vbu,van h];rfl
def HX (w:List UInt8) (l:List Int):List UInt8:=w++l.flatMap fun n=>32 :: C5 n
theorem zcy (w:List UInt8) (n:Int) (l:List Int):HX w (n :: l)=w++32 :: HX (C5 n) l:=by simp [HX]
theorem XF (c:UInt8) (hc:c.toNat < 32) {w:List UInt8} (hw:c ∉ w) (l:List Int):c ∉ HX w l:=by
 unfold HX;rw [AV,List.mem_flatMap];rintro (h | ⟨n,_,h⟩)
 ·exact hw h
 ·rcases AP.1 h with e | e
  ·subst e
   have:(32:UInt8).toNat=32:=rfl
   omega
  ·exact Br n c (by omega) e
theorem sZ:∀ (l:List Int) (w:List UInt8),(32:UInt8) ∉ w→vaq (HX w l) [32]=w :: l.map C5
 | [],w,h=>by simp only [HX,List.flatMap_nil,C9,CB]; exact s8 w 32 h
 | n :: l,w,h=>by
  rw [zcy,Lc w _ 32 h,sZ l (C5 n) (Br n 32 (by decide))];rfl
theorem lE (s sep:BA):(D3 s sep).map (·.data.toList)=vaq s.data.toList sep.data.toList:=by
 unfold D3 vaq;rw [Lib.splitB_data]
open Go
theorem NI (s t:BA):(s++t).data.toList=s.data.toList++t.data.toList:=by simp
theorem zQ (s:BA) (c:UInt8):(s.push c).data.toList=s.data.toList++[c]:=by simp [ByteArray.push]
theorem zb4 (n:Int):(DQ n).data.toList=C5 n:=rfl
theorem Eu:∀ (l:LI) (s:BA),(M0 s l).data.toList=s.data.toList++(l.map IV.toInt).flatMap fun n=>32 :: C5 n
 | [],s=>by simp [M0]
 | x :: l,s=>by
  rw [M0,Eu l,NI,zQ,zb4];simp
theorem P4 (s w:BA) (l:LI):(GP s w l).data.toList=s.data.toList++(HX w.data.toList (l.map IV.toInt)++[10]):=by
 unfold GP HX;rw [zQ,Eu,NI];simp
def VD (x:IV):List UInt8:=cond (G3 x) (HX RV.data.toList []) (HX YB.data.toList [FC x,FV x])
def NW:LI→List UInt8
 | []=>[]
 | x :: l=>VD x++10 :: NW l
theorem rA:∀ (l:LI) (s:BA),(K4 s l).data.toList=s.data.toList++NW l
 | [],s=>by simp [K4,NW]
 | x :: l,s=>by
  rw [K4,rA l,NW];unfold VD;cases G3 x
  ·simp only [A9];rw [P4];simp [IV.toInt]
  ·simp only [BH];rw [P4];simp
def G9 (n:Int):Prop := -9223372036854775808≤n∧n≤9223372036854775807
def PI (x:IV):Prop:=G9 (FC x)∧G9 (FV x)
structure Vd.rng (v:Vd):Prop where
 w0:G9 v.w0
 w1:G9 v.w1
 w2:G9 v.w2
 w3:G9 v.w3
 twin:G9 v.twin
 spent:G9 v.spent
 proof:∀ x∈v.proof,PI x
theorem Ev:∀ (l:LI) (s:BA),(∀ x∈l,G9 x.toInt)→(M0 s l).size≤s.size+22*l.length
 | [],s,_=>AX _
 | x :: l,s,h=>by
  rw [M0];refine C2 (Ev l _ (fun y hy=>h y (AW _ hy))) ?_;have hx:=h x (AN ..)
  have:=ZL (n:=x.toInt) hx.1 hx.2
  rw [AY,va0,AM];omega
theorem ZP (s w:BA) (l:LI) (h:∀ x∈l,G9 x.toInt):(GP s w l).size≤s.size+w.size+22*l.length+1:=by
 unfold GP
 have:=Ev l (s++w) h
 rw [AY] at this;rw [va0];omega
theorem Gj:∀ (l:LI) (s:BA),(∀ x∈l,PI x)→(K4 s l).size≤s.size+48*l.length
 | [],s,_=>AX _
 | x :: l,s,h=>by
  rw [K4];refine C2 (Gj l _ (fun y hy=>h y (AW _ hy))) ?_;have hx:=h x (AN ..);rw [AM];cases G3 x
  ·have:=ZP s YB [.int (FC x),.int (FV x)] (fun y hy=>by
    simp only [AP,List.mem_nil_iff,CP] at hy;rcases hy with rfl | rfl
    ·exact hx.1
    ·exact hx.2)
   have e:YB.size=3:=rfl;simp only [A9,AM,A7] at this ⊢;omega
  ·have:=ZP s RV [] (fun y hy=>by cases hy)
   have e:RV.size=3:=rfl;simp only [BH,A7] at this ⊢;omega
open Go
theorem rU {v:Vd} (h:v.right=true):v.proof.length≤65536:=by
 unfold Vd.right at h;simp only [AH,vao] at h;rcases h.2.2 with h1 | h1 | h1
 ·have:=h1.2.2
  unfold PK at this;simp only [AH,AQ] at this;exact this.2.1
 ·have:=h1.2
  cases hp:v.proof with
  | nil=>simp
  | cons a b=>rw [hp] at this; cases this
 ·have:=h1.2.2
  cases hp:v.proof with
  | nil=>simp
  | cons a b=>rw [hp] at this; cases this
theorem oR {l:List Int} (h:∀ n∈l,G9 n):∀ x∈l.map IV.int,G9 x.toInt:=by
 intro x hx;obtain ⟨n,hn,rfl⟩:=CK.1 hx;exact h n hn
theorem Co {n:Nat} (h:n≤65536):G9 (ic n):=by unfold G9 ic; omega
theorem kP {v:Vd} (hr:v.rng):(EI v).size≤4000000:=by
 unfold EI;cases h:v.right with
 | false=>simp only [A9]; decide
 | true=>
  simp only [BH];have hp:=rU h;cases v.kind==1 with
  | true=>
   simp only [BH];have h1:=Gj v.proof (GP D8 IZ [.int v.spent,.int (ic v.proof.length)]) hr.proof;have h2:=ZP D8 IZ [.int v.spent,.int (ic v.proof.length)] (oR (l:=[v.spent,ic v.proof.length]) (by
    intro n hn;simp only [AP,List.mem_nil_iff,CP] at hn;rcases hn with rfl | rfl
    ·exact hr.spent
    ·exact Co hp))
   have e1:D8.size=0:=rfl;have e2:IZ.size=5:=rfl;simp only [AM,A7] at h2;omega
  | false=>
   simp only [A9];cases v.kind==2 with
   | true=>
    simp only [BH];have h2:=ZP D8 QL [.int v.spent,.int v.w0,.int v.w1,.int v.w2,.int v.w3,.int v.twin] (oR (l:=[v.spent,v.w0,v.w1,v.w2,v.w3,v.twin]) (by
     intro n hn;simp only [AP,List.mem_nil_iff,CP] at hn;rcases hn with rfl | rfl | rfl | rfl | rfl | rfl
     ·exact hr.spent
     ·exact hr.w0
     ·exact hr.w1
     ·exact hr.w2
     ·exact hr.w3
     ·exact hr.twin))
    have e1:D8.size=0:=rfl;have e2:QL.size=5:=rfl;simp only [AM,A7] at h2;omega
   | false=>
    simp only [A9];have hs:∀ x∈[IV.int v.spent],G9 x.toInt:=oR (l:=[v.spent]) (by
     intro n hn;simp only [AP,List.mem_nil_iff,CP] at hn;subst hn;exact hr.spent)
    have e1:D8.size=0:=rfl;cases v.kind==3 with
    | true=>
     simp only [BH];have h2:=ZP D8 QM [.int v.spent] hs;have e2:QM.size=7:=rfl;simp only [AM,A7] at h2;omega
    | false=>
     simp only [A9];have h2:=ZP D8 QN [.int v.spent] hs;have e2:QN.size=5:=rfl;simp only [AM,A7] at h2;omega
theorem PC (l:LI) (i:Int):G9 (GL l i):=by
 unfold GL;cases decide (ic l.length≤i) with
 | true=>simp only [BH]; unfold G9; omega
 | false=>
  simp only [A9]
  have:=vF (l.getD i.toNat default).toStr
  exact this
theorem GT:G9 0:=⟨by decide,by decide⟩
theorem zf3 (s:BA):PI (Z1 s):=by
 unfold Z1;cases ((MM (ID s)).toList==RV.toList) with
 | true=>exact ⟨GT,GT⟩
 | false=>exact ⟨PC _ _,PC _ _⟩
theorem He:∀ (m:Nat) (s:BA) (p:LI),(∀ x∈p,PI x)→∀ x∈S6 m s p,PI x
 | 0,_,_,h=>h
 | m+1,s,p,h=>by
  unfold S6;cases (!(s.toList==D8.toList)&&decide (p.length≤65536)) with
  | false=>exact h
  | true=>
   simp only [BH];refine He m _ _ (fun x hx=>?_);rcases AV.1 hx with h1 | h1
   ·exact h x h1
   ·rw [BJ.1 h1];exact zf3 s
theorem zf4 (s:BA):(II s).rng:=by
 unfold II;cases ((MM (ID s)).toList==IZ.toList) with
 | true=>exact ⟨GT,GT,GT,GT,GT,PC _ _,He _ _ _ (fun x hx=>by cases hx)⟩
 | false=>
  cases ((MM (ID s)).toList==QL.toList) with
  | true=>exact ⟨PC _ _,PC _ _,PC _ _,PC _ _,PC _ _,PC _ _,fun x hx=>by cases hx⟩
  | false=>
   cases ((MM (ID s)).toList==QM.toList) with
   | true=>exact ⟨GT,GT,GT,GT,GT,PC _ _,fun x hx=>by cases hx⟩
   | false=>
    cases ((MM (ID s)).toList==QN.toList) with
    | true=>exact ⟨GT,GT,GT,GT,GT,PC _ _,fun x hx=>by cases hx⟩
    | false=>exact ⟨GT,GT,GT,GT,GT,PC _ _,fun x hx=>by cases hx⟩
theorem Vk (s sep:BA):(cutL s sep).data.toList=(vaN s.data.toList sep.data.toList).1:=rfl
theorem Vl (s sep:BA):(FW s sep).data.toList=(vaN s.data.toList sep.data.toList).2.1:=rfl
theorem ZG {s:BA} {w r:List UInt8} {l:List Int} (h:s.data.toList=HX w l++10 :: r) (h32:(32:UInt8) ∉ w) (h10:(10:UInt8) ∉ w) :
  (ID s).map (fun x=>x.toStr.data.toList)=w :: l.map C5∧(FW s ES).data.toList=r:=by
 have hc:vaN s.data.toList ES.data.toList=(HX w l,r,true):=by
  rw [h];exact Vq _ r 10 (XF 10 (by decide) h10 l)
 constructor
 ·unfold ID;rw [List.map_map]
  have:((fun x=>x.toStr.data.toList) ∘ IV.str)=fun b:BA=>b.data.toList:=rfl
  rw [this,lE,Vk,hc];exact sZ l w h32
 ·rw [Vl,hc]
theorem N1 {L:LI} {w:List UInt8} {ws:List (List UInt8)} (h:L.map (fun x=>x.toStr.data.toList)=w :: ws) (t:BA):((MM L).toList==t.toList)=(w==t.data.toList):=by
 cases L with
 | nil=>cases h
 | cons x L=>
  simp only [A0,vau] at h;unfold MM;rw [Lib.toList_data,Lib.toList_data];simp only [List.getD_cons_zero];rw [h.1]
theorem P5 {L:LI} {ws:List (List UInt8)} (h:L.map (fun x=>x.toStr.data.toList)=ws) (i:Nat) {n:Int} (hi:ws[i]?=some (C5 n)) (hn:G9 n):GL L (i:Int)=n:=by
 subst h;rw [CA] at hi;cases hx:L[i]? with
 | none=>rw [hx] at hi; cases hi
 | some x=>
  rw [hx] at hi;simp only [vav,AC] at hi;have hl:=(BS.1 hx).1;unfold GL;rw [AL (show ¬ ic L.length≤(i:Int) by simp only [ic]; omega)];simp only [A9]
  have:(L.getD (i:Int).toNat default)=x:=by
   rw [BD,BW,hx];rfl
  rw [this];exact vH hi hn.1 hn.2
def Y6 (x:IV):IV:=cond (G3 x) (RG true 0 0) (RG false (FC x) (FV x))
theorem Us {x:IV} (h:PJ x=true):X2 (Y6 x) x=true:=by
 unfold Y6;unfold PJ at h;unfold X2;cases hs:G3 x with
 | true=>
  rw [hs] at h;simp only [A8,AH,Bool.not_not,B8] at h;have e1:G3 (RG true 0 0)=true:=rfl;have e2:FC (RG true 0 0)=0:=rfl;have e3:FV (RG true 0 0)=0:=rfl;simp only [BH,e1,e2,e3,h.1.1,h.1.2];rfl
 | false=>
  have e1:G3 (RG false (FC x) (FV x))=false:=rfl;have e2:FC (RG false (FC x) (FV x))=FC x:=rfl;have e3:FV (RG false (FC x) (FV x))=FV x:=rfl;simp only [A9,e1,e2,e3,DG,B3]
theorem yV:∀ {l:LI},l.all PJ=true→FO (l.map Y6) l=true
 | [],_=>rfl
 | x :: l,h=>by
  simp only [vay,AH] at h;simp only [A0,FO,Us h.1,yV h.2,B3]
theorem Er {s:BA}:(s.toList==D8.toList)=s.data.toList.isEmpty:=by
 rw [SL];cases h:s.data.toList with
 | nil=>
  have:s=D8:=Y2 (h.trans rfl)
  rw [AE this];rfl
 | cons a l=>
  rw [AL (fun e=>by rw [e] at h; cases h)];rfl
theorem Hf:∀ (l:LI) (m:Nat) (s:BA) (p:LI),s.data.toList=NW l→l.length < m→p.length+l.length≤65536→(∀ x∈l,PI x)→S6 m s p=p++l.map Y6
 | [],m+1,s,p,hs,_,_,_=>by
  unfold S6;rw [Er,hs];simp [NW]
 | x :: l,m+1,s,p,hs,hm,hp,hx=>by
  have hne:(s.toList==D8.toList)=false:=by
   rw [Er,hs,NW];simp
  unfold S6;simp only [AM] at hm hp;rw [hne,AE (show p.length≤65536 by omega)];simp only [A6,B3,BH];have hr:=hx x (AN ..);have key:Z1 s=Y6 x∧(FW s ES).data.toList=NW l:=by
   rw [NW] at hs;unfold VD at hs;unfold Y6 Z1;cases hc:G3 x with
   | true=>
    rw [hc] at hs;simp only [BH] at hs ⊢;obtain ⟨h1,h2⟩:=ZG hs (by decide) (by decide);refine ⟨?_,h2⟩;rw [N1 h1];simp only [DG,BH]
   | false=>
    rw [hc] at hs;simp only [A9] at hs ⊢;obtain ⟨h1,h2⟩:=ZG hs (by decide) (by decide);refine ⟨?_,h2⟩;rw [N1 h1];have e:(YB.data.toList==RV.data.toList)=false:=by decide
    rw [e];simp only [A9];have n1:=P5 h1 1 (n:=FC x) rfl hr.1;have n2:=P5 h1 2 (n:=FV x) rfl hr.2;have c1:((1:Nat):Int)=1:=rfl;have c2:((2:Nat):Int)=2:=rfl;rw [c1] at n1;rw [c2] at n2;rw [n1,n2]
  rw [key.1,Hf l m _ _ key.2 (by omega) (by simp only [AS,C3]; omega) (fun y hy=>hx y (AW _ hy))];simp
 | [],0,_,_,_,h,_,_=>by omega
 | _ :: _,0,_,_,_,h,_,_=>by simp at h
open Go
theorem RT {x y:IV}:X2 x y=true↔G3 x=G3 y∧FC x=FC y∧FV x=FV y:=by simp [X2]
theorem Im:∀ {l m:LI},FO l m=true→FO m l=true
 | [],[],_=>rfl
 | [],_ :: _,h=>by simp [FO] at h
 | _ :: _,[],h=>by simp [FO] at h
 | x :: l,y :: m,h=>by
  simp only [FO,AH] at h ⊢;obtain ⟨h1,h2,h3⟩:=RT.1 h.1;exact ⟨RT.2 ⟨h1.symm,h2.symm,h3.symm⟩,Im h.2⟩
theorem Io:∀ {l m n:LI},FO l m=true→FO m n=true→FO l n=true
 | [],[],[],_,_=>rfl
 | [],[],_ :: _,_,h=>by simp [FO] at h
 | [],_ :: _,_,h,_=>by simp [FO] at h
 | _ :: _,[],_,h,_=>by simp [FO] at h
 | _ :: _,_ :: _,[],_,h=>by simp [FO] at h
 | x :: l,y :: m,z :: n,h,k=>by
  simp only [FO,AH] at h k ⊢;obtain ⟨h1,h2,h3⟩:=RT.1 h.1;obtain ⟨k1,k2,k3⟩:=RT.1 k.1;exact ⟨RT.2 ⟨h1.trans k1,h2.trans k2,h3.trans k3⟩,Io h.2 k.2⟩
structure VSame (a b:Vd):Prop where
 kind:a.kind=b.kind
 proof:FO a.proof b.proof=true
 w0:a.w0=b.w0
 w1:a.w1=b.w1
 w2:a.w2=b.w2
 w3:a.w3=b.w3
 twin:a.twin=b.twin
 spent:a.spent=b.spent
theorem zi9 {a b:Vd}:gR a b=true↔VSame a b:=by
 unfold gR;simp only [AH,B8];exact ⟨fun ⟨h1,h2,h3,h4,h5,h6,h7,h8⟩=>⟨h1,h2,h3,h4,h5,h6,h7,h8⟩,fun ⟨h1,h2,h3,h4,h5,h6,h7,h8⟩=>⟨h1,h2,h3,h4,h5,h6,h7,h8⟩⟩
theorem VSame.symm {a b:Vd} (h:VSame a b):VSame b a:=⟨h.kind.symm,Im h.proof,h.w0.symm,h.w1.symm,h.w2.symm,h.w3.symm,h.twin.symm,h.spent.symm⟩
theorem VSame.trans {a b c:Vd} (h:VSame a b) (k:VSame b c):VSame a c:=⟨h.kind.trans k.kind,Io h.proof k.proof,h.w0.trans k.w0,h.w1.trans k.w1,h.w2.trans k.w2,h.w3.trans k.w3,h.twin.trans k.twin,h.spent.trans k.spent⟩
theorem kX:∀ {l m:LI},FO l m=true→l.length=m.length
 | [],[],_=>rfl
 | [],_ :: _,h=>by simp [FO] at h
 | _ :: _,[],h=>by simp [FO] at h
 | _ :: l,_ :: m,h=>by
  simp only [FO,AH] at h;simp only [AM,kX h.2]
theorem Ih:∀ {l m:LI},FO l m=true→l.all PJ=m.all PJ
 | [],[],_=>rfl
 | [],_ :: _,h=>by simp [FO] at h
 | _ :: _,[],h=>by simp [FO] at h
 | x :: l,y :: m,h=>by
  simp only [FO,AH] at h;obtain ⟨h1,h2,h3⟩:=RT.1 h.1;simp only [vay,Ih h.2];unfold PJ;rw [h1,h2,h3]
theorem Ik:∀ {l m:LI} (s:BA),FO l m=true→K4 s l=K4 s m
 | [],[],_,_=>rfl
 | [],_ :: _,_,h=>by simp [FO] at h
 | _ :: _,[],_,h=>by simp [FO] at h
 | x :: l,y :: m,s,h=>by
  simp only [FO,AH] at h;obtain ⟨h1,h2,h3⟩:=RT.1 h.1;simp only [K4,h1,h2,h3];exact Ik _ h.2
theorem zgF {l m:LI} (h:FO l m=true):l.isEmpty=m.isEmpty:=by
 cases l <;> cases m <;> first | rfl | (simp [FO] at h)
theorem zgm {a b:Vd} (h:VSame a b):a.right=b.right:=by
 unfold Vd.right Vd.bare PK;rw [h.kind,h.w0,h.w1,h.w2,h.w3,h.twin,h.spent,kX h.proof,Ih h.proof,zgF h.proof]
theorem zfH {a b:Vd} (h:VSame a b):EI a=EI b:=by
 unfold EI;rw [zgm h,h.kind,h.w0,h.w1,h.w2,h.w3,h.twin,h.spent,kX h.proof,Ik _ h.proof]
theorem zfC {v:Vd} (h:v.right=false):EI v=D8:=by
 unfold EI;rw [h];rfl
theorem j6 (s w:BA) (l:LI):0 < (GP s w l).size:=by
 unfold GP;rw [va0];omega
theorem Gi:∀ (l:LI) (s:BA),s.size≤(K4 s l).size
 | [],s=>AX _
 | x :: l,s=>by
  rw [K4];refine C2 ?_ (Gi l _);have key:∀ w k,s.size≤(GP s w k).size:=fun w k=>by
   rw [QE,QE,P4,AS];omega
  cases G3 x
  ·exact key _ _
  ·exact key _ _
theorem zfB {v:Vd} (h:v.right=true):0 < (EI v).size:=by
 unfold EI;rw [h];simp only [BH];cases v.kind==1 with
 | true=>simp only [BH]; exact CW (j6 _ _ _) (Gi _ _)
 | false=>
  simp only [A9];cases v.kind==2 with
  | true=>exact j6 _ _ _
  | false=>
   simp only [A9];cases v.kind==3 with
   | true=>exact j6 _ _ _
   | false=>exact j6 _ _ _
theorem My:∀ l:LI,l.length≤(NW l).length
 | []=>AX _
 | x :: l=>by
  have:=My l
  simp only [NW,AS,AM];omega
theorem mR {v:Vd} (h:v.bare=true):v.w0=0∧v.w1=0∧v.w2=0∧v.w3=0∧v.twin=0:=by
 unfold Vd.bare at h;simpa using h
theorem Hg {v:Vd} (hr:v.right=true) (hv:v.rng):VSame (II (EI v)) v:=by
 have hlen:=rU hr;have hr':=hr;unfold Vd.right at hr;simp only [AH,vao,B8] at hr;have c1:((1:Nat):Int)=1:=rfl;have c2:((2:Nat):Int)=2:=rfl;have c3:((3:Nat):Int)=3:=rfl;have c4:((4:Nat):Int)=4:=rfl;have c5:((5:Nat):Int)=5:=rfl;have c6:((6:Nat):Int)=6:=rfl;rcases hr.2.2 with ⟨hk,hb,hs⟩ | ⟨hk,he⟩ | ⟨hk,hb,he⟩
 ·have hd:(EI v).data.toList=HX IZ.data.toList [v.spent,ic v.proof.length]++10 :: NW v.proof:=by
   unfold EI;rw [hr',hk];have e1:((1:Int)==1)=true:=rfl;simp only [BH,e1];rw [rA,P4];simp [IV.toInt]
  obtain ⟨h1,h2⟩:=ZG hd (by decide) (by decide);have n1:=P5 h1 1 (n:=v.spent) rfl hv.spent;rw [c1] at n1;have hst:PK v.proof=true:=hs;unfold PK at hs;simp only [AH,AQ] at hs;have hread:=Hf v.proof ((FW (EI v) ES).size+1) _ [] h2 (by
   have:=My v.proof
   rw [← h2,← QE] at this;omega) (by simp only [A7]; omega) hv.proof
  unfold II;rw [N1 h1];simp only [DG,BH];obtain ⟨b0,b1,b2,b3,b4⟩:=mR hb;refine ⟨hk.symm,?_,b0.symm,b1.symm,b2.symm,b3.symm,b4.symm,n1⟩;simp only;rw [hread,DA];exact yV hs.2.2
 ·have hp:v.proof=[]:=List.isEmpty_iff.1 he;have hd:(EI v).data.toList=HX QL.data.toList [v.spent,v.w0,v.w1,v.w2,v.w3,v.twin]++10 :: []:=by
   unfold EI;rw [hr',hk];have e1:((2:Int)==1)=false:=rfl;have e2:((2:Int)==2)=true:=rfl;simp only [BH,A9,e1,e2];rw [P4];simp [IV.toInt]
  obtain ⟨h1,_⟩:=ZG hd (by decide) (by decide);have n1:=P5 h1 1 (n:=v.spent) rfl hv.spent;have n2:=P5 h1 2 (n:=v.w0) rfl hv.w0;have n3:=P5 h1 3 (n:=v.w1) rfl hv.w1;have n4:=P5 h1 4 (n:=v.w2) rfl hv.w2;have n5:=P5 h1 5 (n:=v.w3) rfl hv.w3;have n6:=P5 h1 6 (n:=v.twin) rfl hv.twin;rw [c1] at n1;rw [c2] at n2;rw [c3] at n3;rw [c4] at n4;rw [c5] at n5;rw [c6] at n6;unfold II;rw [N1 h1,N1 h1];have e1:(QL.data.toList==IZ.data.toList)=false:=by decide
  simp only [e1,A9,DG,BH];exact ⟨hk.symm,by rw [hp]; rfl,n2,n3,n4,n5,n6,n1⟩
 ·have hp:v.proof=[]:=List.isEmpty_iff.1 he;obtain ⟨b0,b1,b2,b3,b4⟩:=mR hb;rcases hk with hk | hk
  ·have hd:(EI v).data.toList=HX QM.data.toList [v.spent]++10 :: []:=by
    unfold EI;rw [hr',hk];have e1:((3:Int)==1)=false:=rfl;have e2:((3:Int)==2)=false:=rfl;have e3:((3:Int)==3)=true:=rfl;simp only [BH,A9,e1,e2,e3];rw [P4];simp [IV.toInt]
   obtain ⟨h1,_⟩:=ZG hd (by decide) (by decide);have n1:=P5 h1 1 (n:=v.spent) rfl hv.spent;rw [c1] at n1;unfold II;rw [N1 h1,N1 h1,N1 h1];have e1:(QM.data.toList==IZ.data.toList)=false:=by decide
   have e2:(QM.data.toList==QL.data.toList)=false:=by decide
   simp only [e1,e2,A9,DG,BH];exact ⟨hk.symm,by rw [hp]; rfl,b0.symm,b1.symm,b2.symm,b3.symm,b4.symm,n1⟩
  ·have hd:(EI v).data.toList=HX QN.data.toList [v.spent]++10 :: []:=by
    unfold EI;rw [hr',hk];have e1:((4:Int)==1)=false:=rfl;have e2:((4:Int)==2)=false:=rfl;have e3:((4:Int)==3)=false:=rfl;simp only [BH,A9,e1,e2,e3];rw [P4];simp [IV.toInt]
   obtain ⟨h1,_⟩:=ZG hd (by decide) (by decide);have n1:=P5 h1 1 (n:=v.spent) rfl hv.spent;rw [c1] at n1;unfold II;rw [N1 h1,N1 h1,N1 h1,N1 h1];have e1:(QN.data.toList==IZ.data.toList)=false:=by decide
   have e2:(QN.data.toList==QL.data.toList)=false:=by decide
   have e3:(QN.data.toList==QM.data.toList)=false:=by decide
   simp only [e1,e2,e3,A9,DG,BH];exact ⟨hk.symm,by rw [hp]; rfl,b0.symm,b1.symm,b2.symm,b3.symm,b4.symm,n1⟩
theorem Fw {v:Vd} (hv:v.rng):U3 (EI v)=v.right:=by
 unfold U3;cases h:v.right with
 | false=>
  rw [zfC h];simp
 | true=>
  have hp:=zfB h;have hne:¬ EI v=D8:=fun e=>by rw [e] at hp; cases hp
  rw [SL,SL,AL hne,zfH (Hg h hv),AE rfl];rfl
open Go
theorem Bv (x y:List UInt8) (r:List (List UInt8)):va4 (x :: y :: r) [32]=x++32 :: va4 (y :: r) [32]:=by
 rw [Lib.join_cons,Lib.join_cons];simp [Lib.joinTail]
theorem Le:∀ (x:List UInt8) (r:List (List UInt8)),(∀ w∈x :: r,(32:UInt8) ∉ w)→vaq (va4 (x :: r) [32]) [32]=x :: r
 | x,[],h=>by rw [Lib.join_one]; exact Lg x 32 (h x (AN ..))
 | x,y :: r,h=>by
  rw [Bv,Lb x _ 32 (h x (AN ..)),Le y r (fun w hw=>h w (AW _ hw))]
theorem j9:∀ {l m:List BA},l.map (·.data.toList)=m.map (·.data.toList)→l=m
 | [],[],_=>rfl
 | [],_ :: _,h=>by simp at h
 | _ :: _,[],h=>by simp at h
 | x :: l,y :: m,h=>by
  simp only [A0,vau] at h;rw [UB h.1,j9 h.2]
theorem Cu (ws:List BA) (h0:ws≠[]) (h:∀ w∈ws,(32:UInt8) ∉ w.data.toList):HH (GO ws FI)=ws.map IV.str:=by
 unfold HH;congr 1;apply j9;rw [La];cases ws with
 | nil=>exact absurd rfl h0
 | cons x r=>
  show vaq (va4 ((x :: r).map (·.data.toList)) [32]) [32]=_;rw [A0];exact Le _ _ (fun w hw=>by
   rcases AP.1 hw with rfl | hw
   ·exact h x (AN ..)
   ·obtain ⟨y,hy,rfl⟩:=CK.1 hw;exact h y (AW _ hy))
theorem Jg (u:Nat):∀ c∈IL u,c.toNat=46∨(48≤c.toNat∧c.toNat≤57):=by
 intro c hc;rw [gG] at hc;rcases AV.1 hc with h | h
 ·exact .inr (W3 _ c h)
 ·split at h
  ·cases h
  ·rename_i h0;rcases AP.1 h with rfl | h
   ·exact .inl rfl
   ·exact .inr ((iY h0 (by omega:u % 256 < 256)).2.1 c h)
theorem q9 (n:Int):∀ c∈K3 n,45≤c.toNat∧c.toNat≤57:=by
 intro c hc;unfold K3 at hc;split at hc
 ·rcases AP.1 hc with rfl | h
  ·exact ⟨by decide,by decide⟩
  ·have:=Jg _ c h
   omega
 ·have:=Jg _ c hc
  omega
theorem o5 (n:Int):∀ c∈C5 n,45≤c.toNat∧c.toNat≤57:=by
 intro c hc
 have:=zb6 n c hc
 omega
theorem Bq (n:Int):C5 n≠[]:=by
 unfold C5;split
 ·simp
 ·exact iX _
theorem S2 {l:List UInt8} (h:∀ c∈l,45≤c.toNat∧c.toNat≤57):(32:UInt8) ∉ l:=fun hc=>by
 have:=(h _ hc).1
 revert this;decide
theorem dU {x y:BA} (h:x≠y):(x.toList==y.toList)=false:=by rw [dV]; exact AL h
theorem UA (x:BA):(x.toList==x.toList)=true:=by simp
theorem Dx {w x:BA} (hw:∀ c∈w.data.toList,97≤c.toNat) (hx:x.data.toList≠[]) (h:∀ c∈x.data.toList,45≤c.toNat∧c.toNat≤57):(w.toList==x.toList)=false:=by
 refine dU (fun e=>?_);subst e;cases hl:w.data.toList with
 | nil=>exact hx hl
 | cons c r=>
  have h1:=hw c (by rw [hl]; exact AN ..);have h2:=h c (by rw [hl]; exact AN ..);omega
def LJ:List UInt8→Bool
 | []=>true
 | [c]=>!(c==46)
 | a :: b :: r=>!(a==46&&b==46)&&LJ (b :: r)
theorem p7:∀ {l:List UInt8},(∀ c∈l,c≠46)→LJ l=true
 | [],_=>rfl
 | [c],h=>by simp [LJ,h c (AN ..)]
 | a :: b :: r,h=>by
  have ha:=h a (AN ..);have e:(a==46)=false:=A3.2 ha;simp only [LJ,e,BM,A6,A8];exact p7 (fun c hc=>h c (AW _ hc))
theorem pZ:∀ {l:List UInt8} {c:UInt8} {r:List UInt8},(∀ c∈l,c≠46)→c≠46→LJ (c :: r)=true→LJ (l++46 :: c :: r)=true
 | [],c,r,_,hc,hr=>by
  have e:(c==46)=false:=A3.2 hc;simp only [DA,LJ,e,vad,A6,A8,hr]
 | [a],c,r,h,hc,hr=>by
  have e:(a==46)=false:=A3.2 (h a (AN ..))
  have:=pZ (l:=[]) (fun c hc=>by cases hc) hc hr
  simp only [DA] at this;simp only [CS,DA,LJ,e,BM,A6,A8];simpa only [LJ] using this
 | a :: b :: l,c,r,h,hc,hr=>by
  have e:(a==46)=false:=A3.2 (h a (AN ..))
  have:=pZ (l:=b :: l) (fun c hc=>h c (AW _ hc)) hc hr
  simp only [CS] at this ⊢;simp only [LJ,e,BM,A6,A8];exact this
theorem oV:∀ (w r:List UInt8),LJ w=true→Lib.index (w++46 :: 46 :: r) [46,46]=w.length
 | [],r,_=>by simp [Lib.index,vbA]
 | [c],r,h=>by
  have e:(c==46)=false:=by simpa [LJ] using h
  have e':((46:UInt8)==c)=false:=by rw [A3] at e ⊢; exact fun h=>e h.symm
  have h0:=oV [] r rfl;simp only [DA,A7] at h0;rw [List.singleton_append,Lib.index,h0];simp [vbA,e']
 | a :: b :: l,r,h=>by
  simp only [LJ,AH] at h;have ih:=oV (b :: l) r h.2;have e:[(46:UInt8),46].isPrefixOf (a :: b :: l++46 :: 46 :: r)=false:=by
   simp only [CS,vbA,B9];have h1:=h.1;cases ha:(a==46) with
   | false=>
    have:((46:UInt8)==a)=false:=by rw [A3] at ha ⊢; exact fun h=>ha h.symm
    rw [this,BM]
   | true=>
    rw [ha,A8] at h1;have hb:(b==46)=false:=by simpa using h1
    have:((46:UInt8)==b)=false:=by rw [A3] at hb ⊢; exact fun h=>hb h.symm
    rw [this,vad]
  have e2:(((b :: l).length:Int) == -1)=false:=by rw [A3]; simp only [AM]; omega
  rw [CS,Lib.index];rw [CS] at e;rw [e,ih,e2];simp
theorem Eb (u:Nat):LJ (IL u)=true:=by
 have hd:∀ c∈BV (u / 256),c≠46:=fun c hc e=>by
  subst e
  have:=W3 _ _ hc
  revert this;decide
 rw [gG];by_cases h:u % 256=0
 ·rw [BP h,C9];exact p7 hd
 ·rw [BB h];obtain ⟨_,h2,l,c,h3,_⟩:=iY h (by omega:u % 256 < 256);have hp:∀ c∈KJ (u % 256),c≠46:=fun c hc e=>by
   subst e
   have:=h2 _ hc
   revert this;decide
  cases hl:KJ (u % 256) with
  | nil=>rw [h3] at hl; simp at hl
  | cons x r=>
   rw [hl] at hp;exact pZ hd (hp x (AN ..)) (p7 hp)
theorem zeH (n:Int):LJ (K3 n)=true:=by
 unfold K3;split
 ·obtain ⟨c,r,h,_⟩:=sE n.natAbs
  have:=Eb n.natAbs
  rw [h] at this ⊢;simp only [LJ,AH];exact ⟨by rfl,this⟩
 ·exact Eb _
theorem Vr (w r:List UInt8) (h:LJ w=true):vaN (w++46 :: 46 :: r) [46,46]=(w,r,true):=by
 unfold vaN;rw [oV w r h,BP (by omega)];simp
theorem Kz (a b:Int):cutL (M8 a b) aI=DU a∧FW (M8 a b) aI=DU b:=by
 have e:(M8 a b).data.toList=K3 a++46 :: 46 :: K3 b:=by
  unfold M8;simp only [ByteArray.data_append,vah];show (K3 a++[46,46])++K3 b=_;simp
 unfold cutL FW;rw [e]
 have:=Vr (K3 a) (K3 b) (zeH a)
 show (⟨(vaN _ [46,46]).1.toArray⟩:BA)=_∧(⟨(vaN _ [46,46]).2.1.toArray⟩:BA)=_;rw [this];exact ⟨rfl,rfl⟩
theorem Qy.eq_of {p q:Qy} (h:p.eq q=true):p=q:=by
 cases p; cases q;simp only [Qy.eq,AH,B8,B7] at h;simp only [Qy.mk.injEq];exact h
theorem Qy.eq_self (p:Qy):p.eq p=true:=by
 simp [Qy.eq]
theorem Q5 {n:Int} (h:EF n):FK (DQ n)=n:=vG rfl h.1 h.2
theorem gD {n:Int} (h:EF n):GE (DU n)=n:=(zfI h).2
theorem ZY (n:Int):∀ c∈(DU n).data.toList,45≤c.toNat∧c.toNat≤57:=q9 n
theorem O4 (n:Int):∀ c∈(DQ n).data.toList,45≤c.toNat∧c.toNat≤57:=o5 n
theorem zfA (n:Int):(DU n).data.toList≠[]:=by
 obtain ⟨c,r,h,_⟩:=Gk n;rw [h];simp
theorem Kx (a b:Int):∀ c∈(M8 a b).data.toList,45≤c.toNat∧c.toNat≤57:=by
 intro c hc;unfold M8 at hc;simp only [ByteArray.data_append,vah,AV] at hc;rcases hc with (h | h) | h
 ·exact q9 a c h
 ·have h:c∈[(46:UInt8),46]:=h;simp only [AP,BX,CP,or_self] at h;subst h;decide
 ·exact q9 b c h
theorem zjk (q:Qy) (D:Nat):∀ w∈IA q D,(32:UInt8) ∉ w.data.toList:=by
 intro w hw;unfold IA at hw;have key:∀ x∈HV q,(32:UInt8) ∉ x.data.toList:=by
  intro x hx;unfold HV at hx;cases h1:(q.k==1) <;> rw [h1] at hx <;> simp only [BH,A9] at hx
  ·cases h2:(q.k==2) <;> rw [h2] at hx <;> simp only [BH,A9,AP,BX,CP] at hx
   ·rcases hx with rfl | rfl | rfl | rfl
    ·cases q.fl <;> decide
    ·exact S2 (O4 _)
    ·decide
    ·exact S2 (O4 _)
   ·rcases hx with rfl | rfl
    ·decide
    ·exact S2 (O4 _)
  ·simp only [AP,BX,CP] at hx;rcases hx with rfl | rfl | rfl | rfl | rfl | rfl
   ·decide
   ·exact S2 (O4 _)
   ·decide
   ·exact S2 (ZY _)
   ·decide
   ·exact S2 (ZY _)
 rcases AV.1 hw with h | h
 ·rcases AV.1 h with h | h
  ·exact key w h
  ·rcases AP.1 h with rfl | h
   ·decide
   ·obtain ⟨s,_,rfl⟩:=CK.1 h;exact S2 (Kx _ _)
 ·simp only [AP,BX,CP] at h;rcases h with rfl | rfl
  ·decide
  ·exact S2 (O4 _)
theorem Bg (w:BA):∀ (l:LI) (r:LI) (k:Int),(∀ x∈l,(w.toList==x.toStr.toList)=false)→F7 (l++.str w :: r) w k=k+(l.length:Int)
 | [],r,k,_=>by
  simp only [DA,F7,IV.toStr,UA,BH,A7];omega
 | x :: l,r,k,h=>by
  rw [CS,F7,h x (AN ..),A9,Bg w l r (k+1) (fun y hy=>h y (AW _ hy))];simp only [AM];omega
theorem zbV (q:Qy):∀ x∈(HV q).map IV.str,(NZ.toList==x.toStr.toList)=false:=by
 intro y hy;obtain ⟨x,hx,rfl⟩:=CK.1 hy;simp only [IV.toStr];have li:∀ c∈NZ.data.toList,97≤c.toNat:=by decide
 have ni:=fun n=>Dx li (Bq n) (O4 n)
 have np:=fun n=>Dx li (zfA n) (ZY n)
 have dd:∀ {a b:BA},a.data.toList≠b.data.toList→(a.toList==b.toList)=false:=fun h=>dU (fun e=>h (by rw [e]))
 unfold HV at hx;cases h1:(q.k==1) <;> rw [h1] at hx <;> simp only [BH,A9] at hx
 ·cases h2:(q.k==2) <;> rw [h2] at hx <;> simp only [BH,A9,AP,BX,CP] at hx
  ·rcases hx with rfl | rfl | rfl | rfl
   ·cases q.fl <;> exact dd (by decide)
   ·exact ni _
   ·exact dd (by decide)
   ·exact ni _
  ·rcases hx with rfl | rfl
   ·exact dd (by decide)
   ·exact ni _
 ·simp only [AP,BX,CP] at hx;rcases hx with rfl | rfl | rfl | rfl | rfl | rfl
  ·exact dd (by decide)
  ·exact ni _
  ·exact dd (by decide)
  ·exact np _
  ·exact dd (by decide)
  ·exact np _
theorem zbW (q:Qy) (hc:EF q.c) (hlo:EF q.lo) (hhi:EF q.hi) (hft:EF q.ft) (hk:q.k=1∨q.k=2∨q.k=3) (n1:q.k≠1→q.lo=0∧q.hi=0) (n3:q.k≠3→q.ft=0∧q.fl=false) :
  EN ((HV q).map IV.str)=⟨q.k,q.c,0,0,0,0,0,0,0,0,0,0,q.lo,q.hi,q.ft,q.fl,0⟩:=by
 have dd:∀ {a b:BA},a.data.toList≠b.data.toList→(a.toList==b.toList)=false:=fun h=>dU (fun e=>h (by rw [e]))
 obtain ⟨k,c,a0,b0,a1,b1,a2,b2,a3,b3,a4,b4,lo,hi,ft,fl,bu⟩:=q;simp only at hc hlo hhi hft hk n1 n3 ⊢;rcases hk with rfl | rfl | rfl
 ·obtain ⟨rfl,rfl⟩:=n3 (by decide);show EN [IV.str M9,IV.str (DQ c),IV.str VI,IV.str (DU lo),IV.str VM,IV.str (DU hi)]=_;unfold EN;rw [show DX [IV.str M9,IV.str (DQ c),IV.str VI,IV.str (DU lo),IV.str VM,IV.str (DU hi)] 0=M9 from rfl,UA,BH,
   show DX [IV.str M9,IV.str (DQ c),IV.str VI,IV.str (DU lo),IV.str VM,IV.str (DU hi)] 1=DQ c from rfl,show DX [IV.str M9,IV.str (DQ c),IV.str VI,IV.str (DU lo),IV.str VM,IV.str (DU hi)] 3=DU lo from rfl,
   show DX [IV.str M9,IV.str (DQ c),IV.str VI,IV.str (DU lo),IV.str VM,IV.str (DU hi)] 5=DU hi from rfl,Q5 hc,gD hlo,gD hhi]
 ·obtain ⟨rfl,rfl⟩:=n3 (by decide);obtain ⟨rfl,rfl⟩:=n1 (by decide);show EN [IV.str OK,IV.str (DQ c)]=_;unfold EN;rw [show DX [IV.str OK,IV.str (DQ c)] 0=OK from rfl,dd (show OK.data.toList≠M9.data.toList by decide),A9,UA,BH,show DX [IV.str OK,IV.str (DQ c)] 1=DQ c from rfl,Q5 hc]
 ·obtain ⟨rfl,rfl⟩:=n1 (by decide);cases fl with
  | true=>
   show EN [IV.str ML,IV.str (DQ c),IV.str OL,IV.str (DQ ft)]=_;unfold EN;rw [show DX [IV.str ML,IV.str (DQ c),IV.str OL,IV.str (DQ ft)] 0=ML from rfl,dd (show ML.data.toList≠M9.data.toList by decide),A9,dd (show ML.data.toList≠OK.data.toList by decide),A9,dd (show ML.data.toList≠NA.data.toList by decide),UA,vax,BH,
    show DX [IV.str ML,IV.str (DQ c),IV.str OL,IV.str (DQ ft)] 1=DQ c from rfl,show DX [IV.str ML,IV.str (DQ c),IV.str OL,IV.str (DQ ft)] 3=DQ ft from rfl,Q5 hc,Q5 hft]
  | false=>
   show EN [IV.str NA,IV.str (DQ c),IV.str OL,IV.str (DQ ft)]=_;unfold EN;rw [show DX [IV.str NA,IV.str (DQ c),IV.str OL,IV.str (DQ ft)] 0=NA from rfl,dd (show NA.data.toList≠M9.data.toList by decide),A9,dd (show NA.data.toList≠OK.data.toList by decide),A9,dd (show NA.data.toList≠ML.data.toList by decide),UA,Bool.or_false,BH,
    show DX [IV.str NA,IV.str (DQ c),IV.str OL,IV.str (DQ ft)] 1=DQ c from rfl,show DX [IV.str NA,IV.str (DQ c),IV.str OL,IV.str (DQ ft)] 3=DQ ft from rfl,Q5 hc,Q5 hft]
theorem uC (A B:LI) (i:Nat):DX (A++B) (A.length+i)=DX B i:=by
 unfold DX;congr 1;rw [AI,vbt (by omega),Nat.add_sub_cancel_left];rfl
def KS (q:Qy) (D:Nat):LI:=(NZ :: ((q.spans.take D).map fun s=>M8 s.1 s.2)++[VH,DQ q.bu]).map IV.str
theorem Pd (q:Qy) (D:Nat):(IA q D).map IV.str=(HV q).map IV.str++KS q D:=by
 unfold IA KS;simp
theorem zfY (q:Qy) (hc:EF q.c) (hlo:EF q.lo) (hhi:EF q.hi) (hft:EF q.ft) (hbu:EF q.bu) (hsp:∀ s∈q.spans,EF s.1∧EF s.2) (D:Nat) (h1:1≤D) (h4:D≤4) (hk:q.k=1∨q.k=2∨q.k=3) (ht:q=FZ q D) :
  fZ ((IA q D).map IV.str) (HV q).length D=q:=by
 rw [Pd];have ht':=ht;have n1:q.k≠1→q.lo=0∧q.hi=0:=fun hn=>by
  have e:(q.k==1)=false:=A3.2 hn;have a:=congrArg Qy.lo ht';have b:=congrArg Qy.hi ht';simp only [FZ,e,A9] at a b;exact ⟨a,b⟩
 have n3:q.k≠3→q.ft=0∧q.fl=false:=fun hn=>by
  have e:(q.k==3)=false:=A3.2 hn;have a:=congrArg Qy.ft ht';have b:=congrArg Qy.fl ht';simp only [FZ,e,A9] at a b;exact ⟨a,b⟩
 have hh:=zbW q hc hlo hhi hft hk n1 n3;have hlen:((HV q).map IV.str).length=(HV q).length:=BK ..
 generalize hA:(HV q).map IV.str=A at hh hlen;have htk:AK (HV q).length (A++KS q D)=A:=by rw [← hlen]; exact List.take_left
 have spA_of:∀ (i:Nat) (a b:Int),EF a→DX (KS q D) i=M8 a b→RR (A++KS q D) ((HV q).length+i)=a:=fun i a b ha e=>by
  unfold RR;rw [← hlen,uC,e,(Kz a b).1];exact gD ha
 have spB_of:∀ (i:Nat) (a b:Int),EF b→DX (KS q D) i=M8 a b→RS (A++KS q D) ((HV q).length+i)=b:=fun i a b hb e=>by
  unfold RS;rw [← hlen,uC,e,(Kz a b).2];exact gD hb
 have hlast:(A++KS q D).length - 1=(HV q).length+((KS q D).length - 1):=by
  rw [AS,hlen]
  have:0 < (KS q D).length:=by unfold KS; simp
  omega
 unfold fZ;rw [htk,hh,hlast,← hlen,uC,hlen];clear htk hh hlast;obtain ⟨k,c,a0,b0,a1,b1,a2,b2,a3,b3,a4,b4,lo,hi,ft,fl,bu⟩:=q;have s0:=hsp (a0,b0) (by simp [Qy.spans]);have s1:=hsp (a1,b1) (by simp [Qy.spans]);have s2:=hsp (a2,b2) (by simp [Qy.spans]);have s3:=hsp (a3,b3) (by simp [Qy.spans]);simp only [FZ,Qy.mk.injEq,vaA] at ht;obtain ⟨t1,t2,t3,t4,t5,t6,t7,t8,t9,t10,_⟩:=ht;have hD:D=1∨D=2∨D=3∨D=4:=by omega
 have n45:a4=0∧b4=0:=by
  rw [AL (show ¬ (4:Int) < D by omega)] at t9 t10;exact ⟨t9,t10⟩
 obtain ⟨rfl,rfl⟩:=n45;have hbu:EF bu:=hbu;rcases hD with rfl | rfl | rfl | rfl
 ·simp only [show decide ((1:Int) < ((1:Nat):Int))=false from rfl,show decide ((2:Int) < ((1:Nat):Int))=false from rfl,show decide ((3:Int) < ((1:Nat):Int))=false from rfl,A9] at t3 t4 t5 t6 t7 t8;subst t3 t4 t5 t6 t7 t8;rw [spA_of 1 a0 b0 s0.1 rfl,spB_of 1 a0 b0 s0.2 rfl,show DX (KS ⟨k,c,a0,b0,0,0,0,0,0,0,0,0,lo,hi,ft,fl,bu⟩ 1) ((KS ⟨k,c,a0,b0,0,0,0,0,0,0,0,0,lo,hi,ft,fl,bu⟩ 1).length - 1)=DQ bu from rfl,Q5 hbu];rfl
 ·simp only [show decide ((2:Int) < ((2:Nat):Int))=false from rfl,show decide ((3:Int) < ((2:Nat):Int))=false from rfl,A9] at t5 t6 t7 t8;subst t5 t6 t7 t8;rw [spA_of 1 a0 b0 s0.1 rfl,spB_of 1 a0 b0 s0.2 rfl,spA_of 2 a1 b1 s1.1 rfl,spB_of 2 a1 b1 s1.2 rfl,show DX (KS ⟨k,c,a0,b0,a1,b1,0,0,0,0,0,0,lo,hi,ft,fl,bu⟩ 2) ((KS ⟨k,c,a0,b0,a1,b1,0,0,0,0,0,0,lo,hi,ft,fl,bu⟩ 2).length - 1)=DQ bu from rfl,Q5 hbu];rfl
 ·simp only [show decide ((3:Int) < ((3:Nat):Int))=false from rfl,A9] at t7 t8;subst t7 t8;rw [spA_of 1 a0 b0 s0.1 rfl,spB_of 1 a0 b0 s0.2 rfl,spA_of 2 a1 b1 s1.1 rfl,spB_of 2 a1 b1 s1.2 rfl,spA_of 3 a2 b2 s2.1 rfl,spB_of 3 a2 b2 s2.2 rfl,show DX (KS ⟨k,c,a0,b0,a1,b1,a2,b2,0,0,0,0,lo,hi,ft,fl,bu⟩ 3) ((KS ⟨k,c,a0,b0,a1,b1,a2,b2,0,0,0,0,lo,hi,ft,fl,bu⟩ 3).length - 1)=DQ bu from rfl,Q5 hbu];rfl
 ·rw [spA_of 1 a0 b0 s0.1 rfl,spB_of 1 a0 b0 s0.2 rfl,spA_of 2 a1 b1 s1.1 rfl,spB_of 2 a1 b1 s1.2 rfl,spA_of 3 a2 b2 s2.1 rfl,spB_of 3 a2 b2 s2.2 rfl,spA_of 4 a3 b3 s3.1 rfl,spB_of 4 a3 b3 s3.2 rfl,show DX (KS ⟨k,c,a0,b0,a1,b1,a2,b2,a3,b3,0,0,lo,hi,ft,fl,bu⟩ 4) ((KS ⟨k,c,a0,b0,a1,b1,a2,b2,a3,b3,0,0,lo,hi,ft,fl,bu⟩ 4).length - 1)=DQ bu from rfl,Q5 hbu];rfl
theorem Fa {q:Qy} {d:Int} (h:MF q d=true):1≤d∧d≤4∧q=FZ q d∧KC q.c=true∧KC q.ft=true∧KC q.bu=true∧(q.k=1∨q.k=2∨q.k=3):=by
 unfold MF at h;simp only [AH,B1,BO,vao,B8] at h;obtain ⟨⟨h1,h2⟩,h3,h4,h5,h6,h7⟩:=h;exact ⟨by omega,by omega,Qy.eq_of h3,h4,h5,h6,h7⟩
theorem zji (q:Qy) (D:Nat):IA q D≠[]:=by
 unfold IA;simp
theorem Ti {q:Qy} {d:Int} (hc:EF q.c) (hlo:EF q.lo) (hhi:EF q.hi) (hft:EF q.ft) (hbu:EF q.bu) (hsp:∀ s∈q.spans,EF s.1∧EF s.2) (h:MF q d=true):KW (DZ q d)=true∧ET (DZ q d)=q∧JK (DZ q d)=d:=by
 obtain ⟨h1,h4,ht,_,_,_,hk⟩:=Fa h;obtain ⟨D,rfl⟩:∃ D:Nat,d=D:=⟨d.toNat,by omega⟩;have hp:DZ q (D:Int)=GO (IA q D) FI:=by
  unfold DZ;rw [h];rfl
 have hline:HH (DZ q (D:Int))=(IA q D).map IV.str:=by
  rw [hp];exact Cu _ (zji q D) (zjk q D)
 have hI:NO (DZ q (D:Int))=((HV q).length:Int):=by
  unfold NO;rw [hline,Pd];show F7 ((HV q).map IV.str++IV.str NZ :: _) NZ 0=_;rw [Bg NZ _ _ 0 (zbV q),BK];omega
 have hD:OD (DZ q (D:Int))=(D:Int):=by
  unfold OD;rw [hline,hI,BK]
  have:(IA q D).length=(HV q).length+1+D+2:=by
   unfold IA;simp only [AS,AM,BK,BC,A7,Qy.spans];omega
  rw [this];simp only [ic];omega
 have hQ:fC (DZ q (D:Int))=q:=by
  unfold fC;rw [hline,hI,hD];exact zfY q hc hlo hhi hft hbu hsp D (by omega) (by omega) hk ht
 have hok:KW (DZ q (D:Int))=true:=by
  unfold KW;rw [hI,hD,hQ,AL (show ¬ ((HV q).length:Int) < 0 by omega),AL (show ¬ (D:Int) < 1 by omega),AL (show ¬ (D:Int) > 4 by omega),UA];rfl
 refine ⟨hok,?_,?_⟩
 ·unfold ET;rw [hok,hQ];rfl
 ·unfold JK;rw [hok,hD];rfl
theorem Th {s:BA} (h:KW s=true):DZ (ET s) (JK s)=s∧1≤JK s∧JK s≤4:=by
 unfold ET JK;rw [h];unfold KW at h;simp only [AH,B1,BO] at h;obtain ⟨⟨h1,h2,h3⟩,h4⟩:=h;rw [dV] at h4;exact ⟨A1 h4,by simp only [BH]; omega,by simp only [BH]; omega⟩
theorem rC {q:Qy} {d:Int} (h:MF q d=false):DZ q d=VK:=by
 unfold DZ;rw [h];rfl
open Go
theorem eR (c:UInt8) (x y:List UInt8) (r:List (List UInt8)):va4 (x :: y :: r) [c]=x++c :: va4 (y :: r) [c]:=by
 rw [Lib.join_cons,Lib.join_cons];simp [Lib.joinTail]
theorem sX (c:UInt8):∀ (x:List UInt8) (r:List (List UInt8)),(∀ w∈x :: r,c ∉ w)→vaq (va4 (x :: r) [c]) [c]=x :: r
 | x,[],h=>by rw [Lib.join_one]; exact Lg x c (h x (AN ..))
 | x,y :: r,h=>by
  rw [eR,Lb x _ c (h x (AN ..)),sX c y r (fun w hw=>h w (AW _ hw))]
theorem pS (c e:UInt8) (hne:e≠c):∀ (l:List (List UInt8)),(∀ w∈l,e ∉ w)→e ∉ va4 l [c]
 | [],_=>by rw [Lib.join_nil]; simp
 | [x],h=>by rw [Lib.join_one]; exact h x (AN ..)
 | x :: y :: r,h=>by
  rw [eR];intro hm;rcases AV.1 hm with hm | hm
  ·exact h x (AN ..) hm
  ·rcases AP.1 hm with hm | hm
   ·exact hne hm
   ·exact pS c e hne (y :: r) (fun w hw=>h w (AW _ hw)) hm
structure WsOK (ws:List BA):Prop where
 ne:ws≠[]
 sp:∀ w∈ws,(32:UInt8) ∉ w.data.toList
 lf:∀ w∈ws,(10:UInt8) ∉ w.data.toList
def FY (ws:List BA):IV:=.str (GO ws FI)
theorem o6 (ws:List BA):(GO ws FI).data.toList=va4 (ws.map (·.data.toList)) [32]:=rfl
theorem Cs (ws:List BA):(FU ws).data.toList=(GO ws FI).data.toList++[10]:=by
 unfold FU;simp
theorem tO:∀ (x:List BA) (r:List (List BA)),(GC (x :: r)).data.toList=va4 ((x :: r).map fun ws=>(GO ws FI).data.toList) [10]++[10]
 | x,[]=>by
  have e:GC [x]=FU x:=by
   show FU x++CJ=_;rw [ByteArray.append_empty]
  rw [e,Cs,A0,CB,Lib.join_one]
 | x,y :: r=>by
  have e:(GC (x :: y :: r)).data.toList=(FU x).data.toList++(GC (y :: r)).data.toList:=by
   rw [GC];simp
  rw [e,tO y r,Cs];simp only [A0];rw [eR];simp
theorem Og {s:BA} {l:List UInt8} (h:s.data.toList=l++[10]):(aF s).data.toList=l:=by
 have hz:s.size=l.length+1:=by rw [S9,h,AS]; rfl
 have hs:O2 s PN=true:=by
  unfold O2;have e1:AD PN=1:=rfl;rw [e1,AE (show 1≤s.size by omega),A8,dV];refine AE (UB ?_);rw [vbc,Array.toList_extract,vaE,h,hz];simp
 have e1:AD PN=1:=rfl;unfold aF F1;rw [hs,e1];show (s.extract 0 (s.size - 1)).data.toList=l;rw [vbc,Array.toList_extract,vaE,h,hz];simp
theorem zcx (x:List BA) (r:List (List BA)) (h:∀ ws∈x :: r,WsOK ws):UV (GC (x :: r))=(x :: r).map FY:=by
 unfold UV;have hd:(D3 (aF (GC (x :: r))) PN)=(x :: r).map fun ws=>GO ws FI:=by
  apply j9;rw [La,Og (tO x r)];show vaq (va4 ((x :: r).map fun ws=>(GO ws FI).data.toList) [10]) [10]=_;rw [List.map_map,A0,sX]
  ·rfl
  ·intro w hw;rw [← A0 (f:=fun ws=>(GO ws FI).data.toList)] at hw;obtain ⟨ws,hws,rfl⟩:=CK.1 hw;rw [o6];refine pS 32 10 (by decide) _ fun v hv=>?_
   obtain ⟨u,hu,rfl⟩:=CK.1 hv;exact (h ws hws).lf u hu
 rw [hd,List.map_map];rfl
theorem kD {ws:List BA} (h:WsOK ws) (r:LI):E1 (FY ws :: r)=ws.map IV.str:=Cu ws h.ne h.sp
theorem qC {l:List UInt8} (h:∀ c∈l,45≤c.toNat∧c.toNat≤57):(32:UInt8) ∉ l∧(10:UInt8) ∉ l:=by
 refine ⟨S2 h,fun hc=>?_⟩
 have:=(h _ hc).1
 revert this;decide
theorem W1 {n most:Int} (h0:0≤n) (h1:n≤most) (h2:most≤1000):FQ (DQ n) most=n:=by
 have hv:FK (DQ n)=n:=vG rfl (by omega) (by omega);have hn:KX (DQ n)=true:=by
  unfold KX
  have:(DQ n).data.toList=C5 n:=rfl
  rw [this,vI n (by omega) (by omega)]
 unfold FQ;rw [hn,hv,AL (show ¬ n < 0 by omega),AL (show ¬ n > most by omega)];rfl
theorem VA {n:Int} (h : -2147483648≤n∧n≤2147483647):GE (DU n)=n:=gD (by unfold EF; omega)
structure NdIn (x:Nd):Prop where
 v : -2147483648≤x.v∧x.v≤2147483647
 f:0≤x.f∧x.f < 4
 a : -2147483648≤x.a∧x.a≤2147483647
 l:0≤x.l∧x.l < 31
 r:0≤x.r∧x.r < 31
 lf:x.lf=true→x.f=0∧x.a=0∧x.l=0∧x.r=0
 fk:x.lf=false→x.v=0
theorem oH {n:Int} (h:E5 n=true) : -2147483648≤n∧n≤2147483647:=by
 unfold E5 at h
 rwa [AH,AQ,AQ] at h
theorem zgk {x:Nd} (h:M5 x=true):NdIn x:=by
 obtain ⟨lf,v,f,a,l,r⟩:=x;unfold M5 at h;cases lf with
 | true=>
  simp only [BH,AH,Nd.eq,B8] at h;obtain ⟨⟨_,_,h1,h2,h3,h4,_⟩,hv⟩:=h;subst h1 h2 h3 h4;have z4:(0:Int)≤0∧(0:Int) < 4:=by decide
  have z31:(0:Int)≤0∧(0:Int) < 31:=by decide
  have zf:(-2147483648:Int)≤0∧(0:Int)≤2147483647:=by decide
  exact ⟨oH hv,z4,zf,z31,z31,fun _=>⟨rfl,rfl,rfl,rfl⟩,fun h=>Bool.noConfusion h⟩
 | false=>
  simp only [A9,AH,B8,AQ,Q4] at h;obtain ⟨hv,hf0,hf1,ha,⟨hl0,hl1⟩,hr0,hr1⟩:=h;subst hv;have zf:(-2147483648:Int)≤0∧(0:Int)≤2147483647:=by decide
  have l0:(0:Int)≤l:=by omega
  have r0:(0:Int)≤r:=by omega
  exact ⟨zf,⟨hf0,hf1⟩,oH ha,⟨l0,hl1⟩,⟨r0,hr1⟩,fun h=>Bool.noConfusion h,fun _=>rfl⟩
theorem VP (w:BA) (h:(w.data.toList.all fun c=>!(c==32)&&!(c==10))=true):(32:UInt8) ∉ w.data.toList∧(10:UInt8) ∉ w.data.toList:=by
 rw [CU] at h;refine ⟨fun hc=>?_,fun hc=>?_⟩
 ·have:=h _ hc
  revert this;decide
 ·have:=h _ hc
  revert this;decide
theorem gU {ws:List BA} (hne:ws≠[]) (h:∀ w∈ws,(32:UInt8) ∉ w.data.toList∧(10:UInt8) ∉ w.data.toList):WsOK ws:=⟨hne,fun w hw=>(h w hw).1,fun w hw=>(h w hw).2⟩
theorem XE (n:Int):(32:UInt8) ∉ (DQ n).data.toList∧(10:UInt8) ∉ (DQ n).data.toList:=qC (O4 n)
theorem rD (n:Int):(32:UInt8) ∉ (DU n).data.toList∧(10:UInt8) ∉ (DU n).data.toList:=qC (ZY n)
theorem Ee (x:Nd):WsOK (ME x):=by
 unfold ME;cases x.lf with
 | true=>
  refine gU (by simp) fun w hw=>?_
  simp only [BH,AP,BX,CP] at hw;rcases hw with rfl | rfl
  ·exact VP _ (by decide)
  ·exact rD _
 | false=>
  refine gU (by simp) fun w hw=>?_
  simp only [A9,AP,BX,CP] at hw;rcases hw with rfl | rfl | rfl | rfl | rfl | rfl | rfl | rfl
  ·exact VP _ (by decide)
  ·exact XE _
  ·exact VP _ (by decide)
  ·exact rD _
  ·exact VP _ (by decide)
  ·exact XE _
  ·exact VP _ (by decide)
  ·exact XE _
theorem zf1 {x:Nd} (h:NdIn x):NT ((ME x).map IV.str)=x:=by
 obtain ⟨lf,v,f,a,l,r⟩:=x;obtain ⟨hv,hf,ha,hl,hr,h1,h2⟩:=h;simp only at hv hf ha hl hr h1 h2;cases lf with
 | true=>
  obtain ⟨rfl,rfl,rfl,rfl⟩:=h1 rfl;have e0:NT ((ME ⟨true,v,0,0,0,0⟩).map IV.str)=⟨true,GE (DU v),0,0,0,0⟩:=by
   have:(AZ (DX ((ME ⟨true,v,0,0,0,0⟩).map IV.str) 0)==AZ TJ)=true:=UA _
   unfold NT;rw [this];rfl
  rw [e0,VA hv]
 | false=>
  have h2:=h2 rfl;subst h2;have e0:NT ((ME ⟨false,0,f,a,l,r⟩).map IV.str)=⟨false,0,FQ (DQ f) 4,GE (DU a),FQ (DQ l) 31,FQ (DQ r) 31⟩:=by
   have:(AZ (DX ((ME ⟨false,0,f,a,l,r⟩).map IV.str) 0)==AZ TJ)=false:=dU (x:=lW) (y:=TJ) (by decide)
   unfold NT;rw [this];rfl
  rw [e0,W1 hf.1 (by omega) (by omega),VA ha,W1 hl.1 (by omega) (by omega),W1 hr.1 (by omega) (by omega)]
def Oy (w:IV):Prop:=∃ n,w = .int n
def Oz (t:IV):Prop:=∃ k l,t = .agg [.int k,.list l]∧∀ w∈l,Oy w
def YG (m:Md):Prop:=∀ t∈m.ts,Oz t
theorem Ei {dim n:Int}:∀ {l:LI} {i:Nat},KO dim n i l=true→∀ w∈l,GK w.toInt=true
 | [],_,_,w,hw=>by cases hw
 | x :: l,i,h,w,hw=>by
  unfold KO at h;rw [AH,AH] at h;rcases AP.1 hw with rfl | hw
  ·exact h.1.1
  ·exact Ei h.2 w hw
theorem ziT {d c:Int} {t:IV} (h:HM d c t=true):0≤(t.cell 0).toInt∧(t.cell 0).toInt < c∧1≤(t.cell 1).toList.length∧(t.cell 1).toList.length≤31∧∀ w∈(t.cell 1).toList,GK w.toInt=true:=by
 unfold HM G4 at h;simp only [AH,B1,BO] at h;obtain ⟨h1,h2,⟨h3,h4⟩,h5,_⟩:=h;exact ⟨by omega,by omega,AO h3,AO h4,Ei h5⟩
theorem zf2 {l:LI} (hw:∀ w∈l,Oy w) (hn:∀ w∈l,GK w.toInt=true) (R:LI):M2 ((HY l).map FY++R) l.length=l:=by
 apply List.ext_getElem?;intro i;unfold M2;by_cases hi:i < l.length
 ·rw [CA,List.getElem?_range hi];have hdr:AT i ((HY l).map FY++R)=FY (ME (DM l[i].toInt)) :: (((HY l).map FY).drop (i+1)++R):=by
   have hl:((HY l).map FY).length=l.length:=by simp [HY]
   rw [List.drop_append_of_le_length (by omega),BF (by omega)];simp [HY]
  have hb:=hn l[i] (C1 hi);obtain ⟨p1,p2⟩:=kF hb;obtain ⟨n,hn'⟩:=hw l[i] (C1 hi);have e:(IV.int (IY (NT (E1 (AT i ((HY l).map FY++R))))))=l[i]:=by
   rw [hdr,kD (Ee _),zf1 (zgk p2),p1,hn'];rfl
  show some (IV.int (IY (NT (E1 (AT i ((HY l).map FY++R))))))=_;rw [e,BE hi]
 ·rw [BZ (by simp; omega),BZ (by omega)]
theorem Ny (t:IV):∀ ws∈TE t,WsOK ws:=by
 intro ws hws;unfold TE at hws;rcases AP.1 hws with rfl | hws
 ·refine gU (by simp) fun w hw=>?_
  simp only [AP,BX,CP] at hw;rcases hw with rfl | rfl | rfl
  ·exact VP _ (by decide)
  ·exact XE _
  ·exact XE _
 ·unfold HY at hws;obtain ⟨w,_,rfl⟩:=CK.1 hws;exact Ee _
theorem Hd {d c:Int} (hc:c≤3):∀ (n:Nat) (ts:LI),ts.length≤n→(∀ t∈ts,Oz t)→ts.all (HM d c)=true→LP n ((GZ ts).map FY)=ts
 | 0,[],_,_,_=>rfl
 | 0,_ :: _,h,_,_=>by simp at h
 | n+1,[],_,_,_=>rfl
 | n+1,t :: r,h,hw,ht=>by
  rw [vay,AH] at ht;obtain ⟨k,l,rfl,hl⟩:=hw t (AN ..);obtain ⟨h1,h2,h3,h4,h5⟩:=ziT ht.1;have h1:0≤k:=h1;have h2:k < c:=h2;have h3:1≤l.length:=h3;have h4:l.length≤31:=h4;have h5:∀ w∈l,GK w.toInt=true:=h5;have hws:=Ny (.agg [.int k,.list l]) [OM,DQ k,DQ (ic l.length)] (AN ..);have e:(GZ (.agg [.int k,.list l] :: r)).map FY=FY [OM,DQ k,DQ (ic l.length)] :: ((HY l).map FY++(GZ r).map FY):=by
   show (([OM,DQ k,DQ (ic l.length)] :: HY l)++GZ r).map FY=_;rw [List.map_append,A0];rfl
  have hnx:=kD hws ((HY l).map FY++(GZ r).map FY);have hk:M1 (FY [OM,DQ k,DQ (ic l.length)] :: ((HY l).map FY++(GZ r).map FY))=l.length:=by
   unfold M1;rw [hnx];show (FQ (DQ (ic l.length)) 31).toNat=_;rw [W1 (by simp only [ic]; omega) (by simp only [ic]; omega) (by omega)];simp only [ic];omega
  have hr:Z0 (FY [OM,DQ k,DQ (ic l.length)] :: ((HY l).map FY++(GZ r).map FY)) = .agg [.int k,.list l]:=by
   unfold Z0;rw [hk,hnx];show IV.agg [IV.int (FQ (DQ k) 3),IV.list (M2 ((HY l).map FY++(GZ r).map FY) l.length)]=_;rw [W1 h1 (by omega) (by omega),zf2 hl h5]
  have hdl:AT l.length ((HY l).map FY++(GZ r).map FY)=(GZ r).map FY:=by
   have:l.length=((HY l).map FY).length:=by simp [HY]
   rw [this,List.drop_left]
  rw [e,LP,hr,hk,hdl,Hd hc n r (by simp at h; omega) (fun t ht=>hw t (AW _ ht)) ht.2]
theorem zcH {m:Md} (h:E0 m=true):(1≤m.d∧m.d≤4)∧(1≤m.c∧m.c≤3)∧m.ts.length≤8∧(HU m.c 0 m.b0=true∧HU m.c 1 m.b1=true∧HU m.c 2 m.b2=true)∧m.ts.all (HM m.d m.c)=true:=by
 unfold E0 at h;simp only [AH,B1,BO] at h;obtain ⟨⟨h1,h2,h3,h4,h5⟩,⟨h6,h7,h8⟩,h9⟩:=h;exact ⟨⟨by omega,by omega⟩,⟨by omega,by omega⟩,AO h5,⟨h6,h7,h8⟩,h9⟩
theorem mT {c j b:Int} (h:HU c j b=true):(-2147483648≤b∧b≤2147483647)∧(c≤j→b=0):=by
 unfold HU at h;rw [AH] at h;refine ⟨oH h.1,fun hj=>?_⟩
 have:=h.2
 rw [AE (show j≥c from hj)] at this;simpa using this
theorem oN (m:Md):∀ ws∈SY m,WsOK ws:=by
 intro ws hws;unfold SY at hws;simp only [AP,BX,CP] at hws;rcases hws with rfl | rfl
 ·refine gU (by simp) fun w hw=>?_
  simp only [AP,BX,CP] at hw;rcases hw with rfl | rfl | rfl
  ·exact VP _ (by decide)
  ·exact XE _
  ·exact XE _
 ·refine gU (by simp) fun w hw=>?_
  rcases AP.1 hw with rfl | hw
  ·exact VP _ (by decide)
  ·obtain ⟨b,_,rfl⟩:=CK.1 hw;exact rD _
theorem Oa:∀ (ts:LI),∀ ws∈GZ ts,WsOK ws
 | [],ws,h=>by cases h
 | t :: r,ws,h=>by
  rw [GZ] at h;rcases AV.1 h with h | h
  ·exact Ny t ws h
  ·exact Oa r ws h
theorem zf0 {m:Md} (h:E0 m=true) (hw:YG m):rJ ((MB m).map FY)=m:=by
 obtain ⟨hd,hc,hl,⟨g0,g1,g2⟩,ht⟩:=zcH h;obtain ⟨d,c,b0,b1,b2,ts⟩:=m;simp only at hd hc hl g0 g1 g2 ht;obtain ⟨i0,_⟩:=mT g0;obtain ⟨i1,z1⟩:=mT g1;obtain ⟨i2,z2⟩:=mT g2;have hh1:=oN ⟨d,c,b0,b1,b2,ts⟩ [NY,DQ d,DQ c] (AN ..);have hh2:=oN ⟨d,c,b0,b1,b2,ts⟩ (I5 :: ([b0,b1,b2].take c.toNat).map DU) (AW _ (AN ..));have e:(MB ⟨d,c,b0,b1,b2,ts⟩).map FY=FY [NY,DQ d,DQ c] :: FY (I5 :: ([b0,b1,b2].take c.toNat).map DU) :: (GZ ts).map FY:=rfl;have hn1:=kD hh1 (FY (I5 :: ([b0,b1,b2].take c.toNat).map DU) :: (GZ ts).map FY);have hn2:=kD hh2 ((GZ ts).map FY);have hC:ZZ ((MB ⟨d,c,b0,b1,b2,ts⟩).map FY)=c:=by
  unfold ZZ;rw [e,hn1];show FQ (DQ c) 3=c;exact W1 (by omega) (by omega) (by omega)
 have hT:LP 9 (AT 2 ((MB ⟨d,c,b0,b1,b2,ts⟩).map FY))=ts:=by
  rw [e];show LP 9 ((GZ ts).map FY)=ts;exact Hd (by omega) 9 ts (by omega) hw ht
 have hD:FQ (DX (E1 ((MB ⟨d,c,b0,b1,b2,ts⟩).map FY)) 1) 4=d:=by
  rw [e,hn1];show FQ (DQ d) 4=d;exact W1 (by omega) (by omega) (by omega)
 have hB:∀ j,LO ((MB ⟨d,c,b0,b1,b2,ts⟩).map FY) c j=cond (decide ((j:Int) < c)) (GE (DX ((I5 :: ([b0,b1,b2].take c.toNat).map DU).map IV.str) (1+j))) 0:=fun j=>by
  unfold LO;rw [e];show cond _ (GE (DX (E1 (FY (I5 :: ([b0,b1,b2].take c.toNat).map DU) :: (GZ ts).map FY)) (1+j))) 0=_;rw [hn2]
 unfold rJ;rw [hC,hT,hD,hB,hB,hB];obtain ⟨C,rfl⟩:∃ C:Nat,c=(C:Int):=⟨c.toNat,by omega⟩;have w0:∀ l,DX ((I5 :: l).map IV.str) (1+0)=DX (l.map IV.str) 0:=fun l=>rfl
 have w1:∀ l,DX ((I5 :: l).map IV.str) (1+1)=DX (l.map IV.str) 1:=fun l=>rfl
 have w2:∀ l,DX ((I5 :: l).map IV.str) (1+2)=DX (l.map IV.str) 2:=fun l=>rfl
 have v0:∀ x l,DX ((x :: l).map IV.str) 0=x:=fun x l=>rfl
 have v1:∀ x y l,DX ((x :: y :: l).map IV.str) 1=y:=fun x y l=>rfl
 have v2:∀ x y z l,DX ((x :: y :: z :: l).map IV.str) 2=z:=fun x y z l=>rfl
 rw [w0,w1,w2,BD];rcases (show C=1∨C=2∨C=3 by omega) with rfl | rfl | rfl
 ·
  have y1:=z1 (by omega);have y2:=z2 (by omega);have t:([b0,b1,b2].take 1).map DU=[DU b0]:=rfl;rw [t,v0,VA i0,AE (show ((0:Nat):Int) < ((1:Nat):Int) by omega),AL (show ¬ ((1:Nat):Int) < ((1:Nat):Int) by omega),AL (show ¬ ((2:Nat):Int) < ((1:Nat):Int) by omega),y1,y2];rfl
 ·
  have y2:=z2 (by omega);have t:([b0,b1,b2].take 2).map DU=[DU b0,DU b1]:=rfl;rw [t,v0,v1,VA i0,VA i1,AE (show ((0:Nat):Int) < ((2:Nat):Int) by omega),AE (show ((1:Nat):Int) < ((2:Nat):Int) by omega),AL (show ¬ ((2:Nat):Int) < ((2:Nat):Int) by omega),y2];rfl
 ·
  have t:([b0,b1,b2].take 3).map DU=[DU b0,DU b1,DU b2]:=rfl;rw [t,v0,v1,v2,VA i0,VA i1,VA i2,AE (show ((0:Nat):Int) < ((3:Nat):Int) by omega),AE (show ((1:Nat):Int) < ((3:Nat):Int) by omega),AE (show ((2:Nat):Int) < ((3:Nat):Int) by omega)];rfl
theorem tP {m:Md} (h:E0 m=true) (hw:YG m):KE (EC m)=true∧GH (EC m)=m:=by
 have hp:EC m=GC (MB m):=by unfold EC; rw [h]; rfl
 have hc:Y5 (EC m)=m:=by
  unfold Y5
  have:UV (EC m)=(MB m).map FY:=by
   rw [hp];exact zcx _ _ (fun ws hws=>by
    have hws:ws∈SY m++GZ m.ts:=hws;rcases AV.1 hws with hws | hws
    ·exact oN m ws hws
    ·exact Oa m.ts ws hws)
  rw [this,zf0 h hw]
 have hk:KE (EC m)=true:=by
  unfold KE;rw [hc,UA,B9]
  have:((EC m).toList==VK.toList)=false:=dU (fun e=>by
   have hd:=tO [NY,DQ m.d,DQ m.c] ((I5 :: ([m.b0,m.b1,m.b2].take m.c.toNat).map DU) :: GZ m.ts);have e':GC (MB m)=VK:=by rw [← hp,e]
   have:GC (MB m)=GC ([NY,DQ m.d,DQ m.c] :: ((I5 :: ([m.b0,m.b1,m.b2].take m.c.toNat).map DU) :: GZ m.ts)):=rfl
   rw [← this,e'] at hd
   have:=congrArg AG hd
   rw [AS] at this;simp at this)
  rw [this];rfl
 refine ⟨hk,?_⟩;unfold GH;rw [hk,hc];rfl
theorem Dr (d c:Int) (bias ts:LI):YG (kC d c bias ts):=by
 intro t ht;have ht:t∈RU d c ts:=ht;unfold RU at ht;obtain ⟨u,_,rfl⟩:=CK.1 ht;refine ⟨_,_,rfl,fun w hw=>?_⟩;unfold MY at hw;obtain ⟨x,_,rfl⟩:=CK.1 hw;exact ⟨_,rfl⟩
open Go
def HW (L:List (List UInt8)):List UInt8:=L.flatMap fun l=>l++[10]
theorem P3 (l:List UInt8) (L:List (List UInt8)):HW (l :: L)=l++10 :: HW L:=by simp [HW]
theorem Cz:∀ (L:List (List UInt8)) (pre r:List UInt8),(∀ l∈L,(10:UInt8) ∉ l)→O5 (pre++(HW L++r)) L.length pre.length=some (pre.length+(HW L).length)
 | [],pre,r,_=>by simp [O5,HW]
 | l :: L,pre,r,h=>by
  have e1:pre++(HW (l :: L)++r)=(pre++(l++[10]))++(HW L++r):=by rw [P3]; simp
  have e2:(pre++(HW (l :: L)++r)).drop pre.length=l++10 :: (HW L++r):=by rw [List.drop_left,P3]; simp
  rw [AM,O5,e2,jK l _ 10 (h l (AN ..))];rw [AL (show ¬ ((l.length:Nat):Int) < 0 by omega),DK,e1];have e3:pre.length+((l.length:Nat):Int).toNat+1=(pre++(l++[10])).length:=by simp; omega
  rw [e3,Cz L (pre++(l++[10])) r (fun x hx=>h x (AW _ hx)),P3];simp;omega
theorem zL {s:BA} {L:List (List UInt8)} {r:List UInt8} (h:s.data.toList=HW L++r) (hL:∀ l∈L,(10:UInt8) ∉ l) :
  LD s (L.length:Int)=true∧(I9 s (L.length:Int)).data.toList=HW L∧(SS s (L.length:Int)).data.toList=r:=by
 have hk:O5 s.data.toList ((L.length:Nat):Int).toNat 0=some (HW L).length:=by
  have:=Cz L [] r hL
  rw [DA,A7,BL] at this;rw [h,BD];exact this
 have ho:LD s (L.length:Int)=true:=by unfold LD; rw [hk]; rfl
 have ha:d7 s (L.length:Int)=(HW L).length:=by unfold d7; rw [hk]; rfl
 have hz:s.size=(HW L).length+r.length:=by rw [QE,h,AS]
 refine ⟨ho,?_,?_⟩
 ·unfold I9;rw [ho,DJ,ha,vbc,Array.toList_extract,vaE,h];simp
 ·unfold SS;rw [ho,DJ,ha,vbc,Array.toList_extract,vaE,h,hz];simp
theorem ziZ {s:BA} {l:List UInt8} (h:s.data.toList=l++[10]):(F1 s ES).data.toList=l:=Og h
def TG (v:Vd):List (List UInt8):=
 cond (v.kind==1) (HX IZ.data.toList [v.spent,ic v.proof.length] :: v.proof.map VD)
  (cond (v.kind==2) [HX QL.data.toList [v.spent,v.w0,v.w1,v.w2,v.w3,v.twin]]
   (cond (v.kind==3) [HX QM.data.toList [v.spent]] [HX QN.data.toList [v.spent]]))
theorem Mz:∀ (l:LI),NW l=HW (l.map VD)
 | []=>rfl
 | x :: l=>by rw [NW,Mz l,A0,P3]
theorem Ou {v:Vd} (h:v.right=true):(EI v).data.toList=HW (TG v):=by
 unfold EI TG;rw [h,DJ];cases v.kind==1 with
 | true=>
  rw [DJ,DJ,rA,P4,Mz,P3];simp [IV.toInt]
 | false=>
  rw [DK,DK];cases v.kind==2 with
  | true=>
   rw [DJ,DJ,P4,P3];simp [IV.toInt,HW]
  | false=>
   rw [DK,DK];cases v.kind==3 with
   | true=>
    rw [DJ,DJ,P4,P3];simp [IV.toInt,HW]
   | false=>
    rw [DK,DK,P4,P3];simp [IV.toInt,HW]
theorem zio (x:IV):(10:UInt8) ∉ VD x:=by
 unfold VD;cases G3 x with
 | true=>exact XF 10 (by decide) (by decide) _
 | false=>exact XF 10 (by decide) (by decide) _
theorem zja (v:Vd):∀ l∈TG v,(10:UInt8) ∉ l:=by
 intro l hl;unfold TG at hl;cases h1:v.kind==1 with
 | true=>
  rw [h1,DJ] at hl;rcases AP.1 hl with rfl | hl
  ·exact XF 10 (by decide) (by decide) _
  ·obtain ⟨x,_,rfl⟩:=CK.1 hl;exact zio x
 | false=>
  rw [h1,DK] at hl;cases h2:v.kind==2 with
  | true=>
   rw [h2,DJ] at hl;obtain rfl:=BJ.1 hl;exact XF 10 (by decide) (by decide) _
  | false=>
   rw [h2,DK] at hl;cases h3:v.kind==3 with
   | true=>
    rw [h3,DJ] at hl;obtain rfl:=BJ.1 hl;exact XF 10 (by decide) (by decide) _
   | false=>
    rw [h3,DK] at hl;obtain rfl:=BJ.1 hl;exact XF 10 (by decide) (by decide) _
theorem Ot (v:Vd):∃ w ns L,TG v=HX w ns :: L∧(32:UInt8) ∉ w∧(10:UInt8) ∉ w ∧
  ((v.kind=1∧w=IZ.data.toList∧ns=[v.spent,ic v.proof.length]∧L.length=v.proof.length)∨(w≠IZ.data.toList∧L=[])):=by
 unfold TG;by_cases h1:v.kind=1
 ·refine ⟨IZ.data.toList,[v.spent,ic v.proof.length],v.proof.map VD,by rw [h1]; rfl,by decide,by decide,.inl ⟨h1,rfl,rfl,by simp⟩⟩
 rw [A3.2 h1,DK];cases h2:v.kind==2 with
 | true=>exact ⟨_,_,[],rfl,by decide,by decide,.inr ⟨by decide,rfl⟩⟩
 | false=>
  cases h3:v.kind==3 with
  | true=>exact ⟨_,_,[],rfl,by decide,by decide,.inr ⟨by decide,rfl⟩⟩
  | false=>exact ⟨_,_,[],rfl,by decide,by decide,.inr ⟨by decide,rfl⟩⟩
theorem uL {s:BA} {w:List UInt8} {l:List Int} (h:s.data.toList=HX w l++[10]) (h32:(32:UInt8) ∉ w):(NQ s).map (fun x=>x.toStr.data.toList)=w :: l.map C5:=by
 unfold NQ;rw [List.map_map]
 have:((fun x=>x.toStr.data.toList) ∘ IV.str)=fun b:BA=>b.data.toList:=rfl
 rw [this,lE,ziZ h];exact sZ l w h32
theorem zcA {s:BA} {w:List UInt8} {l:List Int} (h:s.data.toList=HX w l++[10]) (h32:(32:UInt8) ∉ w) (hw:w≠IZ.data.toList):LG s=1:=by
 unfold LG;rw [N1 (uL h h32) IZ,A3.2 hw];rfl
theorem Tl {s:BA} {w:List UInt8} {a n:Int} (h:s.data.toList=HX w [a,n]++[10]) (h32:(32:UInt8) ∉ w) (hn:G9 n):KX (DX (NQ s) 2)=true∧FK (DX (NQ s) 2)=n:=by
 have hm:=uL h h32;have hx:(DX (NQ s) 2).data.toList=C5 n:=by
  match hq:NQ s,hm with
  | [x,y,z],hm=>
   simp only [A0,CB,vau] at hm;exact hm.2.2.1
  | [],hm=>cases hm
  | [_],hm=>simp at hm
  | [_,_],hm=>simp at hm
  | _ :: _ :: _ :: _ :: _,hm=>simp at hm
 refine ⟨?_,vH hx hn.1 hn.2⟩;unfold KX;rw [hx,vJ n hn.1 hn.2]
theorem zcz {s:BA} {a:Int} {k:Nat} (h:s.data.toList=HX IZ.data.toList [a,ic k]++[10]) (hk:k≤65536):LG s=((k+1:Nat):Int):=by
 have hm:=uL h (by decide);have hlen:(NQ s).length=3:=by
  have:=congrArg AG hm
  simpa using this
 have hat:=Tl h (by decide) (Co hk);unfold LG;rw [N1 hm IZ,hlen,hat.1,hat.2];rw [show ic k=((k:Nat):Int) from rfl];rw [AL (show ¬ ((k:Nat):Int) < 0 by omega),AL (show ¬ ((k:Nat):Int) > 65536 by omega)];simp only [DG,A2,Bool.or_false,DK,show (ic 3==3)=true from rfl];rw [show FR (1+((k:Nat):Int))=1+((k:Nat):Int) from EO (by omega) (by omega)];omega
theorem zjc {v:Vd} (hr:v.right=true) {s:BA} {l:List UInt8} {L:List (List UInt8)} (hv:TG v=l :: L) (h:s.data.toList=l++[10]):LG s=((TG v).length:Int):=by
 obtain ⟨w,ns,M,e,h32,h10,hc⟩:=Ot v;rw [e] at hv;obtain ⟨rfl,rfl⟩:=List.cons.inj hv;rcases hc with ⟨hk,rfl,rfl,hl⟩ | ⟨hw,rfl⟩
 ·have hp:=rU hr;rw [zcz h hp,e,AM,hl]
 ·rw [zcA h h32 hw,e];rfl
theorem zfy (s t:BA):OB (s++t) s=true∧GI (s++t) s=t:=by
 have h:Lib.hasPrefix (s++t).data.toList s.data.toList=true:=by
  unfold Lib.hasPrefix;rw [List.isPrefixOf_iff_prefix,NI];exact List.prefix_append _ _
 refine ⟨h,Y2 ?_⟩;unfold GI Lib.trimPrefix;rw [BP h,NI];simp
theorem zgt {v:Vd} (hr:v.right=true) (hv:v.rng) (i:Nat) (t:BA) :
  kV (F2 i++(EI v++t)) i=true∧QB (F2 i++(EI v++t)) i=EI v∧Z4 (F2 i++(EI v++t)) i=t:=by
 have hp:=zfy (F2 i) (EI v++t);have er:KA (F2 i++(EI v++t)) i=EI v++t:=hp.2;have hd:(EI v++t).data.toList=HW (TG v)++t.data.toList:=by rw [NI,Ou hr]
 have hno:=zja v;obtain ⟨w,ns,M,e,h32,h10,hc⟩:=Ot v;have hd1:(EI v++t).data.toList=HW [HX w ns]++(HW M++t.data.toList):=by rw [hd,e,P3]; simp [HW]
 obtain ⟨a1,a2,a3⟩:=zL hd1 (fun l hl=>hno l (by rw [e]; obtain rfl:=BJ.1 hl; exact AN ..));have hfirst:(I9 (EI v++t) 1).data.toList=HX w ns++[10]:=by
  refine a2.trans ?_;simp [HW]
 have hcnt:=zjc hr e hfirst;obtain ⟨b1,b2,b3⟩:=zL hd hno;rw [← hcnt] at b1 b2 b3;have hown:QB (F2 i++(EI v++t)) i=EI v:=by
  unfold QB;rw [er];exact Y2 (b2.trans (Ou hr).symm)
 refine ⟨?_,hown,?_⟩
 ·unfold kV;rw [hown,er,hp.1,b1,Fw hv,hr];rw [show LD (EI v++t) 1=true from a1];rfl
 ·unfold Z4;rw [er];exact Y2 b3
def JX:Nat→List Vd→BA
 | _,[]=>D8
 | i,v :: r=>F2 i++(EI v++JX (i+1) r)
theorem oO (i:Nat):0 < (F2 i).size:=by
 unfold F2;rw [AY];show 0 < _+1;omega
theorem zjd (i:Nat) (v:Vd) (r:List Vd):((JX i (v :: r)).toList==D8.toList)=false:=by
 rw [SL];refine AL fun h=>?_
 have:=congrArg AD h
 have hp:=oO i;unfold JX at this;rw [AY] at this;have e:D8.size=0:=rfl;omega
theorem uA:∀ (i:Nat) (vs:List Vd),vs.length≤(JX i vs).size
 | _,[]=>AX _
 | i,v :: r=>by
  have:=uA (i+1) r
  have hp:=oO i;unfold JX;rw [AY,AY,AM];omega
def I8 (v:Vd):IV:=(JS (EI v)).I
theorem Nr:∀ (vs:List Vd) (n i:Nat) (out:LI),vs.length < n→(∀ v∈vs,v.right=true∧v.rng)→TC n i (JX i vs) out=some (out++vs.map I8)
 | [],n+1,i,out,_,_=>by
  unfold TC;rw [show ((JX i []).toList==D8.toList)=true by simp [JX],DJ];simp
 | v :: r,n+1,i,out,hn,h=>by
  have hv:=h v (AN ..);obtain ⟨h1,h2,h3⟩:=zgt hv.1 hv.2 i (JX (i+1) r);have ih:=Nr r n (i+1) (out++[I8 v]) (by simp only [AM] at hn; omega) (fun x hx=>h x (AW _ hx));unfold TC;rw [zjd,DK];rw [show JX i (v :: r)=F2 i++(EI v++JX (i+1) r) from rfl,h1,DJ,h2,h3];show TC n (i+1) (JX (i+1) r) (out++[I8 v])=_;rw [ih,A0];simp
 | [],0,_,_,h,_=>by simp at h
 | _ :: _,0,_,_,h,_=>by simp at h
theorem Nu (vs:List Vd) (h:∀ v∈vs,v.right=true∧v.rng):KT (JX 0 vs)=some (vs.map I8):=by
 unfold KT;rw [Nr vs _ 0 [] (by have:=uA 0 vs; omega) h];rfl
theorem zjb (v:Vd):TF v.I=v:=rfl
theorem mQ {v:Vd} (hr:v.right=true) (hv:v.rng):VSame (TF (I8 v)) v:=by
 unfold I8;rw [zjb];unfold JS;rw [Fw hv,hr,DJ];exact Hg hr hv
open Go
theorem Gs:∀ {l:LI} {left out:LI} {most:Int} {st:Int × Int} {lo:LI × LI},(∀ y∈left,(D9 y).good)→(∀ y∈out,(D9 y).good)→JA l (ic left.length,most)=some st→IH l (left,out)=some lo→∀ x∈l,JF x=true∧PI x
 | [],_,_,_,_,_,_,_,_,_=>fun x hx=>by cases hx
 | x :: l,left,out,most,st,lo,hl,ho,hd,hp=>by
  rw [JA] at hd;rw [IH] at hp;cases h1:LE (ic left.length,most) x with
  | none=>rw [h1] at hd; cases hd
  | some s1=>
   cases h2:LN (left,out) x with
   | none=>rw [h2] at hp; cases hp
   | some l1=>
    rw [h1] at hd;rw [h2] at hp;obtain ⟨g1,g2,g3⟩:=Gt hl ho h1 h2;have hx:JF x=true∧PI x:=by
     obtain ⟨hne,hr,hd'⟩:=nW h1;refine ⟨hr,?_⟩;have hlen:0 < left.length:=by simp only [ic] at hne; omega
     have ht:(D2 left).good:=hl _ (VF hlen).1;unfold LN at h2;rcases hd' with ⟨hs,_⟩ | ⟨hs,_⟩
     ·unfold JF at hr;rw [hs,DJ] at hr;simp only [AH,B8] at hr;unfold PI G9;omega
     ·have hpl:=rT hr hs;rw [hs] at h2;cases hc:(decide (FV x < ((D2 left).g (FC x).toNat).lo)||decide (FV x≥((D2 left).g (FC x).toNat).hi)) with
      | true=>simp only [hc,A9,BH] at h2; cases h2
      | false=>
       simp only [vas,BO] at hc
       have:=ht (FC x).toNat (by omega)
       unfold PI G9;omega
    obtain ⟨a,b⟩:=l1;obtain ⟨c,d⟩:=s1;obtain rfl:c=ic a.length:=g3;have ih:=Gs g1 g2 hd hp;intro y hy;rcases AP.1 hy with rfl | hy
    ·exact hx
    ·exact ih y hy
theorem zgn {x:IV} (h:JF x=true):PJ x=true:=by
 unfold JF at h;unfold PJ;cases hs:G3 x with
 | true=>
  rw [hs,DJ] at h;simp only [AH,B8] at h;simp [h.1,h.2]
 | false=>
  rw [hs,DK] at h;simpa using h
theorem Tm {m:Md} {q:Qy} {s:Sr} (h:s.v.kind=2∨s.v.bare=true):(GM m q s).v.kind=2∨(GM m q s).v.bare=true:=by
 unfold GM;cases G0 m q (D2 s.left) with
 | true=>
  rw [DJ];cases (ic (s.left.length - 1)==0) with
  | true=>exact .inr rfl
  | false=>exact h
 | false=>
  rw [DK];cases HJ m q (D2 s.left).low (D2 s.left).s4.hi with
  | true=>exact .inl rfl
  | false=>
   rw [DK];cases (E2 m q (D2 s.left)).isSome with
   | true=>exact h
   | false=>exact .inr rfl
theorem vL {m:Md} {q:Qy}:∀ (d:Nat) (s:Sr),s.v.kind=2∨s.v.bare=true→(LR m q d s).v.kind=2∨(LR m q d s).v.bare=true
 | 0,_,h=>h
 | d+1,s,h=>by
  rw [LR];cases JR q s with
  | true=>exact h
  | false=>exact vL d _ (Tm h)
theorem zgx (m:Md) (q:Qy):(FN m q).kind=2∨(FN m q).bare=true:=by
 have hn:(RH m q).v.kind=2∨(RH m q).v.bare=true:=by
  unfold RH;cases FB m q <;> exact .inr rfl
 have h:=vL (m:=m) (q:=q) (q.bu.toNat+1) _ hn;unfold FN;generalize LR m q (q.bu.toNat+1) (RH m q)=s at h;rcases h with h | h
 ·exact .inl (by simp [GS,h])
 ·exact .inr h
theorem zbS {b:Bx} (hb:b.good) {p:Pt} {t:Int} (h:b.has p t=true):G9 p.p0∧G9 p.p1∧G9 p.p2∧G9 p.p3∧G9 t:=by
 unfold Bx.has Sp.has at h;simp only [AH,AQ] at h;have h0 : -2147483648≤b.s0.lo∧b.s0.lo≤b.s0.hi∧b.s0.hi≤2147483647:=hb 0 (by omega);have h1 : -2147483648≤b.s1.lo∧b.s1.lo≤b.s1.hi∧b.s1.hi≤2147483647:=hb 1 (by omega);have h2 : -2147483648≤b.s2.lo∧b.s2.lo≤b.s2.hi∧b.s2.hi≤2147483647:=hb 2 (by omega);have h3 : -2147483648≤b.s3.lo∧b.s3.lo≤b.s3.hi∧b.s3.hi≤2147483647:=hb 3 (by omega);have h4 : -2147483648≤b.s4.lo∧b.s4.lo≤b.s4.hi∧b.s4.hi≤2147483647:=hb 4 (by omega);unfold G9;omega
open Go
theorem rW {m:Md} {q:Qy} (hr:FB m q=true):(FN m q).right=true∧(FN m q).rng∧((FN m q).kind=1∨(FN m q).kind=2∨(FN m q).kind=3)∧(FN m q).spent≤q.bu ∧
  ((FN m q).kind=3→(FN m q).spent=q.bu)∧((FN m q).kind≠3→1≤(FN m q).spent):=by
 have h3:=(XU hr).2.2.1;have hb:=zgx m q;have hg:=tG hr;have hnew:RH m q=⟨[(GR q).I],[],Vd.none,0⟩:=by unfold RH; rw [hr,DJ]
 obtain ⟨hi,ho⟩:=rS hr (q.bu.toNat+1) _ (Hv hr) (by show q.bu < 0+_; omega);unfold FN at hb ⊢;rw [hnew] at hb ⊢;generalize LR m q (q.bu.toNat+1) _=s at hi ho hb;have hsp:=hi.sp;have r0:decide (0≤(GS s).spent)=true:=AE hsp.1;have r1:decide ((GS s).spent≤65536)=true:=AE (by show s.spent≤65536; omega);have hspI:G9 (GS s).spent:=by show G9 s.spent; unfold G9; omega
 have bare_rng:(GS s).bare=true→(∀ x∈(GS s).proof,PI x)→(GS s).rng:=fun hbare hst=>by
  obtain ⟨z0,z1,z2,z3,z4⟩:=mR hbare;exact { w0:=by rw [z0]; exact GT,w1:=by rw [z1]; exact GT,w2:=by rw [z2]; exact GT,w3:=by rw [z3]; exact GT,twin:=by rw [z4]; exact GT,spent:=hspI,proof:=hst }
 rcases hi.kinds with hk | hk | hk
 ·have ek:(GS s).kind=3:=by simp [GS,hk]
  have hnil:(GS s).proof=[]:=(hi.opn hk).2.2.2.1;have hbare:(GS s).bare=true:=by
   rcases hb with h | h
   ·omega
   ·exact h
  have heq:s.spent=q.bu:=by
   unfold JR at ho;rw [hk] at ho
   have:s.spent≥q.bu:=by simpa using ho
   omega
  refine ⟨?_,bare_rng hbare (fun x hx=>by rw [hnil] at hx; cases hx),.inr (.inr ek),hsp.2,fun _=>heq,fun h=>absurd ek h⟩;unfold Vd.right;rw [r0,r1,hnil,hbare,show ((GS s).kind==3)=true by rw [ek]; rfl];simp
 ·have ek:(GS s).kind=1:=by simp [GS,hk]
  have hbare:(GS s).bare=true:=by
   rcases hb with h | h
   ·omega
   ·exact h
  obtain ⟨hrp,hl,hlen,hvp⟩:=hi.holds hk;have epr:(GS s).proof=s.proof:=hvp;obtain ⟨outs,hps,_⟩:=hrp.ps;obtain ⟨most,hdp,_,_⟩:=hrp.dp;have hst:∀ x∈(GS s).proof,JF x=true∧PI x:=by
   rw [epr];refine Gs (left:=[(GR q).I]) (out:=[]) (most:=1) (fun y hy=>?_) (fun y hy=>by cases hy) hdp hps;obtain rfl:=BJ.1 hy;rw [IO]; exact hg
  have hl1:1≤s.proof.length:=by
   cases hp:s.proof with
   | nil=>
    rw [hp,hl] at hdp
    have:=congrArg Prod.fst (CX hdp)
    exact absurd (show (1:Int)=0 from this) (by decide)
   | cons x r=>simp
  have hsB:PK (GS s).proof=true:=by
   unfold PK;rw [epr,AE hl1,AE (show s.proof.length≤65536 by simp only [ic] at hlen; omega),A8,A8,CU];exact fun x hx=>zgn (hst x (by rw [epr]; exact hx)).1
  refine ⟨?_,bare_rng hbare (fun x hx=>(hst x hx).2),.inl ek,hsp.2,fun h=>by omega,fun _=>by show 1≤s.spent; simp only [ic] at hlen; omega⟩;unfold Vd.right;rw [r0,r1,hbare,hsB,show ((GS s).kind==1)=true by rw [ek]; rfl];rfl
 ·have ek:(GS s).kind=2:=by simp [GS,hk]
  obtain ⟨hvp,hs1,hh,_⟩:=hi.fails hk;have hnil:(GS s).proof=[]:=hvp;have hin:=zbS hg hh;refine ⟨?_,{ w0:=hin.1,w1:=hin.2.1,w2:=hin.2.2.1,w3:=hin.2.2.2.1,twin:=hin.2.2.2.2,spent:=hspI,proof:=fun x hx=>by rw [hnil] at hx; cases hx },.inr (.inl ek),hsp.2,fun h=>by omega,fun _=>hs1⟩;unfold Vd.right;rw [r0,r1,hnil,show ((GS s).kind==2)=true by rw [ek]; rfl];simp
theorem YI:QO.right=true∧QO.rng:=⟨by decide,{ w0:=GT,w1:=GT,w2:=GT,w3:=GT,twin:=GT,spent:=GT,proof:=fun x hx=>by cases hx }⟩
theorem Su {m:Md} {q:Qy} (hr:FB m q=true):(WS m q).right=true∧(WS m q).rng:=by
 unfold WS;cases ((FN m q).kind==3||J8 m q (FN m q)) with
 | true=>exact ⟨(rW hr).1,(rW hr).2.1⟩
 | false=>exact YI
theorem mJ {m:Md} {l:BA} (h:LY m l=true):FB m (ET l)=true:=by
 unfold LY at h;simp only [AH] at h;exact h.2.2
theorem dQ (m:Md) (l:BA):(I6 m l).right=true∧(I6 m l).rng:=by
 unfold I6;cases h:LY m l with
 | true=>exact Su (mJ h)
 | false=>exact YI
theorem rN (m:Md):∀ (ls:LI) (s:BA) (i:Nat),U6 m s i ls=s++JX i (ls.map fun x=>I6 m x.toStr)
 | [],s,i=>by
  show s=s++D8;exact (ByteArray.append_empty).symm
 | x :: l,s,i=>by
  rw [U6,rN m l,A0,JX,vag,vag]
def I7 (m:Md) (ls:LI):List Vd:=ls.map fun x=>I6 m x.toStr
theorem Id {a:BA} (h:KE a=true) (b:BA):FT a b=JX 0 (I7 (GH a) (EK b)):=by
 unfold FT I7;rw [h,DJ,rN];exact ByteArray.empty_append
theorem uZ (m:Md) (ls:LI):∀ v∈I7 m ls,v.right=true∧v.rng:=by
 intro v hv;obtain ⟨x,_,rfl⟩:=CK.1 hv;exact dQ m x.toStr
theorem Nt {a:BA} (h:KE a=true) (b:BA):KT (FT a b)=some ((I7 (GH a) (EK b)).map I8):=by
 rw [Id h,Nu _ (uZ _ _)]
theorem zii {x y:IV} (h:X2 x y=true):JF x=JF y:=by
 obtain ⟨h1,h2,h3⟩:=RT.1 h;unfold JF;rw [h1,h2,h3]
theorem Ii:∀ {l m:LI} (st:Int × Int),FO l m=true→JA l st=JA m st
 | [],[],_,_=>rfl
 | [],_ :: _,_,h=>by simp [FO] at h
 | _ :: _,[],_,h=>by simp [FO] at h
 | x :: l,y :: m,st,h=>by
  simp only [FO,AH] at h;obtain ⟨h1,h2,h3⟩:=RT.1 h.1;have e:LE st x=LE st y:=by
   unfold LE;rw [zii h.1,h1]
  rw [JA,JA,e];cases LE st y with
  | none=>rfl
  | some st'=>exact Ii st' h.2
theorem Il:∀ {l m:LI} (st:LI × LI),FO l m=true→IH l st=IH m st
 | [],[],_,_=>rfl
 | [],_ :: _,_,h=>by simp [FO] at h
 | _ :: _,[],_,h=>by simp [FO] at h
 | x :: l,y :: m,st,h=>by
  simp only [FO,AH] at h;obtain ⟨h1,h2,h3⟩:=RT.1 h.1;have e:LN st x=LN st y:=by
   unfold LN;rw [h1,h2,h3]
  rw [IH,IH,e];cases LN st y with
  | none=>rfl
  | some st'=>exact Il st' h.2
theorem zgG {l m:LI} (b:Bx) (h:FO l m=true):J9 b l=J9 b m:=by
 have e:KK l=KK m:=by
  unfold KK;rw [Ii _ h,kX h]
 unfold J9;rw [e,Il _ h]
theorem zfJ {m:Md} {q:Qy} {a b:Vd} (h:VSame a b):J8 m q a=J8 m q b:=by
 unfold J8 Vd.p;rw [h.kind,zgG _ h.proof,h.w0,h.w1,h.w2,h.w3,h.twin]
theorem vO {m:Md} {l:BA} {a b:Vd} (h:VSame a b):KH m l a=KH m l b:=by
 unfold KH;rw [h.kind,h.spent,zfJ h]
def X3 (m:Md) (q:Qy):Bool:=(FN m q).kind==3||J8 m q (FN m q)
theorem To {m:Md} {l:BA} (h:LY m l=true→X3 m (ET l)=true):KH m l (I6 m l)=true:=by
 unfold KH I6;cases hk:LY m l with
 | false=>rfl
 | true=>
  rw [DJ,DJ];have hr:=mJ hk;obtain ⟨_,_,hkind,hbu,h3,h1⟩:=rW hr;have hs:=h hk;have e:WS m (ET l)=FN m (ET l):=by
   unfold WS;rw [show ((FN m (ET l)).kind==3||J8 m (ET l) (FN m (ET l)))=true from hs,DJ]
  rw [e];unfold X3 at hs;rcases hkind with hk | hk | hk
  ·rw [hk] at hs;rw [hk,show J8 m (ET l) (FN m (ET l))=true by simpa using hs,AE (show (FN m (ET l)).spent≥1 from h1 (by omega)),AE hbu];rfl
  ·rw [hk] at hs;rw [hk,show J8 m (ET l) (FN m (ET l))=true by simpa using hs,AE (show (FN m (ET l)).spent≥1 from h1 (by omega)),AE hbu];rfl
  ·rw [hk,h3 hk];simp
theorem vM {m:Md}:∀ (ls:LI),(∀ x∈ls,LY m x.toStr=true→X3 m (ET x.toStr)=true)→T8 m ((I7 m ls).map I8) ls=true
 | [],_=>rfl
 | x :: ls,h=>by
  have h1:=vO (m:=m) (l:=x.toStr) (mQ (dQ m x.toStr).1 (dQ m x.toStr).2);show (KH m x.toStr (TF (I8 (I6 m x.toStr)))&&T8 m ((I7 m ls).map I8) ls)=true;rw [h1,To (h x (AN ..)),A8];exact vM ls fun y hy=>h y (AW _ hy)
theorem zgg {a:BA} (b:BA) (h:∀ x∈EK b,LY (GH a) x.toStr=true→X3 (GH a) (ET x.toStr)=true):GQ a b (FT a b)=true:=by
 unfold GQ;cases ha:KE a with
 | false=>
  rw [DK];unfold FT;rw [ha,DK];simp
 | true=>
  rw [DJ,Nt ha];show (ic _==ic _&&T8 (GH a) ((I7 (GH a) (EK b)).map I8) (EK b))=true;rw [vM _ h];simp [I7]
theorem ziB {m:Md} {q:Qy} (hr:FB m q=true) (hp:LM m q (GR q)≤199):X3 m q=true:=by
 obtain ⟨s1,s2,_,hk,_,_⟩:=zgC hr hp;unfold X3;rcases hk with hk | hk | hk
 ·rw [(s1 hk).1]; simp
 ·rw [(s2 hk).1]; simp
 ·rw [hk]; rfl
open Go Go.Proofs
theorem sS:DY PR B0 31 SF:=by
 refine D7 [(46,ND),(47,SG)] [] SF [[.list false [.str]]] Tryz.func31 zaZ ⟨aC,sW,trivial⟩ ?_;intro vs r hwf h;unfold SF at h;split at h
 ·rename_i s;cases hg:(decide (s.size < 4294967281)) with
  | false=>rw [hg] at h; simp [R.get] at h
  | true=>
  rw [hg,R.get_br,DJ,R.get_ok] at h;refine ⟨0,(zdI 0 s).trans ?_⟩;have hz:=A1 hg;have ht:=aG s ES;rw [show decide (1≤AD { data:=#[10] })=true from rfl,B9,AE (show (F1 s { data:=#[10] }).size < 4294967281 by exact Nat.lt_of_le_of_lt ht hz),DJ,← h];unfold EK;cases (s.toList==D8.toList) <;> rfl
 ·simp [R.get] at h
theorem Jr:DY PR B0 32 WC:=by
 refine D7 [(73,V2),(26,V7),(65,MR),(35,dC)] [] WC [[.z,.list true [.bool,.z,.z],.z,.z,.z,.z,.z,.z]] Tryz.func32 zaY ⟨Jh,Jm,aB,zhT,trivial⟩ ?_;intro vs r hwf h;unfold WC at h;split at h
 ·rename_i m l;replace h:=JZ h;obtain ⟨m,rfl,h⟩:=h;cases hg:(decide (l.size < 4294967281)) with
  | false=>rw [hg] at h; simp [R.get] at h
  | true=>
  rw [hg,R.get_br,DJ,R.get_ok] at h;refine ⟨0,(zdH 0 m l).trans ?_⟩;rw [hg,DJ,← h];unfold I6 LY WS;rw [show (JK l != m.d)=!(JK l==m.d) from rfl];cases KW l
  ·rfl
  cases (JK l==m.d)
  ·rfl
  cases FB m (ET l)
  ·rfl
  cases ((FN m (ET l)).kind==3)
  ·cases J8 m (ET l) (FN m (ET l)) <;> rfl
  ·rfl
 ·simp [R.get] at h
theorem Hn (m:Md) (s:BA) (i:Nat) (l:LI):s.size+l.length≤(U6 m s i l).size:=by
 rw [rN,AY]
 have:=uA i (l.map fun x=>I6 m x.toStr)
 rw [BK] at this;omega
theorem Ic (N:Nat) (a:BA) (ls:LI) (hs:∀ x∈ls,x.toStr.size < 4294967281) (hl:ls.length≤strMax) (K:Out→St→DP) (hx:∀ x y so,K (.exit 0) (VT a D8 ls x y so)=some (.str so,[])) :
  ∀ (d i n:Nat) (so:BA),i+d=ls.length→d < n→(U6 (GH a) so i (ls.drop i)).size≤strMax →
   D0 (TZ N) (DL WZ [1,1,1,1,0,1,0,0]) ⟨[4,5,7,18,19,20],[5,7],[]⟩ n (VT a D8 ls (ic ls.length) (i:Int) so) K=some (.str (U6 (GH a) so i (ls.drop i)),[])
 | 0,i,n+1,so,hd,_,_=>by
  rw [EA,Me,J5 (by omega),CR (by omega),DK];exact hx _ _ _
 | d+1,i,n+1,so,hd,hn,hz=>by
  have hi:i < ls.length:=by omega
  rw [BF hi] at hz ⊢;rw [U6] at hz ⊢;have h1:=Hn (GH a) (so++F2 i++EI (I6 (GH a) ls[i].toStr)) (i+1) (ls.drop (i+1));have h2:(so++F2 i++EI (I6 (GH a) ls[i].toStr)).size=so.size+(YD.size+(DQ (i:Int)).size+ES.size)+(EI (I6 (GH a) ls[i].toStr)).size:=by
   unfold F2;simp only [AY]
  have e1:YD.size=6:=rfl;have e2:ES.size=1:=rfl;have h3:(so++F2 i).size=so.size+(YD.size+(DQ (i:Int)).size+ES.size):=by
   unfold F2;simp only [AY]
  have h4:=hs ls[i] (C1 hi);unfold strMax at hl;rw [EA,Me,IK hi,JP,HR (by omega),JB hi];rw [AE (show AD { data:=#[113,117,101,114,121,32] }+(DQ (i:Int)).size≤strMax by show YD.size+_≤_; omega)];rw [AE (show AD ({ data:=#[113,117,101,114,121,32] }++DQ (i:Int))+AD { data:=#[10] }≤strMax by rw [AY]; show YD.size+_+ES.size≤_; omega)];rw [AE (show so.size+(US (i:Int)).size≤strMax by rw [← AY]; show (so++F2 i).size≤_; omega)];rw [AE h4,AE (show (EI (I6 (GH a) ls[i].toStr)).size≤strMax by omega)];rw [AE (show (so++US (i:Int)).size+(EI (I6 (GH a) ls[i].toStr)).size≤strMax by show (so++F2 i).size+_≤_; omega)];simp only [DJ,B9];exact Ic N a ls hs (by unfold strMax; omega) K hx d (i+1) n _ (by omega) (by omega) hz
 | 0,_,0,_,_,h,_=>by omega
 | _+1,_,0,_,_,h,_=>by omega
theorem zie {s sep:BA} {n:Nat} (h:s.size < n):∀ x∈D3 s sep,x.size < n:=fun x hx=>by
 have:=(X1 sep _ s).2 x hx
 omega
theorem pJ {s:BA} {n:Nat} (h:s.size < n):∀ x∈EK s,x.toStr.size < n:=by
 intro x hx;unfold EK at hx;cases he:(s.toList==D8.toList) with
 | true=>rw [he,DJ] at hx; cases hx
 | false=>
  rw [he,DK] at hx;obtain ⟨y,hy,rfl⟩:=CK.1 hx;have ht:=aG s ES;exact zie (Nat.lt_of_le_of_lt ht h) y hy
theorem Js:DY PR B0 22 WD:=by
 refine D7 [(24,SC),(32,WC),(31,SF),(43,OT),(56,T2),(60,T3),(19,WM)] [(6,⟨[4,5,7,18,19,20],[5,7],[]⟩)] WD [[.str]] Tryz.func22 za0 ⟨sP,Jr,sS,gH,sT,sU,Kj,trivial⟩ ?_;intro vs r hwf h;unfold WD at h;split at h
 ·rename_i a b;cases hg:(decide (a.size < 4294967281)&&(decide (b.size < 4294967281)&&decide ((FT a b).size≤strMax))) with
  | false=>rw [hg] at h; simp [R.get] at h
  | true=>
  rw [hg,R.get_br,DJ,R.get_ok] at h;rw [AH,AH] at hg;have hz:=A1 hg.2.2;refine ⟨(EK b).length+1,(zdJ _ a b).trans ?_⟩;rw [hg.1,DJ,← h];unfold FT at hz ⊢;cases ht:KE a with
  | false=>rfl
  | true=>
   rw [ht,DJ] at hz;simp only [A2,DK,DJ];rw [hg.2.1,DJ];have hl:=Hn (GH a) D8 0 (EK b);have e0:D8.size=0:=rfl
   have:=Ic ((EK b).length+1) a (EK b) (pJ (A1 hg.2.1)) (by omega) _ (fun x y so=>Xt ((EK b).length+1) a D8 (EK b) x y so) (EK b).length 0 ((EK b).length+1) D8 (by omega) (by omega) (by rw [B5]; exact hz)
   rw [B5] at this;exact this
 ·simp [R.get] at h
theorem Yz (s:BA) (a:Nat):(s.extract a s.size).data.toList=s.data.toList.drop a:=by
 rw [vbc,Array.toList_extract,vaE];exact CV (by rw [CY,QE]; omega)
def zK (s:BA):Option Nat→DP
 | some e=>some (.tup [.str (s.extract 0 e),.str (s.extract e s.size),.bool true],[])
 | none=>some (.tup [.str D8,.str D8,.bool false],[])
theorem zM (N:Nat) (s:BA) (n:Int) (hs:s.size < 4294967281) (K:Out→St→DP)
  (hx:∀ at_ x,K (.exit 0) (QQ s D8 D8 false at_ n x)=cond (decide (0≤at_)&&decide (at_≤ic s.size)) (cond (decide (0≤at_)&&decide (at_≤ic s.size)) (some (.tup [.str (s.extract 0 at_.toNat),.str (s.extract at_.toNat s.size),.bool true],[])) none) none)
  (hr:∀ at_ x,K .ret (QQ s D8 D8 false at_ n x)=some (.tup [.str D8,.str D8,.bool false],[])) :
  ∀ (f d at_ i:Nat),at_+d=s.size→d < f→i≤at_ →
   D0 (QT N) (DL UE [1,1,0,1,0,0]) ⟨[0,4,5,6,7,9,10],[],[]⟩ f (QQ s D8 D8 false (at_:Int) n (i:Int)) K=zK s (O5 s.data.toList (n - i).toNat at_)
 | f+1,d,at_,i,hd,hf,hi=>by
  have hin:(decide (0≤((at_:Nat):Int))&&decide (((at_:Nat):Int)≤ic s.size))=true:=by
   rw [AE (show 0≤((at_:Nat):Int) by omega),AE (show ((at_:Nat):Int)≤ic s.size by simp only [ic]; omega)];rfl
  rw [EA,zik];by_cases hn:((i:Nat):Int) < n
  ·rw [AE hn,DJ,hin,DJ,BD,Yz];rw [show (Nat.toUInt8 (AF 10))=(10:UInt8) from rfl];have hb:=oQ (s.data.toList.drop at_) 10;rw [CY,← QE] at hb;obtain ⟨k,hk⟩:∃ k,(n - i).toNat=k+1:=⟨(n - i).toNat - 1,by omega⟩;rw [hk,O5];cases hc:decide (DF (s.data.toList.drop at_) 10 < 0) with
   | true=>
    rw [DJ,DJ];exact hr _ _
   | false=>
    rw [DK,DK];have h0:=BG hc;obtain ⟨j,hj⟩:∃ j:Nat,DF (s.data.toList.drop at_) 10=(j:Int):=⟨(DF (s.data.toList.drop at_) 10).toNat,by omega⟩;rw [hj] at hb ⊢;have w1:AA AB ((j:Int)+1)=(j:Int)+1:=EO (by omega) (by omega);have w2:AA AB ((at_:Int)+((j:Int)+1))=((at_+j+1:Nat):Int):=by
     rw [show (at_:Int)+((j:Int)+1)=((at_+j+1:Nat):Int) by omega];exact EO (by omega) (by omega)
    have w3:AA AB ((i:Int)+1)=((i+1:Nat):Int):=by
     rw [show (i:Int)+1=((i+1:Nat):Int) by omega];exact EO (by omega) (by omega)
    rw [w1,w2,w3,BD];have ih:=zM N s n hs K hx hr f (s.size - (at_+j+1)) (at_+j+1) (i+1) (by omega) (by omega) (by omega);rw [ih]
    have:(n - ((i+1:Nat):Int)).toNat=k:=by omega
    rw [this]
  ·rw [AL hn,DK,show (n - i).toNat=0 by omega,O5,hx,hin,DJ,DJ,BD];rfl
 | 0,d,at_,i,_,hf,_=>by omega
theorem Vt (s:BA) (n:Int):zK s (O5 s.data.toList n.toNat 0)=some (.tup [.str (I9 s n),.str (SS s n),.bool (LD s n)],[]):=by
 unfold I9 SS LD d7;cases O5 s.data.toList n.toNat 0 <;> rfl
theorem zgV:DY PR B0 58 aZ:=by
 refine D7 [(102,iA)] [(3,⟨[0,4,5,6,7,9,10],[],[]⟩)] aZ [[.str],[.str],[.bool]] Tryz.func58 Zy ⟨zh5,trivial⟩ ?_;intro vs r hwf h;unfold aZ at h;split at h
 ·rename_i s n;cases hg:(decide (s.size < 4294967281)) with
  | false=>rw [hg] at h; simp [R.get] at h
  | true=>
  rw [hg,R.get_br,DJ,R.get_ok] at h;refine ⟨s.size+1,(zcX _ s n).trans ?_⟩
  have:=zM (s.size+1) s n (A1 hg) _ (fun a x=>Wv (s.size+1) s D8 D8 false a n x) (fun a x=>Ww (s.size+1) s D8 D8 false a n x) (s.size+1) s.size 0 0 (by omega) (by omega) (by omega)
  refine this.trans ?_;rw [show (n - ((0:Nat):Int)).toNat=n.toNat by omega,Vt,← h]
 ·simp [R.get] at h
theorem zgW:DY PR B0 59 a8:=by
 refine D7 [(90,Q1),(46,ND),(47,SG)] [] a8 [[.z]] Tryz.func59 Zz ⟨lB,aC,sW,trivial⟩ ?_;intro vs r hwf h;unfold a8 at h;split at h
 ·rename_i s;cases hg:(decide (s.size < 4294967281)) with
  | false=>rw [hg] at h; simp [R.get] at h
  | true=>
  rw [hg,R.get_br,DJ,R.get_ok] at h;refine ⟨0,(zcY 0 s).trans ?_⟩;have hz:=A1 hg;have ht:=aG s ES;rw [show decide (1≤AD { data:=#[32] })=true from rfl,B9,AE (show (F1 s { data:=#[10] }).size < 4294967281 by exact Nat.lt_of_le_of_lt ht hz),DJ];rw [s9,show (decide ((0:Nat)≤0)&&true)=true from rfl,DJ,← h];show _=(some (V.int .i64 (LG s),[]):DP);unfold LG MM DX NQ;rw [show AF 0=0 from rfl,show AF 2=2 from rfl];generalize hL:A4 IV.str (D3 (F1 s ES) VL)=L;cases ((L.getD 0 default).toStr.toList==IZ.toList)
  ·rfl
  cases h3:(ic L.length==3) with
  | false=>
   rw [show (ic L.length != 3)=!(ic L.length==3) from rfl,h3];rfl
  | true=>
   rw [show (ic L.length != 3)=!(ic L.length==3) from rfl,h3];have e3:ic L.length=3:=by simpa using h3
   rw [e3,show (decide ((0:Nat)≤2)&&decide ((2:Int) < 3))=true from rfl];simp only [A2,Bool.or_self,DK,DJ];cases KX (L.getD 2 default).toStr
   ·rfl
   cases decide (FK (L.getD 2 default).toStr < 0)
   ·cases decide (FK (L.getD 2 default).toStr > 65536) <;> rfl
   ·rfl
 ·simp [R.get] at h
theorem zgU:DY PR B0 72 aY:=by
 refine D7 [(73,V2),(26,V7),(65,MR)] [] aY [[.bool]] Tryz.func72 Zx ⟨Jh,Jm,aB,trivial⟩ ?_;intro vs r hwf h;unfold aY at h;split at h
 ·rename_i m l v;replace h:=JZ h;obtain ⟨m,rfl,h⟩:=h;replace h:=Pc h;obtain ⟨v,rfl,h⟩:=h;cases hg:(decide (l.size < 4294967281)) with
  | false=>rw [hg] at h; simp [R.get] at h
  | true=>
  rw [hg,R.get_br,DJ,R.get_ok] at h;refine ⟨0,(zcW 0 m l v).trans ?_⟩;rw [hg,DJ,← h];unfold KH LY;rw [show (JK l != m.d)=!(JK l==m.d) from rfl];have hw:(cond (v.kind==4) (some (V.bool (v.spent==0),[])) (some (V.bool false,[])):DP)=some (V.bool (v.kind==4&&v.spent==0),[]):=by cases v.kind==4 <;> rfl
  cases KW l
  ·exact hw
  cases (JK l==m.d)
  ·exact hw
  cases FB m (ET l)
  ·exact hw
  simp only [A2,DK,DJ,B3];cases v.kind==3
  ·cases v.kind==1 <;> cases v.kind==2 <;> cases decide (v.spent≥1) <;> cases decide (v.spent≤(ET l).bu) <;> rfl
  ·rfl
 ·simp [R.get] at h
open Go Go.Proofs
def QS (N:Nat):Env:=D6 [(58,aZ),(59,a8),(23,bI),(43,OT),(57,YS)] [(3,⟨[0,2,3,4,5],[56],[⟨.tmp 4,56,55,true,SZ⟩]⟩)] 59 N
abbrev N2 (s0:BA) (b3:Bool) (n4:Nat) (x5:Int) (lo56:LI):St:=⟨[(0,(.str s0)),(2,.zs),(3,(.bool b3)),(4,(.row 56 0 n4)),(5,(.i x5))],[(56,(some (.row true 55 true [.z,.list true EE,.z,.z,.z,.z,.z,.z] lo56)))]⟩
theorem zcV (N:Nat) (u00:BA):D1 (QS N) UD [.tmp 2,.tmp 3] [[.list true [.z,.list true [.bool,.z,.z],.z,.z,.z,.z,.z,.z]],[.bool]] [.str u00]=(D0 (QS N) (DL UD [1,1,0,1,0,0]) ⟨[0,2,3,4,5],[56],[⟨(.tmp 4),56,55,true,[.z,.list true EE,.z,.z,.z,.z,.z,.z]⟩]⟩ N (N2 u00 false 0 0 []) (DS 0 (DT (QS N) (DL UD [1,1,1]) (DV (QS N) none [.tmp 2,.tmp 3] [[.list true [.z,.list true EE,.z,.z,.z,.z,.z,.z]],[.bool]])))):=by kernel_rfl
theorem zij (N:Nat) (s0:BA) (b3:Bool) (n4:Nat) (x5:Int) (lo56:LI) (again:St→DP) (k:Out→St→DP):FG (QS N) (DL UD [1,1,0,1,0,0]) (N2 s0 b3 n4 x5 lo56) (EW again ⟨[0,2,3,4,5],[56],[⟨(.tmp 4),56,55,true,[.z,.list true EE,.z,.z,.z,.z,.z,.z]⟩]⟩ k)=(cond (!AZ s0==AZ {data:=#[]}) (cond (decide (AD {data:=#[113,117,101,114,121,32]}+AD (DQ x5)≤strMax)) (cond (decide (AD ({data:=#[113,117,101,114,121,32]}++DQ x5)+AD {data:=#[10]}≤strMax)) (cond (!OB s0 (US x5)) (k .ret (N2 s0 false n4 x5 lo56)) (cond (decide (AD (QC s0 x5) < 4294967281)) (cond (!LD (QC s0 x5) 1) (k .ret (N2 s0 false n4 x5 lo56)) (cond (decide (AD (I9 (QC s0 x5) 1) < 4294967281)) (cond (decide (AD (QC s0 x5) < 4294967281)) (cond (!LD (QC s0 x5) (LG (I9 (QC s0 x5) 1))) (k .ret (N2 s0 false n4 x5 lo56)) (cond (decide (AD (PD s0 x5) < 4294967281)) (cond (decide (AD (EI (II (PD s0 x5)))≤strMax)) (cond (!U3 (PD s0 x5)) (k .ret (N2 s0 false n4 x5 lo56)) (cond (decide ((n4+1)*80≤EG)) (again (N2 (Hz s0 x5) b3 (n4+1) (AA AB (x5+1)) (AK n4 lo56++[IV.agg [IV.int (Vd.kind (JS (PD s0 x5))),IV.list (Vd.proof (JS (PD s0 x5))),IV.int (Vd.w0 (JS (PD s0 x5))),IV.int (Vd.w1 (JS (PD s0 x5))),IV.int (Vd.w2 (JS (PD s0 x5))),IV.int (Vd.w3 (JS (PD s0 x5))),IV.int (Vd.twin (JS (PD s0 x5))),IV.int (Vd.spent (JS (PD s0 x5)))]]))) none)) none) none)) none) none)) none)) none) none) (k (.exit 0) (N2 s0 b3 n4 x5 lo56))):=by kernel_rfl
theorem Wt (N:Nat) (s0:BA) (b3:Bool) (n4:Nat) (x5:Int) (lo56:LI):(DS 0 (DT (QS N) (DL UD [1,1,1]) (DV (QS N) none [.tmp 2,.tmp 3] [[.list true [.z,.list true EE,.z,.z,.z,.z,.z,.z]],[.bool]]))) (.exit 0) (N2 s0 b3 n4 x5 lo56)=(some ((.tup [.list true [.z,.list true EE,.z,.z,.z,.z,.z,.z] (AT 0 (AK n4 lo56)),.bool true]),[])):=by kernel_rfl
theorem Wu (N:Nat) (s0:BA) (b3:Bool) (n4:Nat) (x5:Int) (lo56:LI):(DS 0 (DT (QS N) (DL UD [1,1,1]) (DV (QS N) none [.tmp 2,.tmp 3] [[.list true [.z,.list true EE,.z,.z,.z,.z,.z,.z]],[.bool]]))) .ret (N2 s0 b3 n4 x5 lo56)=(some ((.tup [.list true [.z,.list true EE,.z,.z,.z,.z,.z,.z] [],.bool b3]),[])):=by kernel_rfl
def QR (N:Nat):Env:=D6 [(21,R8),(72,aY),(31,SF),(19,WM)] [(9,⟨[6,7,10,38,39,40],[7],[]⟩)] 54 N
abbrev QP (u00:BA) (b6:Bool) (l10 l38:LI) (x39 x40:Int):St:=⟨[(6,(.bool b6)),(7,(.ptr 7 0 0)),(10,(.list false [.str] l10)),(38,(.list true [.z,.list true EE,.z,.z,.z,.z,.z,.z] l38)),(39,(.i x39)),(40,(.i x40))],[(7,(some (.box (Md.cs (GH u00)))))]⟩
theorem zcU (N:Nat) (u00 u01 u02:BA):D1 (QR N) UC [.tmp 6] [[.bool]] [.str u00,.str u01,.str u02]=(cond (decide (AD u00 < 4294967281)) (cond (!KE u00) (some ((.bool (AZ u02==AZ {data:=#[109,111,100,101,108,10]})),[])) (cond (decide (AD u02 < 4294967281)) (cond (Option.isSome (KT u02)) (cond (decide (AD u01 < 4294967281)) (cond (ic (AG (Option.getD (KT u02) [])) != ic (AG (EK u01))) (some ((.bool false),[])) (D0 (QR N) (DL UC [1,1,1,1,1,1,0,1,0,0]) ⟨[6,7,10,38,39,40],[7],[]⟩ N (QP u00 false (EK u01) (Option.getD (KT u02) []) (ic (AG (Option.getD (KT u02) []))) 0) (DS 0 (DT (QR N) (DL UC [1,1,1,1,1,1,1]) (DV (QR N) none [.tmp 6] [[.bool]]))))) none) (cond (decide (AD u01 < 4294967281)) (some ((.bool false),[])) none)) none)) none):=by kernel_rfl
theorem Lm (N:Nat) (u00:BA) (b6:Bool) (l10 l38:LI) (x39 x40:Int) (again:St→DP) (k:Out→St→DP):FG (QR N) (DL UC [1,1,1,1,1,1,0,1,0,0]) (QP u00 b6 l10 l38 x39 x40) (EW again ⟨[6,7,10,38,39,40],[7],[]⟩ k)=(cond (decide (x40 < x39)) (cond (decide (0≤x40)&&decide (x40 < ic (AG l38))) (cond (decide (0≤x40)&&decide (x40 < ic (AG l10))) (cond (decide (AD (IV.toStr (AI l10 (AF x40) default)) < 4294967281)) (cond (!KH (GH u00) (IV.toStr (AI l10 (AF x40) default)) (TF (AI l38 (AF x40) default))) (k .ret (QP u00 false l10 l38 x39 x40)) (again (QP u00 b6 l10 l38 x39 (AA AB (x40+1))))) none) none) none) (k (.exit 0) (QP u00 b6 l10 l38 x39 x40))):=by kernel_rfl
theorem Wr (N:Nat) (u00:BA) (b6:Bool) (l10 l38:LI) (x39 x40:Int):(DS 0 (DT (QR N) (DL UC [1,1,1,1,1,1,1]) (DV (QR N) none [.tmp 6] [[.bool]]))) (.exit 0) (QP u00 b6 l10 l38 x39 x40)=(some ((.bool true),[])):=by kernel_rfl
theorem Ws (N:Nat) (u00:BA) (b6:Bool) (l10 l38:LI) (x39 x40:Int):(DS 0 (DT (QR N) (DL UC [1,1,1,1,1,1,1]) (DV (QR N) none [.tmp 6] [[.bool]]))) .ret (QP u00 b6 l10 l38 x39 x40)=(some ((.bool b6),[])):=by kernel_rfl
open Go Go.Proofs
theorem Fh (s:BA) (n:Int):(I9 s n).size≤s.size:=by
 unfold I9;cases LD s n with
 | true=>rw [DJ,vbd]; omega
 | false=>exact B4 _
theorem Tn (s:BA) (n:Int):(SS s n).size≤s.size:=by
 unfold SS;cases LD s n with
 | true=>rw [DJ,vbd]; omega
 | false=>exact B4 _
theorem zi1 {s p:BA} (h:OB s p=true) (hp:0 < p.size):(GI s p).size < s.size:=by
 have h1:Lib.hasPrefix s.data.toList p.data.toList=true:=h;have h2:p.data.toList.length≤s.data.toList.length:=by
  unfold Lib.hasPrefix at h1;rw [List.isPrefixOf_iff_prefix] at h1;exact h1.length_le
 have e:(GI s p).size=s.data.toList.length - p.data.toList.length:=by
  unfold GI Lib.trimPrefix;rw [BP h1];show (List.toArray _).size=_;rw [C7,CY]
 rw [QE] at hp ⊢;rw [← QE,e,QE];omega
def ziF:Option LI→DP
 | some l=>some (.tup [.list true SZ l,.bool true],[])
 | none=>some (.tup [.list true SZ [],.bool false],[])
theorem zb8 (i:Nat) (h:i≤9223372036854775807):(DQ (i:Int)).size≤21:=ZL (by show -9223372036854775808≤_; omega) (by show _≤(9223372036854775807:Int); omega)
theorem Lf (N:Nat) (K:Out→St→DP)
  (hx:∀ s x O,K (.exit 0) (N2 s false O.length x O)=some (.tup [.list true SZ (AT 0 (AK O.length O)),.bool true],[]))
  (hr:∀ s x O n,K .ret (N2 s false n x O)=some (.tup [.list true SZ [],.bool false],[])) :
  ∀ (m n:Nat) (s:BA) (i:Nat) (O:LI),s.size < m→m≤n→s.size < 4294967281→i+s.size≤4294967281→O.length=i →
   D0 (QS N) (DL UD [1,1,0,1,0,0]) ⟨[0,2,3,4,5],[56],[⟨(.tmp 4),56,55,true,SZ⟩]⟩ n (N2 s false O.length (i:Int) O) K=ziF (TC m i s O)
 | m+1,n+1,s,i,O,hm,hn,hs,hi,hO=>by
  rw [EA,zij,TC];cases h0:(s.toList==D8.toList) with
  | true=>
   rw [A2,DK,DJ,hx,B5,BR];rfl
  | false=>
   have hit:=zb8 i (by omega);have e1:AD { data:=#[113,117,101,114,121,32] }=6:=rfl;have e2:AD { data:=#[10] }=1:=rfl;rw [A6,DJ,DK];rw [AE (show AD { data:=#[113,117,101,114,121,32] }+(DQ (i:Int)).size≤strMax by unfold strMax; omega),DJ];rw [AE (show AD ({ data:=#[113,117,101,114,121,32] }++DQ (i:Int))+AD { data:=#[10] }≤strMax by rw [AY]; unfold strMax; omega),DJ];unfold kV;rw [show US (i:Int)=F2 i from rfl];cases hp:OB s (F2 i) with
   | false=>
    rw [A6,DJ,BM,DK,hr];rfl
   | true=>
    have hlt:(KA s i).size < s.size:=zi1 hp (oO i);have ho1:=Fh (KA s i) 1;have ho2:=Fh (KA s i) (LG (I9 (KA s i) 1));have hb2:=Tn (KA s i) (LG (I9 (KA s i) 1));rw [A2,DK,A8];rw [show QC s (i:Int)=KA s i from rfl,show PD s (i:Int)=QB s i from rfl,show Hz s (i:Int)=Z4 s i from rfl];rw [AE (show (KA s i).size < 4294967281 by omega),DJ];cases hc1:LD (KA s i) 1 with
    | false=>
     rw [A6,DJ,BM,DK,hr];rfl
    | true=>
     rw [A2,DK,A8,AE (show (I9 (KA s i) 1).size < 4294967281 by omega),DJ,DJ];cases hc2:LD (KA s i) (LG (I9 (KA s i) 1)) with
     | false=>
      rw [A6,DJ,BM,DK,hr];rfl
     | true=>
      have hpz:=kP (zf4 (QB s i));rw [A2,DK,A8,AE (show (QB s i).size < 4294967281 by show (I9 _ _).size < _; omega),DJ,AE (show (EI (II (QB s i))).size≤strMax by unfold strMax; omega),DJ];cases hc3:U3 (QB s i) with
      | false=>
       rw [A6,DJ,DK,hr];rfl
      | true=>
       rw [A2,DK,DJ,AE (show (O.length+1)*80≤EG by unfold EG; omega),DJ,BR,HR (by omega)];have hsz:(Z4 s i).size < s.size:=Nat.lt_of_le_of_lt hb2 hlt;have ih:=Lf N K hx hr m n (Z4 s i) (i+1) (O++[(JS (QB s i)).I]) (by omega) (by omega) (by omega) (by omega) (by rw [AS]; simp; omega);rw [← ih,AS];rfl
 | 0,_,_,_,_,h,_,_,_,_=>by omega
 | _+1,0,_,_,_,_,h,_,_,_=>by omega
theorem sK:DY PR B0 21 R8:=by
 refine D7 [(58,aZ),(59,a8),(23,bI),(43,OT),(57,YS)] [(3,⟨[0,2,3,4,5],[56],[⟨.tmp 4,56,55,true,SZ⟩]⟩)] R8 [[.list true [.z,.list true [.bool,.z,.z],.z,.z,.z,.z,.z,.z]],[.bool]] Tryz.func21 Zw ⟨zgV,zgW,zg4,gH,Kg,trivial⟩ ?_;intro vs r hwf h;unfold R8 at h;split at h
 ·rename_i s;rw [R.get_br] at h;cases hg:decide (s.size < 4294967281) with
  | false=>rw [hg] at h; simp [R.get] at h
  | true=>
   have hs:=A1 hg;refine ⟨s.size+1,(zcV _ s).trans ?_⟩
   have:=Lf (s.size+1) _ (fun s' x O=>Wt (s.size+1) s' false O.length x O) (fun s' x O n=>Wu (s.size+1) s' false n x O) (s.size+1) (s.size+1) s 0 [] (by omega) (by omega) hs (by omega) rfl
   refine this.trans ?_;rw [hg,DJ,R.get_br] at h;rw [← h];unfold KT;cases TC (s.size+1) 0 s [] <;> rfl
 ·simp [R.get] at h
theorem vN (N:Nat) (a:BA) (ls vs:LI) (hs:∀ x∈ls,x.toStr.size < 4294967281) (hl:vs.length=ls.length) (hm:vs.length≤4294967281) (K:Out→St→DP)
  (hx:∀ x y,K (.exit 0) (QP a false ls vs x y)=some (.bool true,[])) (hr:∀ x y,K .ret (QP a false ls vs x y)=some (.bool false,[])) :
  ∀ (d i n:Nat),i+d=vs.length→d < n →
   D0 (QR N) (DL UC [1,1,1,1,1,1,0,1,0,0]) ⟨[6,7,10,38,39,40],[7],[]⟩ n (QP a false ls vs (ic vs.length) (i:Int)) K=some (.bool (T8 (GH a) (vs.drop i) (ls.drop i)),[])
 | 0,i,n+1,hd,_=>by
  rw [EA,Lm,J5 (by omega),CR (l:=vs) (by omega),DK];exact hx _ _
 | d+1,i,n+1,hd,hn=>by
  have hi:i < vs.length:=by omega
  have hi2:i < ls.length:=by omega
  have h4:=hs ls[i] (C1 hi2);rw [EA,Lm,IK hi,JP,IK (l:=ls) hi2,HR (by omega),JB hi,JB hi2];rw [BF hi,BF hi2,AE h4];simp only [DJ,B9];show _=(some (V.bool (KH (GH a) ls[i].toStr (TF vs[i])&&T8 (GH a) (vs.drop (i+1)) (ls.drop (i+1))),[]):DP);cases KH (GH a) ls[i].toStr (TF vs[i]) with
  | false=>
   rw [A6,DJ,BM];exact hr _ _
  | true=>
   rw [A2,DK,A8];exact vN N a ls vs hs hl hm K hx hr d (i+1) n (by omega) (by omega)
 | 0,_,0,_,h=>by omega
 | _+1,_,0,_,h=>by omega
theorem zcu (s:BA):(EK s).length≤s.size+1:=by
 unfold EK;cases (s.toList==D8.toList) with
 | true=>exact B4 _
 | false=>
  rw [DK,BK];have h1:=(X1 ES (Lib.countB (F1 s ES) ES) (F1 s ES)).1;have h2:=Lib.countB_le ES (by decide) _ (F1 s ES) (AX _);have h3:=aG s ES;show (Lib.splitB ES 0 (Lib.countB (F1 s ES) ES) (F1 s ES)).length≤_;omega
theorem sJ:DY PR B0 29 R7:=by
 refine D7 [(21,R8),(72,aY),(31,SF),(19,WM)] [(9,⟨[6,7,10,38,39,40],[7],[]⟩)] R7 [[.bool]] Tryz.func29 Zv ⟨sK,zgU,sS,Kj,trivial⟩ ?_;intro vs r hwf h;unfold R7 at h;split at h
 ·rename_i a b r0;cases hg:(decide (a.size < 4294967281)&&(decide (b.size < 4294967281)&&decide (r0.size < 4294967281))) with
  | false=>rw [hg] at h; simp [R.get] at h
  | true=>
  rw [hg,R.get_br,DJ,R.get_ok] at h;rw [AH,AH] at hg;refine ⟨(EK b).length+1,(zcU _ a b r0).trans ?_⟩;rw [hg.1,hg.2.1,hg.2.2,DJ,DJ,DJ,← h];unfold GQ;cases ht:KE a with
  | false=>rfl
  | true=>
   simp only [A2,DK,DJ];cases hq:KT r0 with
   | none=>rfl
   | some vs=>
    show cond (ic vs.length != ic (EK b).length) _ _=(some (V.bool (ic vs.length==ic (EK b).length&&T8 (GH a) vs (EK b)),[]):DP);cases he:(ic vs.length==ic (EK b).length) with
    | false=>
     rw [show (ic vs.length != ic (EK b).length)=!(ic vs.length==ic (EK b).length) from rfl,he];rfl
    | true=>
     rw [show (ic vs.length != ic (EK b).length)=!(ic vs.length==ic (EK b).length) from rfl,he];have hl:vs.length=(EK b).length:=by
      have:ic vs.length=ic (EK b).length:=by simpa using he
      simp only [ic] at this;omega
     have hbz:=A1 hg.2.1;have hll:=zcu b
     have:=vN ((EK b).length+1) a (EK b) vs (pJ hbz) hl (by omega) _ (fun x y=>Wr ((EK b).length+1) a false (EK b) vs x y) (fun x y=>Ws ((EK b).length+1) a false (EK b) vs x y) vs.length 0 ((EK b).length+1) (by omega) (by omega)
     rw [B5,B5] at this;exact this
 ·simp [R.get] at h
open Go
theorem pI (s:BA) (hs:s.data.toList≠[]):(EK s).map (fun y=>y.toStr.data.toList)=vaq (F1 s ES).data.toList [10]:=by
 unfold EK;have e:(s.toList==D8.toList)=false:=by
  rw [SL];exact AL fun h=>hs (by rw [h])
 rw [e,DK,List.map_map]
 have:((fun x=>x.toStr.data.toList) ∘ IV.str)=fun b:BA=>b.data.toList:=rfl
 rw [this,lE]
theorem tV {s:BA} {l:List UInt8} {c:UInt8} (h:s.data.toList=l++[c]) (hc:c≠10):F1 s ES=s:=by
 have hz:s.size=l.length+1:=by rw [QE,h,AS]; rfl
 have hf:O2 s ES=false:=by
  unfold O2;have e1:AD ES=1:=rfl;rw [e1,AE (show 1≤s.size by omega),A8,SL];refine AL fun he=>hc ?_
  have:=congrArg (fun b:BA=>b.data.toList) he
  simp only [vbc,Array.toList_extract,vaE,h,hz] at this;simpa using this
 unfold F1;rw [hf,DK]
theorem Bt:∀ (x:List UInt8) (L:List (List UInt8)) (l:List UInt8) (c:UInt8),(x :: L).getLast?=some (l++[c])→∃ r,va4 (x :: L) [10]=r++[c]
 | x,[],l,c,h=>⟨l,by rw [Lib.join_one]; simpa using h⟩
 | x,y :: L,l,c,h=>by
  obtain ⟨r,hr⟩:=Bt y L l c (by rw [List.getLast?_cons_cons] at h; exact h);exact ⟨x++10 :: r,by rw [eR,hr]; simp⟩
theorem zcv {s:BA} {x:List UInt8} {L:List (List UInt8)} (h:s.data.toList=va4 (x :: L) [10]) (hno:∀ l∈x :: L,(10:UInt8) ∉ l) {l:List UInt8} {c:UInt8} (hl:(x :: L).getLast?=some (l++[c])) :
  (EK s).map (fun y=>y.toStr.data.toList)=x :: L:=by
 obtain ⟨r,hr⟩:=Bt x L l c hl;have hc:c≠10:=by
  have hm:l++[c]∈x :: L:=List.mem_of_getLast? hl
  have:=hno _ hm
  intro e;rw [e] at this;simp at this
 rw [pI s (by rw [h,hr]; simp),tV (h.trans hr) hc,h,sX 10 x L hno]
theorem Cv {s:BA} (hs:s.data.toList≠[]) (hno:(10:UInt8) ∉ s.data.toList):EK s=[.str s]:=by
 have hd:=pI s hs;obtain ⟨c,l,hc⟩:∃ c l,s.data.toList=l++[c]:=⟨s.data.toList.getLast hs,s.data.toList.dropLast,(List.dropLast_concat_getLast hs).symm⟩;have hc10:c≠10:=by
  intro e;rw [hc,e] at hno;simp at hno
 rw [tV hc hc10] at hd;unfold EK;have e:(s.toList==D8.toList)=false:=by
  rw [SL];exact AL fun h=>hs (by rw [h])
 rw [e,DK,tV hc hc10]
 have:D3 s ES=[s]:=j9 (by
  rw [lE];show vaq s.data.toList [10]=[s.data.toList];exact s8 _ 10 hno)
 rw [this];rfl
theorem Cy:EK D8=[]:=by simp [EK]
open Go
theorem zfD {q:Qy} (hq:q.In) (d:Int):(DZ q d).size≤2000:=by
 cases h:MF q d with
 | false=>rw [rC h]; decide
 | true=>
  obtain ⟨h1,h4,_,_,_,_,hk⟩:=Fa h;have hp:DZ q d=GO (IA q d.toNat) FI:=by
   unfold DZ;rw [h];rfl
  have zi:∀ {n:Int},EF n→(DQ n).size≤100:=fun h=>by have:=o4 h; omega
  have zp:∀ {n:Int},EF n→(DU n).size≤100:=fun h=>by have:=(XQ _ h).2; omega
  have hl:(IA q d.toNat).length≤15:=by
   unfold IA HV;simp only [AS,AM,BK,BC,A7,Qy.spans];cases (q.k==1) <;> cases (q.k==2) <;> simp only [BH,A9,AM,A7] <;> omega
  have hz:=Bu (IA q d.toNat) (fun w hw=>by
   unfold IA at hw;rcases AV.1 hw with hw | hw
   ·rcases AV.1 hw with hw | hw
    ·unfold HV at hw;cases h1:(q.k==1) <;> rw [h1] at hw <;> simp only [BH,A9] at hw
     ·cases h2:(q.k==2) <;> rw [h2] at hw <;> simp only [BH,A9,AP,BX,CP] at hw
      ·rcases hw with rfl | rfl | rfl | rfl
       ·cases q.fl <;> decide
       ·exact zi hq.c
       ·decide
       ·exact zi hq.ft
      ·rcases hw with rfl | rfl
       ·decide
       ·exact zi hq.c
     ·simp only [AP,BX,CP] at hw;rcases hw with rfl | rfl | rfl | rfl | rfl | rfl
      ·decide
      ·exact zi hq.c
      ·decide
      ·exact zp hq.lo
      ·decide
      ·exact zp hq.hi
    ·rcases AP.1 hw with rfl | hw
     ·decide
     ·obtain ⟨s,hs,rfl⟩:=CK.1 hw;have hs:=vaH hs;have hin:EF s.1∧EF s.2:=by
       simp only [Qy.spans,AP,BX,CP] at hs;rcases hs with rfl | rfl | rfl | rfl | rfl
       ·exact ⟨hq.a0,hq.b0⟩
       ·exact ⟨hq.a1,hq.b1⟩
       ·exact ⟨hq.a2,hq.b2⟩
       ·exact ⟨hq.a3,hq.b3⟩
       ·exact ⟨hq.a4,hq.b4⟩
      have:=Ky hin.1 hin.2
      omega
   ·simp only [AP,BX,CP] at hw;rcases hw with rfl | rfl
    ·decide
    ·exact zi hq.bu)
  rw [hp];omega
theorem Qy.In.sp {q:Qy} (hq:q.In):∀ s∈q.spans,EF s.1∧EF s.2:=by
 intro s hs;simp only [Qy.spans,AP,BX,CP] at hs;rcases hs with rfl | rfl | rfl | rfl | rfl
 ·exact ⟨hq.a0,hq.b0⟩
 ·exact ⟨hq.a1,hq.b1⟩
 ·exact ⟨hq.a2,hq.b2⟩
 ·exact ⟨hq.a3,hq.b3⟩
 ·exact ⟨hq.a4,hq.b4⟩
theorem zeS {q:Qy} {d:Int} (h1:1≤d) (h4:d≤4) (hc:KC q.c=true) (hf:KC q.ft=true) (hb:KC q.bu=true)
  (hk:(q.k=1∧q.ft=0∧q.fl=false)∨(q.k=2∧q.lo=0∧q.hi=0∧q.ft=0∧q.fl=false)∨(q.k=3∧q.lo=0∧q.hi=0))
  (z0:(0:Int) < d∨(q.a0=0∧q.b0=0)) (z1:(1:Int) < d∨(q.a1=0∧q.b1=0)) (z2:(2:Int) < d∨(q.a2=0∧q.b2=0)) (z3:(3:Int) < d∨(q.a3=0∧q.b3=0)) (z4:(4:Int) < d∨(q.a4=0∧q.b4=0)):MF q d=true:=by
 have cz:∀ (x:Int) (j:Int),(j < d∨x=0)→cond (decide (j < d)) x 0=x:=fun x j h=>by
  rcases h with h | h
  ·rw [AE h]; rfl
  ·subst h; cases decide (j < d) <;> rfl
 have ht:FZ q d=q:=by
  obtain ⟨k,c,a0,b0,a1,b1,a2,b2,a3,b3,a4,b4,lo,hi,ft,fl,bu⟩:=q;simp only at hk z0 z1 z2 z3 z4;simp only [FZ,Qy.mk.injEq,vaA];refine ⟨cz _ _ (z0.imp_right (·.1)),cz _ _ (z0.imp_right (·.2)),cz _ _ (z1.imp_right (·.1)),cz _ _ (z1.imp_right (·.2)),cz _ _ (z2.imp_right (·.1)),cz _ _ (z2.imp_right (·.2)),cz _ _ (z3.imp_right (·.1)),cz _ _ (z3.imp_right (·.2)),cz _ _ (z4.imp_right (·.1)),cz _ _ (z4.imp_right (·.2)),?_⟩;rcases hk with ⟨rfl,rfl,rfl⟩ | ⟨rfl,rfl,rfl,rfl,rfl⟩ | ⟨rfl,rfl,rfl⟩ <;> exact ⟨rfl,rfl,rfl,rfl,trivial⟩
 have hk3:(q.k==1||(q.k==2||q.k==3))=true:=by
  rcases hk with ⟨h,_⟩ | ⟨h,_⟩ | ⟨h,_⟩ <;> rw [h] <;> rfl
 unfold MF;rw [ht,Qy.eq_self,hc,hf,hb,hk3,AL (show ¬ d < 1 by omega),AL (show ¬ d > 4 by omega)];rfl
theorem zgb (d:Int) (l:LI) (i:Int) : -2≤F3 d l i∧F3 d l i≤9:=by
 unfold F3
 have:=(HG (n:=EL l (2*i)) (lo := -2) (hi:=9) (by omega) (by omega) (by omega)).2
 cases decide (i < d) <;> simp only [BH,A9] <;> omega
theorem zgc (d:Int) (l:LI) (i:Int) : -2≤F5 d l i∧F5 d l i≤20:=by
 unfold F5
 have:=(HG (n:=EL l (2*i)) (lo := -2) (hi:=9) (by omega) (by omega) (by omega)).2
 have:=(HG (n:=EL l (2*i+1)) (lo:=0) (hi:=11) (by omega) (by omega) (by omega)).2
 cases decide (i < d) <;> simp only [BH,A9] <;> omega
theorem rL {d:Int} (l:LI) {i:Int} (h:d≤i):F3 d l i=0∧F5 d l i=0:=by
 unfold F3 F5;rw [AL (show ¬ i < d by omega)];exact ⟨rfl,rfl⟩
theorem Cb (a:Ak) (cls:Int):FS a cls=1∨FS a cls=2∨FS a cls=3:=by
 unfold FS
 have:=(HG (n:=a.k) (lo:=1) (hi:=3) (by omega) (by omega) (by omega)).2
 cases (DN a.k 1 3==2&&decide (cls < 2)) with
 | true=>exact .inl rfl
 | false=>
  rw [DK];omega
theorem sF {n:Int} (h0:0≤n) (h1:n≤1073741824):KC n=true:=by
 unfold KC;rw [AE h0,AE h1];rfl
theorem zfW (a:Ak) {dim cls:Int} (hd:1≤dim∧dim≤4) (hc:1≤cls∧cls≤3):MF (JE a dim cls) dim=true:=by
 have c1:=(HG (n:=a.c) (lo:=0) (hi:=cls - 1) (by omega) (by omega) (by omega)).2;have f1:=(HG (n:=a.ft) (lo:=0) (hi:=dim - 1) (by omega) (by omega) (by omega)).2;have b1:=(HG (n:=a.bu) (lo:=0) (hi:=65536) (by omega) (by omega) (by omega)).2;refine zeS hd.1 hd.2 (sF (by show 0≤DN a.c 0 (cls - 1); omega) (by show DN a.c 0 (cls - 1)≤_; omega)) ?_ (sF b1.1 (by show DN a.bu 0 65536≤_; omega)) ?_ ?_ ?_ ?_ ?_ ?_
 ·show KC (cond (FS a cls==3) (DN a.ft 0 (dim - 1)) 0)=true;cases (FS a cls==3) with
  | true=>exact sF (n:=DN a.ft 0 (dim - 1)) f1.1 (by omega)
  | false=>rfl
 ·show (FS a cls=1∧cond (FS a cls==3) (DN a.ft 0 (dim - 1)) 0=0∧cond (FS a cls==3) a.fl false=false) ∨
   (FS a cls=2∧cond (FS a cls==1) (KM a) 0=0∧cond (FS a cls==1) (KM a+DN a.size 0 18000) 0=0∧cond (FS a cls==3) (DN a.ft 0 (dim - 1)) 0=0∧cond (FS a cls==3) a.fl false=false) ∨
   (FS a cls=3∧cond (FS a cls==1) (KM a) 0=0∧cond (FS a cls==1) (KM a+DN a.size 0 18000) 0=0)
  rcases Cb a cls with h | h | h <;> rw [h]
  ·exact .inl ⟨rfl,rfl,rfl⟩
  ·exact .inr (.inl ⟨rfl,rfl,rfl,rfl,rfl⟩)
  ·exact .inr (.inr ⟨rfl,rfl,rfl⟩)
 ·exact .inl (by omega)
 ·rcases Int.lt_or_le 1 dim with h | h
  ·exact .inl h
  ·exact .inr (rL a.sp h)
 ·rcases Int.lt_or_le 2 dim with h | h
  ·exact .inl h
  ·exact .inr (rL a.sp h)
 ·rcases Int.lt_or_le 3 dim with h | h
  ·exact .inl h
  ·exact .inr (rL a.sp h)
 ·exact .inr ⟨rfl,rfl⟩
theorem zfV (a:Ak) {dim cls:Int} (hd:1≤dim∧dim≤4) (hc:1≤cls∧cls≤3):(JE a dim cls).In:=by
 have c1:=(HG (n:=a.c) (lo:=0) (hi:=cls - 1) (by omega) (by omega) (by omega)).2;have f1:=(HG (n:=a.ft) (lo:=0) (hi:=dim - 1) (by omega) (by omega) (by omega)).2;have b1:=(HG (n:=a.bu) (lo:=0) (hi:=65536) (by omega) (by omega) (by omega)).2;have l1:=(HG (n:=a.lo) (lo := -9000) (hi:=9000) (by omega) (by omega) (by omega)).2;have s1:=(HG (n:=a.size) (lo:=0) (hi:=18000) (by omega) (by omega) (by omega)).2;have k1:=Cb a cls;have A:=fun i=>zgb dim a.sp i
 have B:=fun i=>zgc dim a.sp i
 have zA:∀ i,EF (F3 dim a.sp i):=fun i=>by have:=A i; unfold EF; omega
 have zB:∀ i,EF (F5 dim a.sp i):=fun i=>by have:=B i; unfold EF; omega
 refine ⟨?_,?_,zA 0,zB 0,zA 1,zB 1,zA 2,zB 2,zA 3,zB 3,?_,?_,?_,?_,?_,?_⟩
 ·show EF (FS a cls); unfold EF; omega
 ·show EF (DN a.c 0 (cls - 1)); unfold EF; omega
 ·show EF 0; unfold EF; omega
 ·show EF 0; unfold EF; omega
 ·show EF (cond (FS a cls==1) (KM a) 0);unfold KM EF;cases (FS a cls==1) <;> simp only [BH,A9] <;> omega
 ·show EF (cond (FS a cls==1) (KM a+DN a.size 0 18000) 0);unfold KM EF;cases (FS a cls==1) <;> simp only [BH,A9] <;> omega
 ·show EF (cond (FS a cls==3) (DN a.ft 0 (dim - 1)) 0);unfold EF;cases (FS a cls==3) <;> simp only [BH,A9] <;> omega
 ·show EF (DN a.bu 0 65536); unfold EF; omega
theorem UX {l:List UInt8} (h:∀ c∈l,45≤c.toNat∧c.toNat≤57):(10:UInt8) ∉ l:=(qC h).2
theorem zjj (q:Qy) (D:Nat):∀ w∈IA q D,(10:UInt8) ∉ w.data.toList:=by
 intro w hw;unfold IA at hw;have key:∀ x∈HV q,(10:UInt8) ∉ x.data.toList:=by
  intro x hx;unfold HV at hx;cases h1:(q.k==1) <;> rw [h1] at hx <;> simp only [BH,A9] at hx
  ·cases h2:(q.k==2) <;> rw [h2] at hx <;> simp only [BH,A9,AP,BX,CP] at hx
   ·rcases hx with rfl | rfl | rfl | rfl
    ·cases q.fl <;> decide
    ·exact UX (O4 _)
    ·decide
    ·exact UX (O4 _)
   ·rcases hx with rfl | rfl
    ·decide
    ·exact UX (O4 _)
  ·simp only [AP,BX,CP] at hx;rcases hx with rfl | rfl | rfl | rfl | rfl | rfl
   ·decide
   ·exact UX (O4 _)
   ·decide
   ·exact UX (ZY _)
   ·decide
   ·exact UX (ZY _)
 rcases AV.1 hw with h | h
 ·rcases AV.1 h with h | h
  ·exact key w h
  ·rcases AP.1 h with rfl | h
   ·decide
   ·obtain ⟨s,_,rfl⟩:=CK.1 h;exact UX (Kx _ _)
 ·simp only [AP,BX,CP] at h;rcases h with rfl | rfl
  ·decide
  ·exact UX (O4 _)
theorem Gh (q:Qy) (d:Int):(10:UInt8) ∉ (DZ q d).data.toList:=by
 cases h:MF q d with
 | false=>
  rw [rC h];decide
 | true=>
  have:DZ q d=GO (IA q d.toNat) FI:=by
   unfold DZ;rw [h];rfl
  rw [this,o6];refine pS 32 10 (by decide) _ fun v hv=>?_
  obtain ⟨u,hu,rfl⟩:=CK.1 hv;exact zjj q d.toNat u hu
theorem zjf {n lo hi:Int} (h0:lo≤n) (h1:n≤hi) (h2:lo=0) (h3:hi≤1000000):DN n lo hi=n:=by
 subst h2;have hm:=(HG (n:=n) (lo:=0) (hi:=hi) (by omega) (by omega) (by omega)).1;unfold DN;rw [hm];have e:Int.tmod n (hi - 0+1)=n:=Int.tmod_eq_of_lt h0 (by omega);rw [e,AL (show ¬ n < 0 by omega),DK,Int.zero_add];exact EO (by omega) (by omega)
theorem Tg (a:Ak) (m:Md) {w:Int} (h0:0≤w) (h1:w≤65536):(FJ a m).bud w=FJ ⟨a.k,a.c,a.lo,a.size,a.ft,w,a.fl,a.sp⟩ m:=by
 unfold FJ JE Qy.bud;simp only [zjf h0 h1 rfl (by omega)];rfl
theorem vE (a:Ak) {m:Md} (hd:1≤m.d∧m.d≤4) (hc:1≤m.c∧m.c≤3) {w:Int} (h0:0≤w) (h1:w≤65536) :
  MF ((FJ a m).bud w) m.d=true∧((FJ a m).bud w).In∧KW (DZ ((FJ a m).bud w) m.d)=true∧ET (DZ ((FJ a m).bud w) m.d)=(FJ a m).bud w∧JK (DZ ((FJ a m).bud w) m.d)=m.d:=by
 rw [Tg a m h0 h1];have ho:=zfW ⟨a.k,a.c,a.lo,a.size,a.ft,w,a.fl,a.sp⟩ hd hc;have hi:=zfV ⟨a.k,a.c,a.lo,a.size,a.ft,w,a.fl,a.sp⟩ hd hc;have hp:=Ti hi.c hi.lo hi.hi hi.ft hi.bu hi.sp ho;exact ⟨ho,hi,hp.1,hp.2.1,hp.2.2⟩
open Go
structure Sits (m:Md) (q:Qy):Prop where
 right:FB m q=true
 few:LM m q (GR q)≤199
 ok:MF q m.d=true
 ask:KW (DZ q m.d)=true
 qq:ET (DZ q m.d)=q
 dd:JK (DZ q m.d)=m.d
theorem Aj {m:Md} (h:O9 m.ts≤99) (q:Qy):LM m q (GR q)≤199:=by
 have:=zfx m q (GR q)
 omega
theorem zgO (f:Ft) (a:Ak) {w:Int} (h0:0≤w) (h1:w≤65536):Sits f.M ((FJ a f.M).bud w)∧((FJ a f.M).bud w).In:=by
 have hd:1≤f.M.d∧f.M.d≤3:=ZB f.d;have hc:1≤f.M.c∧f.M.c≤3:=d6 f.c;obtain ⟨l1,l2,l3,l4,l5⟩:=vE a (m:=f.M) ⟨hd.1,by omega⟩ hc h0 h1;exact ⟨⟨Tj f a h0 h1,Aj (by have:=oJ f; omega) _,l1,l3,l4,l5⟩,l2⟩
def G1 (d:Int):BA→List Qy→BA
 | s,[]=>s
 | s,q :: l=>G1 d (s++DZ q d++ES) l
theorem Gy (d:Int):∀ (l:List Qy) (s:BA),(G1 d s l).data.toList=s.data.toList++HW (l.map fun q=>(DZ q d).data.toList)
 | [],s=>by simp [G1,HW]
 | q :: l,s=>by
  rw [G1,Gy d l,A0,P3,NI,NI];simp
theorem ziA {m:Md} (hf:O9 m.ts≤99) {l:BA} (h:LY m l=true):X3 m (ET l)=true:=ziB (mJ h) (Aj hf _)
theorem Hr {m:Md} (hm:E0 m=true) (hw:YG m) (hf:O9 m.ts≤99) (b:BA):GQ (EC m) b (FT (EC m) b)=true:=by
 obtain ⟨t1,t2⟩:=tP hm hw;exact zgg b fun x _ h=>by rw [t2] at h ⊢; exact ziA hf h
theorem Nq {m:Md} (hm:E0 m=true) (hw:YG m) (b:BA):KT (FT (EC m) b)=some ((I7 m (EK b)).map I8):=by
 obtain ⟨t1,t2⟩:=tP hm hw;rw [Nt t1,t2]
open Go
def Qy.I (q:Qy):IV:=.agg [.int q.k,.int q.c,.int q.a0,.int q.b0,.int q.a1,.int q.b1,.int q.a2,.int q.b2,.int q.a3,.int q.b3,.int q.a4,.int q.b4,.int q.lo,.int q.hi,.int q.ft,.bool q.fl,.int q.bu]
def T7 (x:IV):Ak:=⟨cI x 0,cI x 1,cI x 2,cI x 3,cI x 4,cI x 5,(x.cell 6).toBool,(x.cell 7).toList⟩
def HK (m:Md) (xs:LI) (w:Int):List Qy:=xs.map fun x=>(FJ (T7 x) m).bud w
def V8:DW
 | []=>.ok (.bool true) []
 | _=>.no
def bW:DW
 | [m,.list true [.z,.z,.z,.z,.z,.z,.bool,.list false [.z]] xs,.int .i64 bud]=>JI m fun m=>
  .br (OF m) (.ok (.str (G1 m.d D8 (HK m (xs.take 5) (DN bud 0 300)))) []) .no
 | _=>.no
def mI:DW
 | [f,.list true [.z,.z,.z,.z,.z,.z,.bool,.list false [.z]] _,.int .i64 _,.str _]=>lX f fun _=>.ok (.bool true) []
 | _=>.no
def mH:DW
 | [f,a,.int .i64 _,.int .i64 _]=>lX f fun _=>uH a fun _=>.ok (.bool true) []
 | _=>.no
open Go
open Go
theorem Bs:∀ (x:List UInt8) (L:List (List UInt8)) (l:List UInt8) (c:UInt8),(x :: L).getLast?=some (l++[c])→∃ r,va4 (x :: L) [32]=r++[c]
 | x,[],l,c,h=>⟨l,by rw [Lib.join_one]; simpa using h⟩
 | x,y :: L,l,c,h=>by
  obtain ⟨r,hr⟩:=Bs y L l c (by rw [List.getLast?_cons_cons] at h; exact h);exact ⟨x++32 :: r,by rw [Bv,hr]; simp⟩
theorem Gg {q:Qy} {d:Int} (h:MF q d=true):∃ r c,(DZ q d).data.toList=r++[c]∧c≠32∧c≠10:=by
 have hp:DZ q d=GO (IA q d.toNat) FI:=by
  unfold DZ;rw [h];rfl
 have hne:=Bq q.bu;have hlast:(C5 q.bu).dropLast++[(C5 q.bu).getLast hne]=C5 q.bu:=List.dropLast_concat_getLast hne;have hc:(C5 q.bu).getLast hne∈C5 q.bu:=List.getLast_mem hne;have hw:((IA q d.toNat).map (·.data.toList)).getLast?=some ((C5 q.bu).dropLast++[(C5 q.bu).getLast hne]):=by
  rw [hlast];unfold IA;rw [List.map_append,List.getLast?_append];rfl
 obtain ⟨x,L,hx⟩:∃ x L,(IA q d.toNat).map (·.data.toList)=x :: L:=by
  cases hq:(IA q d.toNat).map (·.data.toList) with
  | nil=>rw [hq] at hw; cases hw
  | cons x L=>exact ⟨x,L,rfl⟩
 rw [hx] at hw;obtain ⟨r,hr⟩:=Bs x L _ _ hw;refine ⟨r,(C5 q.bu).getLast hne,?_,fun e=>?_,fun e=>?_⟩
 ·rw [hp,o6,hx,hr]
 ·have:=(o5 q.bu _ hc).1
  rw [e] at this;exact absurd this (by decide)
 ·have:=(o5 q.bu _ hc).1
  rw [e] at this;exact absurd this (by decide)
theorem Tv (s:BA):KW (s++FI)=false:=by
 cases h:KW (s++FI) with
 | false=>rfl
 | true=>
  exfalso;obtain ⟨hp,_,_⟩:=Th h;have hok:MF (ET (s++FI)) (JK (s++FI))=true:=by
   cases ho:MF (ET (s++FI)) (JK (s++FI)) with
   | true=>rfl
   | false=>
    exfalso;rw [rC ho] at hp
    have:=congrArg AD hp
    rw [AY] at this;have e1:AD FI=1:=rfl;have e2:AD VK=0:=rfl;omega
  obtain ⟨r,c,hr,hc,_⟩:=Gg hok;rw [hp,NI] at hr;have hr:s.data.toList++[32]=r++[c]:=hr
  have:=(List.append_inj' hr rfl).2
  exact hc (List.cons.inj this).1.symm
theorem ziQ {v:Vd} (hr:v.right=true) (hv:v.rng):KT (F2 0++EI v)=some [I8 v]:=by
 have h:=Nu [v] (fun x hx=>by obtain rfl:=BJ.1 hx; exact ⟨hr,hv⟩);have e:JX 0 [v]=F2 0++EI v:=by
  unfold JX JX;rw [show EI v++D8=EI v from ByteArray.append_empty]
 rw [e] at h;exact h
theorem kT {a b:BA} {v:Vd} {l:BA} (ha:KE a=true) (hb:EK b=[.str l]) (hr:v.right=true) (hv:v.rng):GQ a b (F2 0++EI v)=KH (GH a) l v:=by
 unfold GQ;rw [ha,DJ,ziQ hr hv,hb];show (ic [I8 v].length==ic [IV.str l].length&&(KH (GH a) l (TF (I8 v))&&true))=KH (GH a) l v;rw [vO (mQ hr hv),B9];rfl
theorem Hs {a b r:BA} {vs:LI} (ha:KE a=true) (hr:KT r=some vs) (hn:vs.length≠(EK b).length):GQ a b r=false:=by
 unfold GQ;rw [ha,DJ,hr];show (ic vs.length==ic (EK b).length&&_)=false;rw [A3.2 (show ic vs.length≠ic (EK b).length by simp only [ic]; omega)];rfl
def NX (k:Int):Vd:=⟨3,[],0,0,0,0,0,k⟩
theorem zi5 {k:Int} (h0:0≤k) (h1:k≤65536):(NX k).right=true∧(NX k).rng:=by
 refine ⟨?_,{ w0:=GT,w1:=GT,w2:=GT,w3:=GT,twin:=GT,spent:=by show G9 k; unfold G9; omega,proof:=fun x hx=>by cases hx }⟩;unfold Vd.right;rw [show (NX k).spent=k from rfl,AE h0,AE h1];rfl
open Go Go.Proofs
theorem Gn {m:Md} (h:E0 m=true):1≤(EC m).size∧(EC m).size≤300000:=by
 obtain ⟨hd,hc,hl,_,ht⟩:=pU h;have hp:EC m=GC (MB m):=by unfold EC; rw [h]; rfl
 have hall:∀ (ts:LI),ts.all (HM m.d m.c)=true→(∀ l∈GZ ts,l.length≤8∧∀ w∈l,w.size≤100)∧(GZ ts).length≤32*ts.length:=fun ts=>by
  induction ts with
  | nil=>exact fun _=>⟨fun l hl=>(by cases hl),AX _⟩
  | cons t r ih=>
   intro h;rw [vay,AH] at h;obtain ⟨i1,i2⟩:=ih h.2;obtain ⟨j1,j2⟩:=Nx hc.2 h.1;rw [GZ];refine ⟨fun l hl=>?_,?_⟩
   ·rcases AV.1 hl with hl | hl
    ·exact j1 l hl
    ·exact i1 l hl
   ·rw [AS,AM];omega
 obtain ⟨a1,a2⟩:=hall m.ts ht;have hz:=tQ (MB m) (fun l hl=>by
  have hl:l∈SY m++GZ m.ts:=hl;rcases AV.1 hl with hl | hl
  ·exact Bd h l hl
  ·exact a1 l hl)
 have hn:(MB m).length=2+(GZ m.ts).length:=by
  show (SY m++GZ m.ts).length=_;rw [AS];rfl
 rw [hp];refine ⟨?_,by omega⟩;have e:GC (MB m)=FU [NY,DQ m.d,DQ m.c]++GC (([I5 :: ([m.b0,m.b1,m.b2].take m.c.toNat).map DU])++GZ m.ts):=rfl;rw [e,AY]
 have:1≤(FU [NY,DQ m.d,DQ m.c]).size:=by
  unfold FU;rw [AY];have e1:AD PN=1:=rfl;omega
 omega
open Go
theorem zb5 (i:Nat) (h:i≤9223372036854775807):(DQ (i:Int)).size≤21:=ZL (by show -9223372036854775808≤_; omega) (by show _≤(9223372036854775807:Int); omega)
theorem Be (i:Nat) (h:i≤1000000000):(F2 i).size≤28:=by
 have:=zb5 i (by omega)
 unfold F2;rw [AY,AY];show 6+_+1≤28;omega
theorem Ov:∀ (vs:List Vd) (i:Nat),i+vs.length≤1000000000→(∀ v∈vs,v.rng)→(JX i vs).size≤4000028*vs.length
 | [],_,_,_=>B4 _
 | v :: r,i,hi,h=>by
  have h1:=kP (h v (AN ..));have h2:=Ov r (i+1) (by simp only [AM] at hi; omega) fun x hx=>h x (AW _ hx)
  have h3:=Be i (by simp only [AM] at hi; omega);unfold JX;rw [AY,AY,AM];omega
theorem Ib (a b:BA) (h:(EK b).length≤1000):(FT a b).size≤4000028*1000:=by
 cases ht:KE a with
 | false=>
  unfold FT;rw [ht,DK];show 6≤_;omega
 | true=>
  rw [Id ht]
  have:=Ov (I7 (GH a) (EK b)) 0 (by unfold I7; rw [BK]; omega) fun v hv=>(uZ _ _ v hv).2
  unfold I7 at this;rw [BK] at this;unfold I7;omega
theorem zfS (m:Md) (x:IV) (xs:LI) (w:Int):HK m (x :: xs) w=(FJ (T7 x) m).bud w :: HK m xs w:=rfl
theorem ziD {l:LI} {k i:Nat} (h:i < l.length) (hk:i < k):(l.take k).drop i=l[i] :: (l.take k).drop (i+1):=by
 rw [BF (by rw [BC]; omega),List.getElem_take]
theorem Nl {l:LI} {k i:Nat} (h:¬ (i < l.length∧i < k)):(l.take k).drop i=[]:=CR (by rw [BC]; omega)
theorem zeR {m:Md} (h:OF m=true):(1≤m.d∧m.d≤4)∧(1≤m.c∧m.c≤3):=by
 unfold OF at h;simp only [AH,AQ] at h;exact ⟨⟨h.1.1,h.1.2⟩,⟨h.2.1,h.2.2⟩⟩
theorem mP {m:Md} (h:OF m=true) (a:Ak) {w:Int} (h0:0≤w) (h1:w≤65536):(DZ ((FJ a m).bud w) m.d).size≤2000:=by
 obtain ⟨hd,hc⟩:=zeR h;exact zfD (vE a hd hc h0 h1).2.1 _
theorem zfT (m:Md) (xs:LI) (w:Int):(HK m xs w).length=xs.length:=BK ..
theorem Gz (d:Int):∀ (l:List Qy) (s:BA),(∀ q∈l,(DZ q d).size≤2000)→(G1 d s l).size≤s.size+2001*l.length
 | [],s,_=>AX _
 | q :: l,s,h=>by
  have h1:=h q (AN ..);have h2:=Gz d l (s++DZ q d++ES) fun x hx=>h x (AW _ hx)
  rw [AY,AY] at h2;have e:ES.size=1:=rfl;rw [G1,AM];omega
theorem zfU {m:Md} (h:OF m=true) (xs:LI) {w:Int} (h0:0≤w) (h1:w≤65536):∀ q∈HK m xs w,(DZ q m.d).size≤2000:=by
 intro q hq;obtain ⟨x,_,rfl⟩:=CK.1 hq;exact mP h (T7 x) h0 h1
open Go Go.Proofs
def HT (N:Nat):Env:=D6 [(17,MO),(38,SD),(71,V9)] [(4,⟨[1,2,4,5,6,7],[2,500,501],[⟨.tmp 5,500,111,true,[.bool,.z,.z,.z,.z,.z]⟩,⟨.tmp 6,501,3,false,[.z]⟩]⟩),(14,⟨[4,11,100,101,102],[500,502],[⟨.tmp 11,502,103,false,[.int .u64]⟩]⟩)] 113 N
abbrev YL (x1:Int) (n5 n6:Nat) (x7 u06:Int) (u00 u01 u02 u03 u04 u05:LI):St:=⟨[(1,(.i x1)),(2,(.ptr 2 0 0)),(4,.zs),(5,(.row 500 0 n5)),(6,(.row 501 0 n6)),(7,(.i x7))],[(2,(some (.box [.i u06,.list false [.z] u00,.list false [.z] u01,.list false [.z] u02,.list false [.z] u03]))),(500,(some (.row true 111 true [.bool,.z,.z,.z,.z,.z] u04))),(501,(some (.row true 3 false [.z] u05)))]⟩
abbrev aP (n11 n100:Nat) (x101 x102:Int) (u00 u01:LI):St:=⟨[(4,.zs),(11,(.row 502 0 n11)),(100,(.row 500 0 n100)),(101,(.i x101)),(102,(.i x102))],[(500,(some (.row true 111 true [.bool,.z,.z,.z,.z,.z] u00))),(502,(some (.row true 103 false [.int .u64] u01)))]⟩
theorem zdp (N:Nat) (u00:Int) (u01 t_By t_At u02:LI) (a1:Int):D1 (HT N) MS [.tmp 4] [[.list false [.int .u64]]] [.agg [.i u00,.list false [.z] u01,.list false [.z] t_By,.list false [.z] t_At,.list false [.z] u02],.i a1]=(D0 (HT N) (DL MS [1,1,1,0,1,0,0]) ⟨[1,2,4,5,6,7],[2,500,501],[⟨(.tmp 5),500,111,true,[.bool,.z,.z,.z,.z,.z]⟩,⟨(.tmp 6),501,3,false,[.z]⟩]⟩ N (YL a1 1 1 0 u00 u01 t_By t_At u02 [(IV.agg [IV.bool true,IV.int (DN (EL u02 0) (-3000) 3000),IV.int 0,IV.int 0,IV.int 0,IV.int 0])] [(IV.int 0)]) (DS 0 (DT (HT N) (DL MS [1,1,1,1]) (DV (HT N) none [.tmp 4] [[.list false [.int .u64]]])))):=by kernel_rfl
theorem Ma (N:Nat) (x1:Int) (n5 n6:Nat) (x7 u06:Int) (u00 u01 u02 u03 u04 u05:LI) (again:St→DP) (k:Out→St→DP):FG (HT N) (DL MS [1,1,1,0,1,0,0]) (YL x1 n5 n6 x7 u06 u00 u01 u02 u03 u04 u05) (EW again ⟨[1,2,4,5,6,7],[2,500,501],[⟨(.tmp 5),500,111,true,[.bool,.z,.z,.z,.z,.z]⟩,⟨(.tmp 6),501,3,false,[.z]⟩]⟩ k)=(cond (decide (x7 < ic (AG u00))) (cond (decide (x7 < 7)) (cond (decide (0≤x7)&&decide (x7 < ic (AG u00))) (cond (decide (N0 0 (AA AB (ic (n6 - 0) - 1))=0)) none (cond (decide (0≤DN (IV.toInt (AI u00 (AF x7) default)) 0 (AA AB (ic (n6 - 0) - 1)))&&decide (DN (IV.toInt (AI u00 (AF x7) default)) 0 (AA AB (ic (n6 - 0) - 1)) < ic (n6 - 0))) (cond (decide (0≤x7)) (cond (decide (N0 0 (AA AB (x1 - 1))=0)) none (cond (decide (0≤x7)) (cond (decide (0≤IV.toInt (AI u05 (0+AF (DN (IV.toInt (AI u00 (AF x7) default)) 0 (AA AB (ic (n6 - 0) - 1)))) default))&&decide (IV.toInt (AI u05 (0+AF (DN (IV.toInt (AI u00 (AF x7) default)) 0 (AA AB (ic (n6 - 0) - 1)))) default) < ic (n5 - 0))) (cond (decide (0≤AA AB (AA AB (2*x7)+1))) (cond (decide (0≤AA AB (AA AB (2*x7)+2))) (cond (decide ((n5+AG (AT 0 (AK 2 [IV.agg [IV.bool true,IV.int (DN (EL u03 (AA AB (AA AB (2*x7)+1))) (-3000) 3000),IV.int 0,IV.int 0,IV.int 0,IV.int 0],IV.agg [IV.bool true,IV.int (DN (EL u03 (AA AB (AA AB (2*x7)+2))) (-3000) 3000),IV.int 0,IV.int 0,IV.int 0,IV.int 0]])))*TI.bytes (Env.tyd (HT N) 111)≤EG)) (cond (decide (0≤DN (IV.toInt (AI u00 (AF x7) default)) 0 (AA AB (ic (n6 - 0) - 1)))&&decide (DN (IV.toInt (AI u00 (AF x7) default)) 0 (AA AB (ic (n6 - 0) - 1))≤ic (n6 - 0))) (cond (decide ((0+AG (AT 0 (AK (0+AF (DN (IV.toInt (AI u00 (AF x7) default)) 0 (AA AB (ic (n6 - 0) - 1)))) u05)))*TI.bytes (Env.tyd (HT N) 3)≤EG)) (cond (decide (0≤AA AB (DN (IV.toInt (AI u00 (AF x7) default)) 0 (AA AB (ic (n6 - 0) - 1))+1))&&decide (AA AB (DN (IV.toInt (AI u00 (AF x7) default)) 0 (AA AB (ic (n6 - 0) - 1))+1)≤ic (n6 - 0))) (cond (decide ((0+AG (AT 0 (AK (0+AF (DN (IV.toInt (AI u00 (AF x7) default)) 0 (AA AB (ic (n6 - 0) - 1)))) u05))+AG (AT (0+AF (AA AB (DN (IV.toInt (AI u00 (AF x7) default)) 0 (AA AB (ic (n6 - 0) - 1))+1))) (AK (0+(n6 - 0)) u05)))*TI.bytes (Env.tyd (HT N) 3)≤EG)) (cond (decide ((0+AG (AT 0 (AK (0+AF (DN (IV.toInt (AI u00 (AF x7) default)) 0 (AA AB (ic (n6 - 0) - 1)))) u05))+AG (AT (0+AF (AA AB (DN (IV.toInt (AI u00 (AF x7) default)) 0 (AA AB (ic (n6 - 0) - 1))+1))) (AK (0+(n6 - 0)) u05))+AG (AT 0 (AK 2 [IV.int (ic (n5 - 0)),IV.int (AA AB (ic (n5 - 0)+1))])))*TI.bytes (Env.tyd (HT N) 3)≤EG)) (again (YL x1 (n5+AG (AT 0 (AK 2 [IV.agg [IV.bool true,IV.int (DN (EL u03 (AA AB (AA AB (2*x7)+1))) (-3000) 3000),IV.int 0,IV.int 0,IV.int 0,IV.int 0],IV.agg [IV.bool true,IV.int (DN (EL u03 (AA AB (AA AB (2*x7)+2))) (-3000) 3000),IV.int 0,IV.int 0,IV.int 0,IV.int 0]]))) (0+AG (AT 0 (AK (0+AF (DN (IV.toInt (AI u00 (AF x7) default)) 0 (AA AB (ic (n6 - 0) - 1)))) u05))+AG (AT (0+AF (AA AB (DN (IV.toInt (AI u00 (AF x7) default)) 0 (AA AB (ic (n6 - 0) - 1))+1))) (AK (0+(n6 - 0)) u05))+AG (AT 0 (AK 2 [IV.int (ic (n5 - 0)),IV.int (AA AB (ic (n5 - 0)+1))]))) (AA AB (x7+1)) u06 u00 u01 u02 u03 (AK n5 (List.set u04 (0+AF (IV.toInt (AI u05 (0+AF (DN (IV.toInt (AI u00 (AF x7) default)) 0 (AA AB (ic (n6 - 0) - 1)))) default))) (OG true [Kd.bool,Kd.int AB,Kd.int AB,Kd.int AB,Kd.int AB,Kd.int AB] (AI u04 (0+AF (IV.toInt (AI u05 (0+AF (DN (IV.toInt (AI u00 (AF x7) default)) 0 (AA AB (ic (n6 - 0) - 1)))) default))) default) 0 [IV.bool false,IV.int 0,IV.int (DN (EL u01 x7) 0 (AA AB (x1 - 1))),IV.int (DN (EL u02 x7) 0 9),IV.int (ic (n5 - 0)),IV.int (AA AB (ic (n5 - 0)+1))]))++AT 0 (AK 2 [IV.agg [IV.bool true,IV.int (DN (EL u03 (AA AB (AA AB (2*x7)+1))) (-3000) 3000),IV.int 0,IV.int 0,IV.int 0,IV.int 0],IV.agg [IV.bool true,IV.int (DN (EL u03 (AA AB (AA AB (2*x7)+2))) (-3000) 3000),IV.int 0,IV.int 0,IV.int 0,IV.int 0]])) (AK (0+AG (AT 0 (AK (0+AF (DN (IV.toInt (AI u00 (AF x7) default)) 0 (AA AB (ic (n6 - 0) - 1)))) u05))+AG (AT (0+AF (AA AB (DN (IV.toInt (AI u00 (AF x7) default)) 0 (AA AB (ic (n6 - 0) - 1))+1))) (AK (0+(n6 - 0)) u05))) (AK (0+AG (AT 0 (AK (0+AF (DN (IV.toInt (AI u00 (AF x7) default)) 0 (AA AB (ic (n6 - 0) - 1)))) u05))) (AK 0 []++AT 0 (AK (0+AF (DN (IV.toInt (AI u00 (AF x7) default)) 0 (AA AB (ic (n6 - 0) - 1)))) u05))++AT (0+AF (AA AB (DN (IV.toInt (AI u00 (AF x7) default)) 0 (AA AB (ic (n6 - 0) - 1))+1))) (AK (0+(n6 - 0)) u05))++AT 0 (AK 2 [IV.int (ic (n5 - 0)),IV.int (AA AB (ic (n5 - 0)+1))])))) none) none) none) none) none) none) none) none) none) none)) none) none)) none) (k (.exit 0) (YL x1 n5 n6 x7 u06 u00 u01 u02 u03 u04 u05))) (k (.exit 0) (YL x1 n5 n6 x7 u06 u00 u01 u02 u03 u04 u05))):=by kernel_rfl
theorem Xp (N:Nat) (x1:Int) (n5 n6:Nat) (x7 u06:Int) (u00 u01 u02 u03 u04 u05:LI):(DS 0 (DT (HT N) (DL MS [1,1,1,1]) (DV (HT N) none [.tmp 4] [[.list false [.int .u64]]]))) (.exit 0) (YL x1 n5 n6 x7 u06 u00 u01 u02 u03 u04 u05)=(D0 (HT N) (DL MS [1,1,1,1,1,0,1,0,0]) ⟨[4,11,100,101,102],[500,502],[⟨(.tmp 11),502,103,false,[.int .u64]⟩]⟩ N (aP 0 n5 (ic (n5 - 0)) 0 u04 []) (DS 2 (DT (HT N) (DL MS [1,1,1,1,1,1]) (DV (HT N) none [.tmp 4] [[.list false [.int .u64]]])))):=by kernel_rfl
theorem Mb (N n11 n100:Nat) (x101 x102:Int) (u00 u01:LI) (again:St→DP) (k:Out→St→DP):FG (HT N) (DL MS [1,1,1,1,1,0,1,0,0]) (aP n11 n100 x101 x102 u00 u01) (EW again ⟨[4,11,100,101,102],[500,502],[⟨(.tmp 11),502,103,false,[.int .u64]⟩]⟩ k)=(cond (decide (x102 < x101)) (cond (decide (0≤x102)&&decide (x102 < ic (n100 - 0))) (cond (decide ((n11+AG (AT 0 (AK 1 [IV.int (IG (IV.toBool (IV.cell (AI u00 (0+AF x102) default) 0)) (IV.toInt (IV.cell (AI u00 (0+AF x102) default) 1)) (IV.toInt (IV.cell (AI u00 (0+AF x102) default) 2)) (IV.toInt (IV.cell (AI u00 (0+AF x102) default) 3)) (IV.toInt (IV.cell (AI u00 (0+AF x102) default) 4)) (IV.toInt (IV.cell (AI u00 (0+AF x102) default) 5)))])))*TI.bytes (Env.tyd (HT N) 103)≤EG)) (again (aP (n11+AG (AT 0 (AK 1 [IV.int (IG (IV.toBool (IV.cell (AI u00 (0+AF x102) default) 0)) (IV.toInt (IV.cell (AI u00 (0+AF x102) default) 1)) (IV.toInt (IV.cell (AI u00 (0+AF x102) default) 2)) (IV.toInt (IV.cell (AI u00 (0+AF x102) default) 3)) (IV.toInt (IV.cell (AI u00 (0+AF x102) default) 4)) (IV.toInt (IV.cell (AI u00 (0+AF x102) default) 5)))]))) n100 x101 (AA AB (x102+1)) u00 (AK n11 u01++AT 0 (AK 1 [IV.int (IG (IV.toBool (IV.cell (AI u00 (0+AF x102) default) 0)) (IV.toInt (IV.cell (AI u00 (0+AF x102) default) 1)) (IV.toInt (IV.cell (AI u00 (0+AF x102) default) 2)) (IV.toInt (IV.cell (AI u00 (0+AF x102) default) 3)) (IV.toInt (IV.cell (AI u00 (0+AF x102) default) 4)) (IV.toInt (IV.cell (AI u00 (0+AF x102) default) 5)))])))) none) none) (k (.exit 2) (aP n11 n100 x101 x102 u00 u01))):=by kernel_rfl
theorem Xq (N n11 n100:Nat) (x101 x102:Int) (u00 u01:LI):(DS 2 (DT (HT N) (DL MS [1,1,1,1,1,1]) (DV (HT N) none [.tmp 4] [[.list false [.int .u64]]]))) (.exit 2) (aP n11 n100 x101 x102 u00 u01)=(some ((.list false [.int .u64] (AT 0 (AK n11 u01))),[])):=by kernel_rfl
open Go Go.Proofs
structure Ns.At (i:Nat) (s:Ns):Prop where
 nl:s.nodes.length=2*i+1
 ll:s.leaves.length=i+1
 lt:∀ x∈s.leaves,0≤x.toInt∧x.toInt < (2*i+1:Nat)
theorem p9 {part:LI} {i:Nat} {s:Ns} (h:s.At i) (hi:i≤100):0≤H7 part i s∧H7 part i s < ((i+1:Nat):Int)∧N0 0 (ic s.leaves.length - 1)=((i+1:Nat):Int):=by
 have e:ic s.leaves.length=((i+1:Nat):Int):=by rw [h.ll]
 obtain ⟨m,a,b⟩:=HG (n:=(part.getD i default).toInt) (lo:=0) (hi:=ic s.leaves.length - 1) (by rw [e]; omega) (by omega) (by rw [e]; omega);unfold H7;rw [e] at a b m ⊢;exact ⟨a,by omega,by rw [m]; omega⟩
theorem zeN {part:LI} {i:Nat} {s:Ns} (h:s.At i) (hi:i≤100):0≤RI part i s∧RI part i s < (2*i+1:Nat):=by
 obtain ⟨k0,k1,_⟩:=p9 (part:=part) h hi;have hk:(H7 part i s).toNat < s.leaves.length:=by rw [h.ll]; omega
 have e:s.leaves.getD (H7 part i s).toNat default=s.leaves[(H7 part i s).toNat]:=by simp [hk]
 unfold RI;rw [e];exact h.lt _ (C1 hk)
theorem Ns.At.step {part byl atl val:LI} {dim:Int} {i:Nat} {s:Ns} (h:s.At i) (hi:i≤100):(KQ part byl atl val dim i s).At (i+1):=by
 obtain ⟨k0,k1,_⟩:=p9 (part:=part) h hi;refine ⟨?_,?_,?_⟩
 ·simp only [KQ,AS,vaF,AM,A7,h.nl];omega
 ·simp only [KQ,AS,BC,CY,AM,A7,h.ll];omega
 ·intro x hx;simp only [KQ,AV] at hx;rcases hx with (hx | hx) | hx
  ·have:=h.lt x (vaH hx)
   omega
  ·have:=h.lt x (va6 hx)
   omega
  ·simp only [AP,BX,CP] at hx;rcases hx with rfl | rfl
   ·simp only [IV.toInt,ic,h.nl]; omega
   ·simp only [IV.toInt,ic,h.nl]; omega
abbrev kN:List Kd:=[.bool,.z,.z,.z,.z,.z]
abbrev pB:KP:=⟨[1,2,4,5,6,7],[2,500,501],[⟨(.tmp 5),500,111,true,[.bool,.z,.z,.z,.z,.z]⟩,⟨(.tmp 6),501,3,false,[.z]⟩]⟩
abbrev gJ (cl:Int) (part byl atl val:LI) (dim:Int) (s:Ns) (i:Int):St:=
 ⟨[(1,(.int .i64 dim)),(2,(.ptr 2 0 0)),(4,.zs),(5,(.row 500 0 s.nodes.length)),(6,(.row 501 0 s.leaves.length)),(7,(.int .i64 i))],[(2,(some (.box [(.int .i64 cl),(.list false [.z] part),(.list false [.z] byl),(.list false [.z] atl),(.list false [.z] val)]))),(500,(some (.row true 111 true kN s.nodes))),(501,(some (.row true 3 false [.z] s.leaves)))]⟩
theorem zeI (N:Nat):TI.bytes (Env.tyd (HT N) 111)=48:=by rfl
theorem zb0 (N:Nat):TI.bytes (Env.tyd (HT N) 3)=8:=by rfl
theorem zfQ (x a b c d e f:IV):OG true kN x 0 [a,b,c,d,e,f] = .agg [a,b,c,d,e,f]:=rfl
set_option maxHeartbeats 4000000 in
theorem zeJ (N:Nat) (cl:Int) (part byl atl val:LI) (dim:Int) (h1:1≤dim) (h4:dim≤4) (s:Ns) (i:Nat) (hs:s.At i) (hi:i < part.length) (h7:i < 7) (again:St→DP) (k:Out→St→DP) :
  FG (HT N) (DL MS [1,1,1,0,1,0,0]) (gJ cl part byl atl val dim s (i:Int)) (EW again pB k)=again (gJ cl part byl atl val dim (KQ part byl atl val dim i s) ((i+1:Nat):Int)):=by
 refine (Ma N dim s.nodes.length s.leaves.length i cl part byl atl val s.nodes s.leaves again k).trans ?_;obtain ⟨k0,k1,km⟩:=p9 (part:=part) hs (by omega);obtain ⟨a0,a1⟩:=zeN (part:=part) hs (by omega);obtain ⟨dm,_,_⟩:=HG (n:=0) (lo:=0) (hi:=dim - 1) (by omega) (by omega) (by omega);have eL:ic (s.leaves.length - 0)=ic s.leaves.length:=rfl;have eN:ic (s.nodes.length - 0)=ic s.nodes.length:=rfl;have hL:ic s.leaves.length=((i+1:Nat):Int):=by rw [hs.ll]
 have hN:ic s.nodes.length=((2*i+1:Nat):Int):=by rw [hs.nl]
 have w1:IntKind.wrap IntKind.i64 (ic s.leaves.length - 1)=ic s.leaves.length - 1:=EO (by rw [hL]; omega) (by rw [hL]; omega);have w2:IntKind.wrap IntKind.i64 (dim - 1)=dim - 1:=EO (by omega) (by omega);have w3:IntKind.wrap IntKind.i64 (2*(i:Int))=2*(i:Int):=EO (by omega) (by omega);have w4:IntKind.wrap IntKind.i64 (2*(i:Int)+1)=2*(i:Int)+1:=EO (by omega) (by omega);have w5:IntKind.wrap IntKind.i64 (2*(i:Int)+2)=2*(i:Int)+2:=EO (by omega) (by omega);have w6:IntKind.wrap IntKind.i64 (ic s.nodes.length+1)=ic s.nodes.length+1:=EO (by rw [hN]; omega) (by rw [hN]; omega);rw [eL,eN,w1,w2,w3,w4,w5,w6,Int.toNat_natCast];have eK:DN (IV.toInt (List.getD part i default)) 0 (ic s.leaves.length - 1)=H7 part i s:=rfl;rw [eK];have w7:IntKind.wrap IntKind.i64 (H7 part i s+1)=H7 part i s+1:=EO (by omega) (by omega);rw [w7];have e0:∀ n:Nat,0+n=n:=Nat.zero_add;simp only [e0];have eA:IV.toInt (List.getD s.leaves (H7 part i s).toNat default)=RI part i s:=rfl;rw [eA,zeI,zb0];obtain ⟨q,hq⟩:∃ q:Nat,H7 part i s=q:=⟨(H7 part i s).toNat,by omega⟩;have eq1:(H7 part i s+1).toNat=q+1:=by omega
 have eq0:(H7 part i s).toNat=q:=by omega
 have hq1:q < i+1:=by omega
 have lt2:∀ x y:IV,(List.drop 0 (List.take 2 [x,y]))=[x,y]:=fun _ _=>rfl
 have lk:List.drop 0 (List.take q s.leaves)=List.take q s.leaves:=List.drop_zero;have lk2:List.drop (q+1) (List.take (s.leaves.length - 0) s.leaves)=List.drop (q+1) s.leaves:=by rw [Nat.sub_zero,List.take_length]
 rw [eq1,eq0,lt2,lt2,lk,lk2];have zA:(List.take q s.leaves).length=q:=by rw [List.length_take,hs.ll]; omega
 have zB:(List.drop (q+1) s.leaves).length=i - q:=by rw [List.length_drop,hs.ll]; omega
 rw [zA,zB];simp only [List.length_cons,List.length_nil];rw [decide_eq_true (show (i:Int) < ic part.length by simp only [ic]; omega),decide_eq_true (show (i:Int) < 7 by omega),decide_eq_true (show 0≤(i:Int) by omega),km,decide_eq_false (show ¬ ((i+1:Nat):Int)=0 by omega),
  decide_eq_true k0,decide_eq_true (show H7 part i s < ic s.leaves.length by rw [hL]; exact k1),dm,decide_eq_false (show ¬ (dim - 1 - 0+1=0) by omega),decide_eq_true a0,decide_eq_true (show RI part i s < ic s.nodes.length by rw [hN]; exact a1),
  decide_eq_true (show 0≤2*(i:Int)+1 by omega),decide_eq_true (show 0≤2*(i:Int)+2 by omega),decide_eq_true (show (s.nodes.length+(0+1+1))*48≤EG by rw [hs.nl]; unfold EG; omega),
  decide_eq_true (show H7 part i s≤ic s.leaves.length by rw [hL]; omega),decide_eq_true (show q*8≤EG by unfold EG; omega),decide_eq_true (show 0≤H7 part i s+1 by omega),decide_eq_true (show H7 part i s+1≤ic s.leaves.length by rw [hL]; omega),
  decide_eq_true (show (q+(i - q))*8≤EG by unfold EG; omega),decide_eq_true (show (q+(i - q)+(0+1+1))*8≤EG by unfold EG; omega)]
 simp only [Bool.and_true,DJ,DK];have g1:(KQ part byl atl val dim i s).nodes.length=s.nodes.length+(0+1+1):=by rw [(hs.step (by omega)).nl,hs.nl]; omega
 have g2:(KQ part byl atl val dim i s).leaves.length=q+(i - q)+(0+1+1):=by rw [(hs.step (by omega)).ll]; omega
 have g3:(KQ part byl atl val dim i s).nodes=List.take s.nodes.length (List.set s.nodes (RI part i s).toNat (OG true kN (List.getD s.nodes (RI part i s).toNat default) 0 [IV.bool false,IV.int 0,IV.int (DN (EL byl (i:Int)) 0 (dim - 1)),IV.int (DN (EL atl (i:Int)) 0 9),IV.int (ic s.nodes.length),IV.int (ic s.nodes.length+1)])) ++
   [IV.agg [IV.bool true,IV.int (DN (EL val (2*(i:Int)+1)) (-3000) 3000),IV.int 0,IV.int 0,IV.int 0,IV.int 0],IV.agg [IV.bool true,IV.int (DN (EL val (2*(i:Int)+2)) (-3000) 3000),IV.int 0,IV.int 0,IV.int 0,IV.int 0]]:=by
  rw [zfQ,List.take_of_length_le (by rw [List.length_set]; exact Nat.le_refl _)];rfl
 have g4:(KQ part byl atl val dim i s).leaves=List.take (q+(i - q)) (List.take q (List.take 0 []++List.take q s.leaves)++List.drop (q+1) s.leaves)++[IV.int (ic s.nodes.length),IV.int (ic s.nodes.length+1)]:=by
  rw [List.take_zero,List.nil_append,List.take_take,Nat.min_self,List.take_of_length_le (by rw [List.length_append,zA,zB]; exact Nat.le_refl _)];show List.take (H7 part i s).toNat s.leaves++List.drop ((H7 part i s).toNat+1) s.leaves++_=_;rw [eq0]
 rw [show gJ cl part byl atl val dim (KQ part byl atl val dim i s) ((i+1:Nat):Int)=⟨[(1,(.int .i64 dim)),(2,(.ptr 2 0 0)),(4,.zs),(5,(.row 500 0 (KQ part byl atl val dim i s).nodes.length)),(6,(.row 501 0 (KQ part byl atl val dim i s).leaves.length)),(7,(.int .i64 ((i+1:Nat):Int)))],[(2,(some (.box [(.int .i64 cl),(.list false [.z] part),(.list false [.z] byl),(.list false [.z] atl),(.list false [.z] val)]))),(500,(some (.row true 111 true kN (KQ part byl atl val dim i s).nodes))),(501,(some (.row true 3 false [.z] (KQ part byl atl val dim i s).leaves)))]⟩ from rfl,g1,g2,g3,g4,HR (by omega)]
theorem Ep (N:Nat) (cl:Int) (part byl atl val:LI) (dim:Int) (h1:1≤dim) (h4:dim≤4) (K:Out→St→DP):∀ (d i n:Nat) (s:Ns),i+d=min part.length 7→d < n→s.At i →
  (∃ j,D0 (HT N) (DL MS [1,1,1,0,1,0,0]) pB n (gJ cl part byl atl val dim s (i:Int)) K=K (.exit 0) (gJ cl part byl atl val dim (ZR part byl atl val dim d i s) j))∧(ZR part byl atl val dim d i s).At (i+d)
 | 0,i,n+1,s,hd,hn,hs=>by
  refine ⟨⟨(i:Int),?_⟩,hs⟩;rw [EA];refine (Ma N dim s.nodes.length s.leaves.length i cl part byl atl val s.nodes s.leaves _ _).trans ?_;by_cases hp:i < part.length
  ·rw [AE (show (i:Int) < ic part.length by simp only [ic]; omega),DJ,AL (show ¬ (i:Int) < 7 by omega),DK];rfl
  ·rw [AL (show ¬ (i:Int) < ic part.length by simp only [ic]; omega),DK];rfl
 | d+1,i,n+1,s,hd,hn,hs=>by
  obtain ⟨⟨j,ih⟩,ih2⟩:=Ep N cl part byl atl val dim h1 h4 K d (i+1) n (KQ part byl atl val dim i s) (by omega) (by omega) (hs.step (by omega));refine ⟨⟨j,?_⟩,by rw [show i+(d+1)=i+1+d by omega]; exact ih2⟩;rw [EA,zeJ N cl part byl atl val dim h1 h4 s i hs (by omega) (by omega)];exact ih
 | _,_,0,_,_,h,_=>by omega
theorem zi3 (N:Nat):TI.bytes (Env.tyd (HT N) 103)=8:=by rfl
abbrev Ce:KP:=⟨[4,11,100,101,102],[500,502],[⟨(.tmp 11),502,103,false,[(.int .u64)]⟩]⟩
theorem Fg (N:Nat) (L:LI) (hL:L.length≤1000):∀ (d i n:Nat) (O:LI),i+d=L.length→d < n→O.length=i →
  D0 (HT N) (DL MS [1,1,1,1,1,0,1,0,0]) Ce n ⟨[(4,.zs),(11,(.row 502 0 O.length)),(100,(.row 500 0 L.length)),(101,(.int .i64 (ic (L.length - 0)))),(102,(.int .i64 (i:Int)))],[(500,(some (.row true 111 true kN L))),(502,(some (.row true 103 false [(.int .u64)] O)))]⟩
   (DS 2 (DT (HT N) (DL MS [1,1,1,1,1,1]) (DV (HT N) none [(CF 4)] [[(.list false [(.int .u64)])]])))=some (.list false [.int .u64] (O++(L.drop i).map S5),[])
 | 0,i,n+1,O,hd,hn,hO=>by
  rw [EA];refine (Mb N O.length L.length (ic (L.length - 0)) i L O _ _).trans ?_;rw [AL (show ¬ (i:Int) < ic (L.length - 0) by simp only [ic]; omega),DK];refine (Xq N O.length L.length (ic (L.length - 0)) i L O).trans ?_;rw [B5,BR,CR (by omega),CB,C9]
 | d+1,i,n+1,O,hd,hn,hO=>by
  have hi:i < L.length:=by omega
  rw [EA];refine (Mb N O.length L.length (ic (L.length - 0)) i L O _ _).trans ?_;have ih:=Fg N L hL d (i+1) n (O++[S5 L[i]]) (by omega) (by omega) (by simp [hO]);have l1:∀ x:IV,AT 0 (AK 1 [x])=[x]:=fun _=>rfl
  have eg:AI L (0+AF (i:Int)) default=L[i]:=by rw [BL,BD]; simp [hi]
  rw [AE (show (i:Int) < ic (L.length - 0) by simp only [ic]; omega),AE (show 0≤(i:Int) by omega),B9,DJ,DJ,eg,l1,zi3,C3,AE (show (O.length+1)*8≤EG by rw [hO]; unfold EG; omega),DJ,BR,HR (by omega)];rw [BF hi,A0];rw [AS,C3,va1] at ih;exact ih
 | _,_,0,_,_,h,_=>by omega
theorem zhi:DY PR B0 39 bU:=by
 refine D7 [(17,MO),(38,SD),(71,V9)] [(4,pB),(14,Ce)] bU [[.list false [.int .u64]]] Tryz.func39 zaF
  ⟨Z8,sQ,Jo,trivial⟩ ?_
 intro vs r hwf h;unfold bU at h;split at h
 ·rename_i cl part byl atl val dim;cases hc:(decide (1≤dim)&&decide (dim≤4)) with
  | false=>rw [hc] at h; simp [R.get] at h
  | true=>
   rw [hc,R.get_br,DJ,R.get_ok] at h;simp only [AH,AQ] at hc;refine ⟨30,?_⟩;rw [← h];refine (zdp 30 cl part byl atl val dim).trans ?_;have h0:(⟨[MA (DN (EL val 0) (-3000) 3000)],[.int 0]⟩:Ns).At 0:=⟨rfl,rfl,fun x hx=>by
    rw [BJ] at hx;subst hx;exact ⟨by decide,by decide⟩⟩
   obtain ⟨⟨j,run⟩,hat⟩:=Ep 30 cl part byl atl val dim hc.1 hc.2 (DS 0 (DT (HT 30) (DL MS [1,1,1,1]) (DV (HT 30) none [(CF 4)] [[(.list false [(.int .u64)])]]))) (min part.length 7) 0 30 _ (by omega) (by omega) h0;refine run.trans ?_;have e:ZR part byl atl val dim (min part.length 7) 0 ⟨[MA (DN (EL val 0) (-3000) 3000)],[.int 0]⟩=PB part byl atl val dim:=rfl;rw [e] at hat ⊢;have hn:=hat.nl;refine (Xp 30 dim (PB part byl atl val dim).nodes.length (PB part byl atl val dim).leaves.length j cl part byl atl val (PB part byl atl val dim).nodes (PB part byl atl val dim).leaves).trans ?_
   have:=Fg 30 (PB part byl atl val dim).nodes (by omega) (PB part byl atl val dim).nodes.length 0 30 [] (by omega) (by omega) rfl
   rw [B5,DA] at this;exact this
 ·simp [R.get] at h
open Go Go.Proofs
def JJ (N:Nat):Env:=D6 [(17,MO),(39,bU),(38,SD)] [(3,⟨[1,2,3,14,15],[1,2,3],[]⟩),(8,⟨[1,2,3,5],[1,2,3,500],[⟨.cell 3 5,500,88,true,[.z,.list false [.int .u64]]⟩]⟩)] 63 N
abbrev VS (x14 x15 u02 u03:Int) (u00 u01:LI) (u04 u05 u06 u07 u08 u09 u0a u0b u0c u0d:Int):St:=⟨[(1,(.ptr 1 0 0)),(2,(.ptr 2 0 0)),(3,(.ptr 3 0 0)),(14,(.i x14)),(15,(.i x15))],[(1,(some (.box [.i u02,.i u03,.list false [.z] u00,.list true [.z,.list false [.z],.list false [.z],.list false [.z],.list false [.z]] u01]))),(2,(some (.box [.i u04,.i u05,.i u06,.i u07,.i u08,.zs]))),(3,(some (.box [.i u09,.i u0a,.i u0b,.i u0c,.i u0d,.zs])))]⟩
abbrev YK (x5 u04 u05:Int) (u00 u01:LI) (u06 u07 u08 u09 u0a u0b u0c u0d u0e u0f:Int) (u03:Nat) (u02:LI):St:=⟨[(1,(.ptr 1 0 0)),(2,(.ptr 2 0 0)),(3,(.ptr 3 0 0)),(5,(.i x5))],[(1,(some (.box [.i u04,.i u05,.list false [.z] u00,.list true [.z,.list false [.z],.list false [.z],.list false [.z],.list false [.z]] u01]))),(2,(some (.box [.i u06,.i u07,.i u08,.i u09,.i u0a,.zs]))),(3,(some (.box [.i u0b,.i u0c,.i u0d,.i u0e,.i u0f,.row 500 0 u03]))),(500,(some (.row true 88 true [.z,.list false [.int .u64]] u02)))]⟩
theorem zdm (N:Nat) (u02 u01:Int) (u00 u03:LI):D1 (JJ N) NF [.cell 2 30] [[.z,.z,.z,.z,.z,.list true [.z,.list false [.int .u64]]]] [.agg [.i u02,.i u01,.list false [.z] u00,.list true [.z,.list false [.z],.list false [.z],.list false [.z],.list false [.z]] u03]]=(D0 (JJ N) (DL NF [1,1,0,1,0,0]) ⟨[1,2,3,14,15],[1,2,3],[]⟩ N (VS (DN u01 1 3) 0 u02 u01 u00 u03 0 0 0 0 0 (DN u02 1 3) (DN u01 1 3) 0 0 0) (DS 0 (DT (JJ N) (DL NF [1,1,1]) (DV (JJ N) none [.cell 2 30] [[.z,.z,.z,.z,.z,.list true [.z,.list false [.int .u64]]]])))):=by kernel_rfl
theorem Lx (N:Nat) (x14 x15 u02 u03:Int) (u00 u01:LI) (u04 u05 u06 u07 u08 u09 u0a u0b u0c u0d:Int) (again:St→DP) (k:Out→St→DP):FG (JJ N) (DL NF [1,1,0,1,0,0]) (VS x14 x15 u02 u03 u00 u01 u04 u05 u06 u07 u08 u09 u0a u0b u0c u0d) (EW again ⟨[1,2,3,14,15],[1,2,3],[]⟩ k)=(cond (decide (x15 < x14)) (cond (decide (0≤x15)) (cond (decide (x15=ic 0)) (again (VS x14 (AA AB (x15+1)) u02 u03 u00 u01 u04 u05 u06 u07 u08 u09 u0a (DN (EL u00 x15) (-500) 500) u0c u0d)) (cond (decide (x15=ic 1)) (again (VS x14 (AA AB (x15+1)) u02 u03 u00 u01 u04 u05 u06 u07 u08 u09 u0a u0b (DN (EL u00 x15) (-500) 500) u0d)) (cond (decide (x15=ic 2)) (again (VS x14 (AA AB (x15+1)) u02 u03 u00 u01 u04 u05 u06 u07 u08 u09 u0a u0b u0c (DN (EL u00 x15) (-500) 500))) none))) none) (k (.exit 0) (VS x14 x15 u02 u03 u00 u01 u04 u05 u06 u07 u08 u09 u0a u0b u0c u0d))):=by kernel_rfl
theorem Xm (N:Nat) (x14 x15 u02 u03:Int) (u00 u01:LI) (u04 u05 u06 u07 u08 u09 u0a u0b u0c u0d:Int):(DS 0 (DT (JJ N) (DL NF [1,1,1]) (DV (JJ N) none [.cell 2 30] [[.z,.z,.z,.z,.z,.list true [.z,.list false [.int .u64]]]]))) (.exit 0) (VS x14 x15 u02 u03 u00 u01 u04 u05 u06 u07 u08 u09 u0a u0b u0c u0d)=(D0 (JJ N) (DL NF [1,1,1,0,1,0,0]) ⟨[1,2,3,5],[1,2,3,500],[⟨(.cell 3 5),500,88,true,[.z,.list false [.int .u64]]⟩]⟩ N (YK 0 u02 u03 u00 u01 u04 u05 u06 u07 u08 u09 u0a u0b u0c u0d 0 []) (DS 2 (DT (JJ N) (DL NF [1,1,1,1]) (DV (JJ N) none [.cell 2 30] [[.z,.z,.z,.z,.z,.list true [.z,.list false [.int .u64]]]])))):=by kernel_rfl
theorem Ly (N:Nat) (x5 u04 u05:Int) (u00 u01:LI) (u06 u07 u08 u09 u0a u0b u0c u0d u0e u0f:Int) (u03:Nat) (u02:LI) (again:St→DP) (k:Out→St→DP):FG (JJ N) (DL NF [1,1,1,0,1,0,0]) (YK x5 u04 u05 u00 u01 u06 u07 u08 u09 u0a u0b u0c u0d u0e u0f u03 u02) (EW again ⟨[1,2,3,5],[1,2,3,500],[⟨(.cell 3 5),500,88,true,[.z,.list false [.int .u64]]⟩]⟩ k)=(cond (decide (x5 < ic (AG u01))) (cond (decide (x5 < 4)) (cond (decide (0≤x5)&&decide (x5 < ic (AG u01))) (cond (decide (N0 0 (AA AB (u0c - 1))=0)) none (cond (decide (0≤x5)&&decide (x5 < ic (AG u01))) (cond (decide (1≤u0b)&&decide (u0b≤4)) (cond (decide ((u03+AG (AT 0 (AK 1 [IV.agg [IV.int (DN (IV.toInt (IV.cell (AI u01 (AF x5) default) 0)) 0 (AA AB (u0c - 1))),IV.list (MY (IV.toList (IV.cell (AI u01 (AF x5) default) 1)) (IV.toList (IV.cell (AI u01 (AF x5) default) 2)) (IV.toList (IV.cell (AI u01 (AF x5) default) 3)) (IV.toList (IV.cell (AI u01 (AF x5) default) 4)) u0b)]])))*TI.bytes (Env.tyd (JJ N) 88)≤EG)) (again (YK (AA AB (x5+1)) u04 u05 u00 u01 u06 u07 u08 u09 u0a u0b u0c u0d u0e u0f (u03+AG (AT 0 (AK 1 [IV.agg [IV.int (DN (IV.toInt (IV.cell (AI u01 (AF x5) default) 0)) 0 (AA AB (u0c - 1))),IV.list (MY (IV.toList (IV.cell (AI u01 (AF x5) default) 1)) (IV.toList (IV.cell (AI u01 (AF x5) default) 2)) (IV.toList (IV.cell (AI u01 (AF x5) default) 3)) (IV.toList (IV.cell (AI u01 (AF x5) default) 4)) u0b)]]))) (AK u03 u02++AT 0 (AK 1 [IV.agg [IV.int (DN (IV.toInt (IV.cell (AI u01 (AF x5) default) 0)) 0 (AA AB (u0c - 1))),IV.list (MY (IV.toList (IV.cell (AI u01 (AF x5) default) 1)) (IV.toList (IV.cell (AI u01 (AF x5) default) 2)) (IV.toList (IV.cell (AI u01 (AF x5) default) 3)) (IV.toList (IV.cell (AI u01 (AF x5) default) 4)) u0b)]])))) none) none) none)) none) (k (.exit 2) (YK x5 u04 u05 u00 u01 u06 u07 u08 u09 u0a u0b u0c u0d u0e u0f u03 u02))) (k (.exit 2) (YK x5 u04 u05 u00 u01 u06 u07 u08 u09 u0a u0b u0c u0d u0e u0f u03 u02))):=by kernel_rfl
theorem Xn (N:Nat) (x5 u04 u05:Int) (u00 u01:LI) (u06 u07 u08 u09 u0a u0b u0c u0d u0e u0f:Int) (u03:Nat) (u02:LI):(DS 2 (DT (JJ N) (DL NF [1,1,1,1]) (DV (JJ N) none [.cell 2 30] [[.z,.z,.z,.z,.z,.list true [.z,.list false [.int .u64]]]]))) (.exit 2) (YK x5 u04 u05 u00 u01 u06 u07 u08 u09 u0a u0b u0c u0d u0e u0f u03 u02)=(some ((.agg [.i u0b,.i u0c,.i u0d,.i u0e,.i u0f,.list true [.z,.list false [.int .u64]] (AT 0 (AK u03 u02))]),[])):=by kernel_rfl
open Go Go.Proofs
abbrev kT5:List Kd:=[.z,(.list false [.z]),(.list false [.z]),(.list false [.z]),(.list false [.z])]
def bF (bias:LI) (j:Int):Int:=DN (EL bias j) (-500) 500
abbrev mY (d c:Int) (bias ts:LI):Ob:=.box [(.int .i64 d),(.int .i64 c),(.list false [.z] bias),(.list true kT5 ts)]
abbrev m5:Ob:=.box [(.int .i64 0),(.int .i64 0),(.int .i64 0),(.int .i64 0),(.int .i64 0),.zs]
abbrev Lj (d c:Int) (bias ts:LI) (D C:Int) (i:Nat) (x:Int):St:=
 ⟨[(1,(.ptr 1 0 0)),(2,(.ptr 2 0 0)),(3,(.ptr 3 0 0)),(14,(.int .i64 C)),(15,(.int .i64 x))],[(1,(some (mY d c bias ts))),(2,(some m5)),(3,(some (.box [(.int .i64 D),(.int .i64 C),(.int .i64 (cond (BU 0 i) (bF bias 0) 0)),(.int .i64 (cond (BU 1 i) (bF bias 1) 0)),(.int .i64 (cond (BU 2 i) (bF bias 2) 0)),.zs])))]⟩
theorem vQ (N:Nat) (d c:Int) (bias ts:LI) (D:Int) (C:Nat) (hC:C≤3) (K:Out→St→DP):∀ (m i n:Nat),i+m=C→m < n →
  D0 (JJ N) (DL NF [1,1,0,1,0,0]) ⟨[1,2,3,14,15],[1,2,3],[]⟩ n (Lj d c bias ts D C i (i:Int)) K=K (.exit 0) (Lj d c bias ts D C C (C:Int))
 | 0,i,n+1,hd,hn=>by
  have hi:i=C:=by omega
  subst hi;rw [EA];refine (Lx N i i d c bias ts 0 0 0 0 0 D i (cond (BU 0 i) (bF bias 0) 0) (cond (BU 1 i) (bF bias 1) 0) (cond (BU 2 i) (bF bias 2) 0) _ _).trans ?_;rw [AL (show ¬ (i:Int) < (i:Int) by omega),DK]
 | m+1,i,n+1,hd,hn=>by
  rw [EA];refine (Lx N C i d c bias ts 0 0 0 0 0 D C (cond (BU 0 i) (bF bias 0) 0) (cond (BU 1 i) (bF bias 1) 0) (cond (BU 2 i) (bF bias 2) 0) _ _).trans ?_;have ih:=vQ N d c bias ts D C hC K m (i+1) n (by omega) (by omega);rw [AE (show (i:Int) < (C:Int) by omega),DJ,AE (show 0≤(i:Int) by omega),DJ,HR (by omega)];have hi4:i=0∨i=1∨i=2:=by omega
  rcases hi4 with rfl | rfl | rfl
  ·rw [show decide (((0:Nat):Int)=ic 0)=true from rfl,DJ];exact ih
  ·rw [show decide (((1:Nat):Int)=ic 0)=false from rfl,show decide (((1:Nat):Int)=ic 1)=true from rfl,DK,DJ];exact ih
  ·rw [show decide (((2:Nat):Int)=ic 0)=false from rfl,show decide (((2:Nat):Int)=ic 1)=false from rfl,show decide (((2:Nat):Int)=ic 2)=true from rfl,DK,DK,DJ];exact ih
 | _,_,0,_,h=>by omega
abbrev jR:List Kd:=[.z,(.list false [(.int .u64)])]
abbrev Cd:KP:=⟨[1,2,3,5],[1,2,3,500],[⟨(.cell 3 5),500,88,true,[.z,(.list false [(.int .u64)])]⟩]⟩
abbrev tC (d c:Int) (bias ts:LI) (D C b0 b1 b2:Int) (O:LI) (x:Int):St:=
 ⟨[(1,(.ptr 1 0 0)),(2,(.ptr 2 0 0)),(3,(.ptr 3 0 0)),(5,(.int .i64 x))],[(1,(some (mY d c bias ts))),(2,(some m5)),(3,(some (.box [(.int .i64 D),(.int .i64 C),(.int .i64 b0),(.int .i64 b1),(.int .i64 b2),(.row 500 0 O.length)]))),(500,(some (.row true 88 true jR O)))]⟩
def X8 (D C:Int) (t:IV):IV:=.agg [.int (DN (t.cell 0).toInt 0 (C - 1)),.list (MY (t.cell 1).toList (t.cell 2).toList (t.cell 3).toList (t.cell 4).toList D)]
theorem ziU (N:Nat):TI.bytes (Env.tyd (JJ N) 88)=32:=by rfl
theorem Oe (N:Nat) (d c:Int) (bias ts:LI) (D C b0 b1 b2:Int) (hD:1≤D∧D≤4) (hC:1≤C∧C≤3):∀ (m i n:Nat) (O:LI),i+m=min ts.length 4→m < n→O.length=i →
  D0 (JJ N) (DL NF [1,1,1,0,1,0,0]) Cd n (tC d c bias ts D C b0 b1 b2 O (i:Int)) (DS 2 (DT (JJ N) (DL NF [1,1,1,1]) (DV (JJ N) none [(va5 2 30)] [[.z,.z,.z,.z,.z,(.list true [.z,(.list false [(.int .u64)])])]]))) =
   some (.agg [.int .i64 D,.int .i64 C,.int .i64 b0,.int .i64 b1,.int .i64 b2,.list true jR (O++((ts.take 4).drop i).map (X8 D C))],[])
 | 0,i,n+1,O,hd,hn,hO=>by
  have fin:(DS 2 (DT (JJ N) (DL NF [1,1,1,1]) (DV (JJ N) none [(va5 2 30)] [[.z,.z,.z,.z,.z,(.list true [.z,(.list false [(.int .u64)])])]]))) (.exit 2) (tC d c bias ts D C b0 b1 b2 O (i:Int))=some (.agg [.int .i64 D,.int .i64 C,.int .i64 b0,.int .i64 b1,.int .i64 b2,.list true jR (O++((ts.take 4).drop i).map (X8 D C))],[]):=by
   refine (Xn N i d c bias ts 0 0 0 0 0 D C b0 b1 b2 O.length O).trans ?_;rw [B5,BR,CR (by rw [BC]; omega),CB,C9]
  rw [EA];refine (Ly N i d c bias ts 0 0 0 0 0 D C b0 b1 b2 O.length O _ _).trans ?_;by_cases hp:i < ts.length
  ·rw [AE (show (i:Int) < ic ts.length by simp only [ic]; omega),DJ,AL (show ¬ (i:Int) < 4 by omega),DK];exact fin
  ·rw [AL (show ¬ (i:Int) < ic ts.length by simp only [ic]; omega),DK];exact fin
 | m+1,i,n+1,O,hd,hn,hO=>by
  have hi:i < ts.length:=by omega
  rw [EA];refine (Ly N i d c bias ts 0 0 0 0 0 D C b0 b1 b2 O.length O _ _).trans ?_;have l1:∀ x:IV,AT 0 (AK 1 [x])=[x]:=fun _=>rfl
  have eg:AI ts (AF (i:Int)) default=ts[i]:=by rw [BD]; simp [hi]
  have w1:AA AB (C - 1)=C - 1:=EO (by omega) (by omega);obtain ⟨m1,_,_⟩:=HG (n:=0) (lo:=0) (hi:=C - 1) (by omega) (by omega) (by omega);have ih:=Oe N d c bias ts D C b0 b1 b2 hD hC m (i+1) n (O++[X8 D C ts[i]]) (by omega) (by omega) (by simp [hO]);rw [AE (show (i:Int) < ic ts.length by simp only [ic]; omega),AE (show (i:Int) < 4 by omega),AE (show 0≤(i:Int) by omega),w1,m1,AL (show ¬ (C - 1 - 0+1=0) by omega),AE hD.1,AE hD.2,eg,l1,ziU,C3,
   AE (show (O.length+1)*32≤EG by rw [hO]; unfold EG; omega),BR,HR (by omega)]
  simp only [B9,DJ,DK];have ed:(ts.take 4).drop i=ts[i] :: (ts.take 4).drop (i+1):=by
   have h4:i < (ts.take 4).length:=by rw [BC]; omega
   rw [BF h4];congr 1;rw [List.getElem_take]
  rw [ed,A0];rw [va1] at ih;have eL:(O++[X8 D C ts[i]]).length=O.length+1:=by simp
  rw [show tC d c bias ts D C b0 b1 b2 (O++[X8 D C ts[i]]) ((i+1:Nat):Int)=⟨[(1,(.ptr 1 0 0)),(2,(.ptr 2 0 0)),(3,(.ptr 3 0 0)),(5,(.int .i64 ((i+1:Nat):Int)))],[(1,(some (mY d c bias ts))),(2,(some m5)),(3,(some (.box [(.int .i64 D),(.int .i64 C),(.int .i64 b0),(.int .i64 b1),(.int .i64 b2),(.row 500 0 (O++[X8 D C ts[i]]).length)]))),(500,(some (.row true 88 true jR (O++[X8 D C ts[i]]))))]⟩ from rfl,eL] at ih;exact ih
 | _,_,0,_,_,h,_=>by omega
theorem zhf:DY PR B0 15 g6:=by
 refine D7 [(17,MO),(39,bU),(38,SD)] [(3,⟨[1,2,3,14,15],[1,2,3],[]⟩),(8,Cd)] g6 [[.z,.z,.z,.z,.z,.list true [.z,.list false [.int .u64]]]] Tryz.func15 zaC
  ⟨Z8,zhi,sQ,trivial⟩ ?_
 intro vs r hwf h;unfold g6 at h;split at h
 ·rename_i d c bias ts;refine ⟨20,?_⟩;rw [R.get_ok] at h;rw [← h];refine (zdm 20 d c bias ts).trans ?_;obtain ⟨_,d1,d2⟩:=HG (n:=d) (lo:=1) (hi:=3) (by omega) (by omega) (by omega);obtain ⟨_,c1,c2⟩:=HG (n:=c) (lo:=1) (hi:=3) (by omega) (by omega) (by omega);unfold RU aD SK K0 N9;generalize DN d 1 3=D at d1 d2;generalize DN c 1 3=C' at c1 c2;obtain ⟨C,rfl⟩:∃ C:Nat,C'=C:=⟨C'.toNat,by omega⟩;refine (vQ 20 d c bias ts D C (by omega) _ C 0 20 (by omega) (by omega)).trans ?_;refine (Xm 20 C C d c bias ts 0 0 0 0 0 D C (cond (BU 0 C) (bF bias 0) 0) (cond (BU 1 C) (bF bias 1) 0) (cond (BU 2 C) (bF bias 2) 0)).trans ?_;refine (Oe 20 d c bias ts D C _ _ _ ⟨d1,by omega⟩ ⟨c1,by omega⟩ (min ts.length 4) 0 20 [] (by omega) (by omega) rfl).trans ?_;rw [B5,DA];have hC:C=1∨C=2∨C=3:=by omega
  rcases hC with rfl | rfl | rfl <;> rfl
 ·simp [R.get] at h
open Go Go.Proofs
def Qj (N:Nat):Env:=D6 [(29,R7),(21,R8),(28,bT),(20,PS)] [] 39 N
theorem zdu (N:Nat):D1 (Qj N) wX [.tmp 0] [[.bool]] []=(some ((.bool true),[])):=by kernel_rfl
open Go Go.Proofs
def Qf (N:Nat):Env:=D6 [(71,V9)] [] 14 N
theorem zdo (N:Nat):D1 (Qf N) wT [.cell 0 30] [[.z,.z,.z,.z,.z,.list true [.z,.list false [.int .u64]]]] []=(some ((.agg [.i 1,.i 1,.i 3,.i 0,.i 0,.list true MX [(IV.agg [IV.int 0,IV.list [IV.int (IG false 0 0 5 1 2),IV.int (IG true 10 0 0 0 0),IV.int (IG true 20 0 0 0 0)]])]]),[])):=by kernel_rfl
def QX (N:Nat):Env:=D6 [] [(4,⟨[0,1,4,5],[],[]⟩)] 26 N
abbrev VR (l0 l1:LI) (b4:Bool) (x5:Int):St:=⟨[(0,(.list true EE l0)),(1,(.list true EE l1)),(4,(.bool b4)),(5,(.i x5))],[]⟩
theorem zdj (N:Nat) (a b:LI):D1 (QX N) UI [.tmp 4] [[.bool]] [.list true [.bool,.z,.z] a,.list true [.bool,.z,.z] b]=(cond (ic (AG a) != ic (AG b)) (some ((.bool false),[])) (D0 (QX N) (DL UI [1,1,0,1,0,0]) ⟨[0,1,4,5],[],[]⟩ N (VR a b false 0) (DS 0 (DT (QX N) (DL UI [1,1,1]) (DV (QX N) none [.tmp 4] [[.bool]]))))):=by kernel_rfl
theorem Lw (N:Nat) (l0 l1:LI) (b4:Bool) (x5:Int) (again:St→DP) (k:Out→St→DP):FG (QX N) (DL UI [1,1,0,1,0,0]) (VR l0 l1 b4 x5) (EW again ⟨[0,1,4,5],[],[]⟩ k)=(cond (decide (x5 < ic (AG l0))) (cond (decide (0≤x5)&&decide (x5 < ic (AG l0))) (cond (decide (0≤x5)&&decide (x5 < ic (AG l1))) (cond (! (IV.toBool (IV.cell (AI l0 (AF x5) default) 0)==IV.toBool (IV.cell (AI l1 (AF x5) default) 0)&&(IV.toInt (IV.cell (AI l0 (AF x5) default) 1)==IV.toInt (IV.cell (AI l1 (AF x5) default) 1)&&(IV.toInt (IV.cell (AI l0 (AF x5) default) 2)==IV.toInt (IV.cell (AI l1 (AF x5) default) 2)&&true)))) (k .ret (VR l0 l1 false x5)) (again (VR l0 l1 b4 (AA AB (x5+1))))) none) none) (k (.exit 0) (VR l0 l1 b4 x5))):=by kernel_rfl
theorem Xk (N:Nat) (l0 l1:LI) (b4:Bool) (x5:Int):(DS 0 (DT (QX N) (DL UI [1,1,1]) (DV (QX N) none [.tmp 4] [[.bool]]))) (.exit 0) (VR l0 l1 b4 x5)=(some ((.bool true),[])):=by kernel_rfl
theorem Xl (N:Nat) (l0 l1:LI) (b4:Bool) (x5:Int):(DS 0 (DT (QX N) (DL UI [1,1,1]) (DV (QX N) none [.tmp 4] [[.bool]]))) .ret (VR l0 l1 b4 x5)=(some ((.bool b4),[])):=by kernel_rfl
def Qg (N:Nat):Env:=D6 [(64,bR)] [] 38 N
theorem zdq (N:Nat) (a b:Vd):D1 (Qg N) wU [.tmp 4] [[.bool]] [(Vd.V a),(Vd.V b)]=(cond (Vd.kind a==Vd.kind b) (cond (FO (Vd.proof a) (Vd.proof b)) (cond (Vd.w0 a==Vd.w0 b&&(Vd.w1 a==Vd.w1 b&&(Vd.w2 a==Vd.w2 b&&(Vd.w3 a==Vd.w3 b&&true)))) (cond (Vd.twin a==Vd.twin b) (some ((.bool (Vd.spent a==Vd.spent b)),[])) (some ((.bool false),[]))) (some ((.bool false),[]))) (some ((.bool false),[]))) (some ((.bool false),[]))):=by kernel_rfl
open Go Go.Proofs
theorem zhh:DY PR B0 28 bT:=by
 refine D7 [(71,V9)] [] bT [[.z,.z,.z,.z,.z,.list true [.z,.list false [.int .u64]]]] Tryz.func28 zaE ⟨Jo,trivial⟩ ?_;intro vs r hwf h;unfold bT at h;split at h
 ·skip
  rw [R.get_ok] at h;refine ⟨0,(zdo 0).trans ?_⟩;rw [← h];rfl
 ·simp [R.get] at h
theorem Jn:DY PR B0 5 V8:=by
 refine D7 [(29,R7),(21,R8),(28,bT),(20,PS)] [] V8 [[.bool]] Tryz.func5 zaK ⟨sJ,sK,zhh,lC,trivial⟩ ?_;intro vs r hwf h;unfold V8 at h;split at h
 ·skip
  rw [R.get_ok] at h;refine ⟨0,(zdu 0).trans ?_⟩;rw [← h]
 ·simp [R.get] at h
open Go Go.Proofs
def TY (N:Nat):Env:=D6 [(18,R6),(17,MO),(16,SH),(15,SI)] [(3,⟨[1,2,3,6,7,8],[3],[]⟩)] 37 N
abbrev TR (m:Md) (l1:LI) (x2:Int) (s6 s7:BA) (x8:Int):St:=⟨[(1,(.list true [.z,.z,.z,.z,.z,.z,.bool,.list false [.z]] l1)),(2,(.i x2)),(3,(.ptr 3 0 0)),(6,(.str s6)),(7,(.str s7)),(8,(.i x8))],[(3,(some (.box (Md.cs m))))]⟩
theorem zdv (N:Nat) (m:Md) (asv:LI) (u00:Int):D1 (TY N) WY [.tmp 6] [[.str]] [(Md.V m),.list true [.z,.z,.z,.z,.z,.z,.bool,.list false [.z]] asv,.i u00]=(D0 (TY N) (DL WY [1,1,0,1,0,0]) ⟨[1,2,3,6,7,8],[3],[]⟩ N (TR m asv u00 ({data:=#[]}) ({data:=#[]}) 0) (DS 0 (DT (TY N) (DL WY [1,1,1]) (DV (TY N) none [.tmp 6] [[.str]])))):=by kernel_rfl
theorem zim (N:Nat) (m:Md) (l1:LI) (x2:Int) (s6 s7:BA) (x8:Int) (again:St→DP) (k:Out→St→DP):FG (TY N) (DL WY [1,1,0,1,0,0]) (TR m l1 x2 s6 s7 x8) (EW again ⟨[1,2,3,6,7,8],[3],[]⟩ k)=(cond (decide (x8 < ic (AG l1))) (cond (decide (x8 < 5)) (cond (decide (0≤x8)&&decide (x8 < ic (AG l1))) (cond (OF m) (cond (decide (AD s7+AD (DZ (Qy.bud (FJ (T7 (AI l1 (AF x8) default)) m) (DN x2 0 300)) (Md.d m))≤strMax)) (cond (decide (AD (s7++DZ (Qy.bud (FJ (T7 (AI l1 (AF x8) default)) m) (DN x2 0 300)) (Md.d m))+AD {data:=#[10]}≤strMax)) (again (TR m l1 x2 s6 (s7++DZ (Qy.bud (FJ (T7 (AI l1 (AF x8) default)) m) (DN x2 0 300)) (Md.d m)++{data:=#[10]}) (AA AB (x8+1)))) none) none) none) none) (k (.exit 0) (TR m l1 x2 s6 s7 x8))) (k (.exit 0) (TR m l1 x2 s6 s7 x8))):=by kernel_rfl
theorem Xs (N:Nat) (m:Md) (l1:LI) (x2:Int) (s6 s7:BA) (x8:Int):(DS 0 (DT (TY N) (DL WY [1,1,1]) (DV (TY N) none [.tmp 6] [[.str]]))) (.exit 0) (TR m l1 x2 s6 s7 x8)=(some ((.str s7),[])):=by kernel_rfl
def Qi (N:Nat):Env:=D6 [(18,R6),(29,R7),(24,SC),(17,MO),(5,V8),(22,WD),(20,PS),(16,SH),(15,SI)] [] 100 N
theorem zds (N:Nat) (f:Ft) (a1:Ak) (a2 a3:Int):D1 (Qi N) wW [.tmp 8] [[.bool]] [(Ft.V f),(Ak.V a1),.i a2,.i a3]=(cond (OF (Ft.M f)) (cond (decide (AD (EI {kind:=3,proof:=[],w0:=0,w1:=0,w2:=0,w3:=0,twin:=0,spent:=DN a3 0 300})≤strMax)) (cond (decide (AD {data:=#[113,117,101,114,121,32,48,10]}+AD (EI {kind:=3,proof:=[],w0:=0,w1:=0,w2:=0,w3:=0,twin:=0,spent:=DN a3 0 300})≤strMax)) (cond (decide (AD (EC (Ft.M f)) < 4294967281)&&(decide (AD (DZ (Qy.bud (FJ a1 (Ft.M f)) (DN a2 0 300)) (Md.d (Ft.M f))) < 4294967281)&&decide (AD ({data:=#[113,117,101,114,121,32,48,10]}++EI {kind:=3,proof:=[],w0:=0,w1:=0,w2:=0,w3:=0,twin:=0,spent:=DN a3 0 300}) < 4294967281))) (cond (!GQ (EC (Ft.M f)) (DZ (Qy.bud (FJ a1 (Ft.M f)) (DN a2 0 300)) (Md.d (Ft.M f))) ({data:=#[113,117,101,114,121,32,48,10]}++EI {kind:=3,proof:=[],w0:=0,w1:=0,w2:=0,w3:=0,twin:=0,spent:=DN a3 0 300})==(DN a3 0 300==DN a2 0 300)) (some ((.bool false),[])) (cond (decide (AD (EC (Ft.M f)) < 4294967281)&&(decide (AD (DZ (Qy.bud (FJ a1 (Ft.M f)) (DN a2 0 300)) (Md.d (Ft.M f))) < 4294967281)&&decide (AD ({data:=#[113,117,101,114,121,32,48,10]}++EI {kind:=4,proof:=[],w0:=0,w1:=0,w2:=0,w3:=0,twin:=0,spent:=0}) < 4294967281))) (cond (GQ (EC (Ft.M f)) (DZ (Qy.bud (FJ a1 (Ft.M f)) (DN a2 0 300)) (Md.d (Ft.M f))) ({data:=#[113,117,101,114,121,32,48,10]}++EI {kind:=4,proof:=[],w0:=0,w1:=0,w2:=0,w3:=0,twin:=0,spent:=0})) (some ((.bool false),[])) (cond (decide (AD (DZ (Qy.bud (FJ a1 (Ft.M f)) (DN a2 0 300)) (Md.d (Ft.M f)))+AD {data:=#[32]}≤strMax)) (cond (decide (AD (EC (Ft.M f)) < 4294967281)&&(decide (AD (DZ (Qy.bud (FJ a1 (Ft.M f)) (DN a2 0 300)) (Md.d (Ft.M f))++{data:=#[32]}) < 4294967281)&&decide (AD ({data:=#[113,117,101,114,121,32,48,10]}++EI {kind:=4,proof:=[],w0:=0,w1:=0,w2:=0,w3:=0,twin:=0,spent:=0}) < 4294967281))) (cond (!GQ (EC (Ft.M f)) (DZ (Qy.bud (FJ a1 (Ft.M f)) (DN a2 0 300)) (Md.d (Ft.M f))++{data:=#[32]}) ({data:=#[113,117,101,114,121,32,48,10]}++EI {kind:=4,proof:=[],w0:=0,w1:=0,w2:=0,w3:=0,twin:=0,spent:=0})) (some ((.bool false),[])) (cond (decide (AD (DZ (Qy.bud (FJ a1 (Ft.M f)) (DN a2 0 300)) (Md.d (Ft.M f)))+AD {data:=#[32]}≤strMax)) (cond (decide (AD (EC (Ft.M f)) < 4294967281)&&(decide (AD (DZ (Qy.bud (FJ a1 (Ft.M f)) (DN a2 0 300)) (Md.d (Ft.M f))++{data:=#[32]}) < 4294967281)&&decide (AD ({data:=#[113,117,101,114,121,32,48,10]}++EI {kind:=3,proof:=[],w0:=0,w1:=0,w2:=0,w3:=0,twin:=0,spent:=DN a3 0 300}) < 4294967281))) (cond (GQ (EC (Ft.M f)) (DZ (Qy.bud (FJ a1 (Ft.M f)) (DN a2 0 300)) (Md.d (Ft.M f))++{data:=#[32]}) ({data:=#[113,117,101,114,121,32,48,10]}++EI {kind:=3,proof:=[],w0:=0,w1:=0,w2:=0,w3:=0,twin:=0,spent:=DN a3 0 300})) (some ((.bool false),[])) (cond (decide (AD (EC (Ft.M f)) < 4294967281)&&(decide (AD (DZ (Qy.bud (FJ a1 (Ft.M f)) (DN a2 0 300)) (Md.d (Ft.M f))) < 4294967281)&&decide (AD (FT (EC (Ft.M f)) (DZ (Qy.bud (FJ a1 (Ft.M f)) (DN a2 0 300)) (Md.d (Ft.M f))))≤strMax))) (cond (decide (AD (EC (Ft.M f)) < 4294967281)&&(decide (AD (DZ (Qy.bud (FJ a1 (Ft.M f)) (DN a2 0 300)) (Md.d (Ft.M f))) < 4294967281)&&decide (AD (FT (EC (Ft.M f)) (DZ (Qy.bud (FJ a1 (Ft.M f)) (DN a2 0 300)) (Md.d (Ft.M f)))) < 4294967281))) (cond (GQ (EC (Ft.M f)) (DZ (Qy.bud (FJ a1 (Ft.M f)) (DN a2 0 300)) (Md.d (Ft.M f))) (FT (EC (Ft.M f)) (DZ (Qy.bud (FJ a1 (Ft.M f)) (DN a2 0 300)) (Md.d (Ft.M f))))) (cond (decide (AD (DZ (Qy.bud (FJ a1 (Ft.M f)) (DN a2 0 300)) (Md.d (Ft.M f)))+AD {data:=#[10]}≤strMax)) (cond (decide (AD (DZ (Qy.bud (FJ a1 (Ft.M f)) (DN a2 0 300)) (Md.d (Ft.M f))++{data:=#[10]})+AD (DZ (Qy.bud (FJ a1 (Ft.M f)) (DN a2 0 300)) (Md.d (Ft.M f)))≤strMax)) (cond (decide (AD (EC (Ft.M f)) < 4294967281)&&(decide (AD (DZ (Qy.bud (FJ a1 (Ft.M f)) (DN a2 0 300)) (Md.d (Ft.M f))++{data:=#[10]}++DZ (Qy.bud (FJ a1 (Ft.M f)) (DN a2 0 300)) (Md.d (Ft.M f))) < 4294967281)&&decide (AD (FT (EC (Ft.M f)) (DZ (Qy.bud (FJ a1 (Ft.M f)) (DN a2 0 300)) (Md.d (Ft.M f)))) < 4294967281))) (cond (!GQ (EC (Ft.M f)) (DZ (Qy.bud (FJ a1 (Ft.M f)) (DN a2 0 300)) (Md.d (Ft.M f))++{data:=#[10]}++DZ (Qy.bud (FJ a1 (Ft.M f)) (DN a2 0 300)) (Md.d (Ft.M f))) (FT (EC (Ft.M f)) (DZ (Qy.bud (FJ a1 (Ft.M f)) (DN a2 0 300)) (Md.d (Ft.M f))))) (cond (decide (AD (EC (Ft.M f)) < 4294967281)&&(decide (AD {data:=#[]} < 4294967281)&&decide (AD (FT (EC (Ft.M f)) (DZ (Qy.bud (FJ a1 (Ft.M f)) (DN a2 0 300)) (Md.d (Ft.M f)))) < 4294967281))) (cond (!GQ (EC (Ft.M f)) {data:=#[]} (FT (EC (Ft.M f)) (DZ (Qy.bud (FJ a1 (Ft.M f)) (DN a2 0 300)) (Md.d (Ft.M f))))) (cond (decide (AD (EC (Ft.M f)) < 4294967281)&&(decide (AD {data:=#[]} < 4294967281)&&decide (AD {data:=#[]} < 4294967281))) (cond (GQ (EC (Ft.M f)) {data:=#[]} {data:=#[]}) (some ((.bool true),[])) (some ((.bool false),[]))) none) (some ((.bool false),[]))) none) (some ((.bool false),[]))) none) none) none) (some ((.bool false),[]))) none) none)) none) none)) none) none)) none)) none) none) none) none):=by kernel_rfl
open Go Go.Proofs
theorem sH:DY PR B0 15 SI:=Snd.mono zhf fun _ _ h=>So h
theorem sG:DY PR B0 16 SH:=Snd.mono zhe fun _ _ h=>Sq h
theorem zcG (s:BA) (k:Nat):(min (ic s.size) (k:Int)).toNat=min s.size k∧(decide (0≤min (ic s.size) (k:Int))&&decide (min (ic s.size) (k:Int)≤ic s.size))=true∧(s.extract 0 (min (ic s.size) (k:Int)).toNat).size≤k:=by
 have e:(min (ic s.size) (k:Int)).toNat=min s.size k:=by simp only [ic]; omega
 refine ⟨e,?_,?_⟩
 ·rw [AE (show 0≤min (ic s.size) (k:Int) by simp only [ic]; omega),AE (show min (ic s.size) (k:Int)≤ic s.size by omega)];rfl
 ·rw [vbd];omega
open Go Go.Proofs
def TX (N:Nat):Env:=D6 [(29,R7),(21,R8),(25,bV),(5,V8),(34,bW),(32,WC),(31,SF),(22,WD),(20,PS),(16,SH),(15,SI)] [(8,⟨[8,9,11,12,13,59,60,61],[9],[]⟩)] 100 N
abbrev TQ (f:Ft) (b8:Bool) (s11 s12:BA) (l13 l59:LI) (x60 x61:Int):St:=⟨[(8,(.bool b8)),(9,(.ptr 9 0 0)),(11,(.str s11)),(12,(.str s12)),(13,(.list true [.z,.list true EE,.z,.z,.z,.z,.z,.z] l13)),(59,(.list false [.str] l59)),(60,(.i x60)),(61,(.i x61))],[(9,(some (.box (Md.cs (Ft.M f)))))]⟩
theorem zdt (N:Nat) (f:Ft) (a1:LI) (a2:Int) (a3:BA):D1 (TX N) WX [.tmp 8] [[.bool]] [(Ft.V f),.list true [.z,.z,.z,.z,.z,.z,.bool,.list false [.z]] a1,.i a2,.str a3]=(cond (OF (Ft.M f)) (cond (decide (0≤min (ic (AD a3)) 20)&&decide (min (ic (AD a3)) 20≤ic (AD a3))) (cond (decide (AD (G1 (Md.d (Ft.M f)) D8 (HK (Ft.M f) (AK 5 a1) (DN a2 0 300)))+AD (B2 a3 0 (AF (min (ic (AD a3)) 20)))≤strMax)) (cond (decide (AD (EC (Ft.M f)) < 4294967281)&&(decide (AD (G1 (Md.d (Ft.M f)) D8 (HK (Ft.M f) (AK 5 a1) (DN a2 0 300))++B2 a3 0 (AF (min (ic (AD a3)) 20))) < 4294967281)&&decide (AD (FT (EC (Ft.M f)) (G1 (Md.d (Ft.M f)) D8 (HK (Ft.M f) (AK 5 a1) (DN a2 0 300))++B2 a3 0 (AF (min (ic (AD a3)) 20))))≤strMax))) (cond (decide (AD (FT (EC (Ft.M f)) (G1 (Md.d (Ft.M f)) D8 (HK (Ft.M f) (AK 5 a1) (DN a2 0 300))++B2 a3 0 (AF (min (ic (AD a3)) 20)))) < 4294967281)) (cond (Option.isSome (KT (FT (EC (Ft.M f)) (G1 (Md.d (Ft.M f)) D8 (HK (Ft.M f) (AK 5 a1) (DN a2 0 300))++B2 a3 0 (AF (min (ic (AD a3)) 20)))))) (cond (decide (AD (EC (Ft.M f)) < 4294967281)&&(decide (AD (G1 (Md.d (Ft.M f)) D8 (HK (Ft.M f) (AK 5 a1) (DN a2 0 300))++B2 a3 0 (AF (min (ic (AD a3)) 20))) < 4294967281)&&decide (AD (FT (EC (Ft.M f)) (G1 (Md.d (Ft.M f)) D8 (HK (Ft.M f) (AK 5 a1) (DN a2 0 300))++B2 a3 0 (AF (min (ic (AD a3)) 20)))) < 4294967281))) (cond (!GQ (EC (Ft.M f)) (G1 (Md.d (Ft.M f)) D8 (HK (Ft.M f) (AK 5 a1) (DN a2 0 300))++B2 a3 0 (AF (min (ic (AD a3)) 20))) (FT (EC (Ft.M f)) (G1 (Md.d (Ft.M f)) D8 (HK (Ft.M f) (AK 5 a1) (DN a2 0 300))++B2 a3 0 (AF (min (ic (AD a3)) 20))))) (some ((.bool false),[])) (cond (decide (AD (G1 (Md.d (Ft.M f)) D8 (HK (Ft.M f) (AK 5 a1) (DN a2 0 300))++B2 a3 0 (AF (min (ic (AD a3)) 20))) < 4294967281)) (cond (ic (AG (Option.getD (KT (FT (EC (Ft.M f)) (G1 (Md.d (Ft.M f)) D8 (HK (Ft.M f) (AK 5 a1) (DN a2 0 300))++B2 a3 0 (AF (min (ic (AD a3)) 20))))) [])) != ic (AG (EK (G1 (Md.d (Ft.M f)) D8 (HK (Ft.M f) (AK 5 a1) (DN a2 0 300))++B2 a3 0 (AF (min (ic (AD a3)) 20)))))) (some ((.bool false),[])) (cond (decide (AD (G1 (Md.d (Ft.M f)) D8 (HK (Ft.M f) (AK 5 a1) (DN a2 0 300))++B2 a3 0 (AF (min (ic (AD a3)) 20))) < 4294967281)) (D0 (TX N) (DL WX [1,1,1,1,1,1,0,1,0,0]) ⟨[8,9,11,12,13,59,60,61],[9],[]⟩ N (TQ f false (G1 (Md.d (Ft.M f)) D8 (HK (Ft.M f) (AK 5 a1) (DN a2 0 300))++B2 a3 0 (AF (min (ic (AD a3)) 20))) (FT (EC (Ft.M f)) (G1 (Md.d (Ft.M f)) D8 (HK (Ft.M f) (AK 5 a1) (DN a2 0 300))++B2 a3 0 (AF (min (ic (AD a3)) 20)))) (Option.getD (KT (FT (EC (Ft.M f)) (G1 (Md.d (Ft.M f)) D8 (HK (Ft.M f) (AK 5 a1) (DN a2 0 300))++B2 a3 0 (AF (min (ic (AD a3)) 20))))) []) (EK (G1 (Md.d (Ft.M f)) D8 (HK (Ft.M f) (AK 5 a1) (DN a2 0 300))++B2 a3 0 (AF (min (ic (AD a3)) 20)))) (ic (AG (EK (G1 (Md.d (Ft.M f)) D8 (HK (Ft.M f) (AK 5 a1) (DN a2 0 300))++B2 a3 0 (AF (min (ic (AD a3)) 20)))))) 0) (DS 0 (DT (TX N) (DL WX [1,1,1,1,1,1,1]) (DV (TX N) none [.tmp 8] [[.bool]])))) none)) none)) none) (cond (decide (AD (EC (Ft.M f)) < 4294967281)&&(decide (AD (G1 (Md.d (Ft.M f)) D8 (HK (Ft.M f) (AK 5 a1) (DN a2 0 300))++B2 a3 0 (AF (min (ic (AD a3)) 20))) < 4294967281)&&decide (AD (FT (EC (Ft.M f)) (G1 (Md.d (Ft.M f)) D8 (HK (Ft.M f) (AK 5 a1) (DN a2 0 300))++B2 a3 0 (AF (min (ic (AD a3)) 20)))) < 4294967281))) (cond (!GQ (EC (Ft.M f)) (G1 (Md.d (Ft.M f)) D8 (HK (Ft.M f) (AK 5 a1) (DN a2 0 300))++B2 a3 0 (AF (min (ic (AD a3)) 20))) (FT (EC (Ft.M f)) (G1 (Md.d (Ft.M f)) D8 (HK (Ft.M f) (AK 5 a1) (DN a2 0 300))++B2 a3 0 (AF (min (ic (AD a3)) 20))))) (some ((.bool false),[])) (some ((.bool false),[]))) none)) none) none) none) none) none):=by kernel_rfl
theorem Mc (N:Nat) (f:Ft) (b8:Bool) (s11 s12:BA) (l13 l59:LI) (x60 x61:Int) (again:St→DP) (k:Out→St→DP):FG (TX N) (DL WX [1,1,1,1,1,1,0,1,0,0]) (TQ f b8 s11 s12 l13 l59 x60 x61) (EW again ⟨[8,9,11,12,13,59,60,61],[9],[]⟩ k)=(cond (decide (x61 < x60)) (cond (decide (0≤x61)&&decide (x61 < ic (AG l59))) (cond (decide (0≤x61)&&decide (x61 < ic (AG l13))) (cond (decide (AD (IV.toStr (AI l59 (AF x61) default)) < 4294967281)) (cond (!gR (TF (AI l13 (AF x61) default)) (I6 (Ft.M f) (IV.toStr (AI l59 (AF x61) default)))) (k .ret (TQ f false s11 s12 l13 l59 x60 x61)) (again (TQ f b8 s11 s12 l13 l59 x60 (AA AB (x61+1))))) none) none) none) (k (.exit 0) (TQ f b8 s11 s12 l13 l59 x60 x61))):=by kernel_rfl
theorem Xr (N:Nat) (f:Ft) (b8:Bool) (s11 s12:BA) (l13 l59:LI) (x60 x61:Int):(DS 0 (DT (TX N) (DL WX [1,1,1,1,1,1,1]) (DV (TX N) none [.tmp 8] [[.bool]]))) (.exit 0) (TQ f b8 s11 s12 l13 l59 x60 x61)=(cond (decide (AD {data:=#[]} < 4294967281)&&(decide (AD s11 < 4294967281)&&decide (AD {data:=#[109,111,100,101,108,10]} < 4294967281))) (cond (decide (AD s12+AD {data:=#[120]}≤strMax)) (cond (decide (AD {data:=#[]} < 4294967281)&&(decide (AD s11 < 4294967281)&&decide (AD (s12++{data:=#[120]}) < 4294967281))) (cond (!GQ {data:=#[]} s11 (s12++{data:=#[120]})) (some ((.bool true),[])) (some ((.bool false),[]))) none) none) none):=by kernel_rfl
open Go Go.Proofs
theorem Iq (N:Nat) (l m:LI) (K:Out→St→DP) (hlm:l.length=m.length) (hl:l.length≤strMax)
  (hx:∀ b4 x5,K (.exit 0) ⟨[(0,(.list true EE l)),(1,(.list true EE m)),(4,(.bool b4)),(5,(.int .i64 x5))],[]⟩=some (.bool true,[]))
  (hr:∀ b4 x5,K .ret ⟨[(0,(.list true EE l)),(1,(.list true EE m)),(4,(.bool b4)),(5,(.int .i64 x5))],[]⟩=some (.bool b4,[])) :
  ∀ (d i n:Nat),i+d=l.length→d < n→D0 (QX N) (DL UI [1,1,0,1,0,0]) ⟨[0,1,4,5],[],[]⟩ n ⟨[(0,(.list true EE l)),(1,(.list true EE m)),(4,(.bool false)),(5,(.int .i64 (i:Int)))],[]⟩ K=some (.bool (FO (l.drop i) (m.drop i)),[])
 | 0,i,n+1,hd,_=>by
  rw [EA,Lw,J5 (by omega),CR (by omega),CR (by omega)];simp only [A9,FO];exact hx ..
 | d+1,i,n+1,hd,hn=>by
  have hi:i < l.length:=by omega
  have hm:i < m.length:=by omega
  unfold strMax at hl;rw [EA,Lw,IK hi,IK hm,JP,HR (by omega),JB hi,JB hm,BF hi,BF hm];generalize l[i]=x;generalize m[i]=y;have ih:=Iq N l m K hlm (by unfold strMax; omega) hx hr d (i+1) n (by omega) (by omega);rw [ih];simp only [FO];generalize FO (AT (i+1) l) (AT (i+1) m)=rest;unfold X2 G3 FC FV;simp only [BH,B9];cases IV.toBool (IV.cell x 0)==IV.toBool (IV.cell y 0) <;> cases IV.toInt (IV.cell x 1)==IV.toInt (IV.cell y 1) <;> cases IV.toInt (IV.cell x 2)==IV.toInt (IV.cell y 2) <;>
   (simp only [BH,A9,A2,A6,B9,vad,A8,BM,hr]
    try rfl)
 | 0,_,0,_,h=>by omega
 | _+1,_,0,_,h=>by omega
theorem Ij:∀ {l m:LI},FO l m=true→l.length=m.length
 | [],[],_=>rfl
 | [],_ :: _,h=>by simp [FO] at h
 | _ :: _,[],h=>by simp [FO] at h
 | x :: l,y :: m,h=>by
  simp only [FO,AH] at h;simp [Ij h.2]
theorem zhd:DY PR B0 64 bR:=by
 refine D7 [] [(4,⟨[0,1,4,5],[],[]⟩)] bR [[.bool]] Tryz.func64 zaz trivial ?_;intro vs r hwf h;unfold bR at h;split at h
 ·rename_i l m;rw [R.get_ok] at h;refine ⟨l.length+1,?_⟩;rw [← h];refine (zdj (l.length+1) l m).trans ?_;have hl:=(hwf (by simp [MG])).1;simp only [RW,wfL] at hl;by_cases hlm:l.length=m.length
  ·have e:(ic l.length != ic m.length)=false:=by simp [ic,hlm]
   rw [e];simp only [A9]
   have:=Iq (l.length+1) l m _ hlm hl.1 (fun b4 x5=>Xk (l.length+1) l m b4 x5) (fun b4 x5=>Xl (l.length+1) l m b4 x5) l.length 0 (l.length+1) (by omega) (by omega)
   rw [B5,B5] at this;exact this
  ·have e:(ic l.length != ic m.length)=true:=by simp [ic]; omega
   rw [e]
   have:FO l m=false:=by
    cases hs:FO l m with
    | false=>rfl
    | true=>exact absurd (Ij hs) hlm
   rw [this];rfl
 ·simp [R.get] at h
theorem zhj:DY PR B0 25 bV:=by
 refine D7 [(64,bR)] [] bV [[.bool]] Tryz.func25 zaG ⟨zhd,trivial⟩ ?_;intro vs r hwf h;unfold bV at h;split at h
 ·rename_i k p a b c d t s k' p' a' b' c' d' t' s';rw [R.get_ok] at h;refine ⟨0,?_⟩;rw [← h];refine (zdq 0 ⟨k,p,a,b,c,d,t,s⟩ ⟨k',p',a',b',c',d',t',s'⟩).trans ?_;simp only [gR,B9];cases k==k'
  ·rfl
  cases FO p p'
  ·rfl
  cases a==a' <;> cases b==b' <;> cases c==c' <;> cases d==d' <;> cases t==t' <;> rfl
 ·simp [R.get] at h
open Go Go.Proofs
theorem Cx (N:Nat) (m:Md) (hm:OF m=true) (l:LI) (z:Int) (s6:BA) (K:Out→St→DP) (hx:∀ s7 x,K (.exit 0) (TR m l z s6 s7 x)=some (.str s7,[])) :
  ∀ (d i n:Nat) (s7:BA),i+d=5→d < n→s7.size≤2001*i →
   D0 (TY N) (DL WY [1,1,0,1,0,0]) ⟨[1,2,3,6,7,8],[3],[]⟩ n (TR m l z s6 s7 (i:Int)) K =
    some (.str (G1 m.d s7 (HK m ((l.take 5).drop i) (DN z 0 300))),[])
 | d,i,n+1,s7,hd,hn,h7=>by
  have hw:=RX z 0 300 (by omega) (by omega) (by omega);rw [EA,zim];by_cases hi:i < l.length
  ·by_cases hk:i < 5
   ·obtain ⟨d,rfl⟩:∃ e,d=e+1:=⟨d - 1,by omega⟩;have hp:=mP hm (T7 l[i]) hw.1 (show DN z 0 300≤65536 by omega);rw [IK hi,JP,JB hi,AE (show ((i:Nat):Int) < 5 by omega),hm,HR (by omega)];rw [ziD hi hk,zfS,G1];generalize (FJ (T7 l[i]) m).bud (DN z 0 300)=q at hp ⊢;have g1:(s7++DZ q m.d).size=s7.size+(DZ q m.d).size:=AY;have e1:ES.size=1:=rfl;rw [AE (show s7.size+(DZ q m.d).size≤strMax by unfold strMax; omega)];rw [AE (show (s7++DZ q m.d).size+AD { data:=#[10] }≤strMax by rw [g1]; unfold strMax; show _+ES.size≤_; omega)];simp only [DJ,B9];exact Cx N m hm l z s6 K hx d (i+1) n (s7++DZ q m.d++ES) (by omega) (by omega) (by rw [AY,AY]; omega)
   ·rw [IK hi,AL (show ¬ ((i:Nat):Int) < 5 by omega),DJ,DK,Nl (by omega)];exact hx _ _
  ·rw [J5 (by omega),DK,Nl (by omega)];exact hx _ _
 | _,_,0,_,_,h,_=>by omega
theorem zhm:DY PR B0 34 bW:=by
 refine D7 [(18,R6),(17,MO),(16,SH),(15,SI)] [(3,⟨[1,2,3,6,7,8],[3],[]⟩)] bW [[.str]] Tryz.func34 zaL ⟨sI,Z8,sG,sH,trivial⟩ ?_;intro vs r hwf h;unfold bW at h;split at h
 ·rename_i m xs z;replace h:=JZ h;obtain ⟨m,rfl,h⟩:=h;cases hg:(OF m) with
  | false=>rw [hg] at h; simp [R.get] at h
  | true=>
  rw [hg,R.get_br,DJ,R.get_ok] at h;refine ⟨6,(zdv 6 m xs z).trans ?_⟩;refine (Cx 6 m hg xs z D8 _ (fun s7 x=>Xs 6 m xs z D8 s7 x) 5 0 6 D8 rfl (by omega) (AX _)).trans ?_;rw [B5];exact h
 ·simp [R.get] at h
theorem zbT:(⟨#[113,117,101,114,121,32,48,10]⟩:BA)=F2 0:=by kernel_rfl
theorem ziP:KT D8=some []:=by kernel_rfl
theorem zhk:DY PR B0 11 mH:=by
 refine D7 [(18,R6),(29,R7),(24,SC),(17,MO),(5,V8),(22,WD),(20,PS),(16,SH),(15,SI)] [] mH [[.bool]] Tryz.func11 zaI ⟨sI,sJ,sP,Z8,Jn,Js,lC,sG,sH,trivial⟩ ?_;intro vs r hwf h;unfold mH at h;split at h
 ·rename_i f a y z;replace h:=uI h;obtain ⟨f,rfl,h⟩:=h;replace h:=Pa h;obtain ⟨a,rfl,h⟩:=h;rw [R.get_ok] at h;refine ⟨0,(zds 0 f a y z).trans ?_⟩;rw [← h];have hw:=RX y 0 300 (by omega) (by omega) (by omega);have hk:=RX z 0 300 (by omega) (by omega) (by omega);obtain ⟨hs,_⟩:=zgO f a hw.1 (show DN y 0 300≤65536 by omega);have hLz:=mP (gY f) a hw.1 (show DN y 0 300≤65536 by omega);rw [gY,DJ,zbT];have hbu:((FJ a f.M).bud (DN y 0 300)).bu=DN y 0 300:=rfl;generalize DN y 0 300=w at *;generalize (FJ a f.M).bud w=q at *;generalize DN z 0 300=k at *;have hM:=mG f;have hW:YG f.M:=Dr _ _ _ _;have hF:=oJ f;have hps:=Gn hM;obtain ⟨t1,t2⟩:=tP hM hW;obtain ⟨r,c,hrc,hc32,hc10⟩:=Gg hs.ok;have hno:=Gh q f.M.d;have hLne:(DZ q f.M.d).data.toList≠[]:=by rw [hrc]; simp
  have hL:EK (DZ q f.M.d)=[.str (DZ q f.M.d)]:=Cv hLne hno;have hL2:EK (DZ q f.M.d++FI)=[.str (DZ q f.M.d++FI)]:=Cv (by rw [NI]; simp [hLne]) (by
   rw [NI,AV];rintro (h | h)
   ·exact hno h
   ·exact absurd h (by decide))
  have hL3:(EK (DZ q f.M.d++ES++DZ q f.M.d)).length=2:=by
   have:=zcv (s:=DZ q f.M.d++ES++DZ q f.M.d) (x:=(DZ q f.M.d).data.toList) (L:=[(DZ q f.M.d).data.toList]) (by rw [NI,NI,eR,Lib.join_one]; simp) (by
    intro l hl;simp only [AP,BX,CP,or_self] at hl;rw [hl]; exact hno) (l:=r) (c:=c) (by rw [hrc]; rfl)
   have:=congrArg AG this
   simpa using this
  obtain ⟨u1,u2⟩:=zi5 hk.1 (show k≤65536 by omega);have huz:=kP u2;have hwz:=kP YI.2;have hok:LY f.M (DZ q f.M.d)=true:=by
   unfold LY;rw [hs.ask,hs.qq,hs.dd,hs.right];simp
  have hno2:LY f.M (DZ q f.M.d++FI)=false:=by
   unfold LY;rw [Tv];rfl
  have e1:GQ (EC f.M) (DZ q f.M.d) (F2 0++EI (NX k))=(k==w):=by
   rw [kT t1 hL u1 u2,t2];unfold KH;rw [hok,DJ,hs.qq,hbu];rfl
  have e2:GQ (EC f.M) (DZ q f.M.d) (F2 0++EI QO)=false:=by
   rw [kT t1 hL YI.1 YI.2,t2];unfold KH;rw [hok];rfl
  have e3:GQ (EC f.M) (DZ q f.M.d++FI) (F2 0++EI QO)=true:=by
   rw [kT t1 hL2 YI.1 YI.2,t2];unfold KH;rw [hno2];rfl
  have e4:GQ (EC f.M) (DZ q f.M.d++FI) (F2 0++EI (NX k))=false:=by
   rw [kT t1 hL2 u1 u2,t2];unfold KH;rw [hno2];rfl
  have e5:=Hr hM hW (by omega) (DZ q f.M.d);have htold:=Nq hM hW (DZ q f.M.d);have hlen:((I7 f.M (EK (DZ q f.M.d))).map I8).length=1:=by rw [hL]; rfl
  have e6:GQ (EC f.M) (DZ q f.M.d++ES++DZ q f.M.d) (FT (EC f.M) (DZ q f.M.d))=false:=Hs t1 htold (by rw [hlen,hL3]; omega);have e7:GQ (EC f.M) D8 (FT (EC f.M) (DZ q f.M.d))=false:=Hs t1 htold (by rw [hlen,Cy]; simp);have e8:GQ (EC f.M) D8 D8=true:=by
   unfold GQ;rw [t1,DJ,ziP,Cy];rfl
  have hz:=Ib (EC f.M) (DZ q f.M.d) (by rw [hL]; simp);have hh:=Be 0 (by omega);have n1:ES.size=1:=rfl;have n2:FI.size=1:=rfl;have n0:D8.size=0:=rfl;have c0:decide ((EC f.M).size < 4294967281)=true:=AE (by omega);have c1:decide ((DZ q f.M.d).size < 4294967281)=true:=AE (by omega);have c2:decide ((F2 0++EI (NX k)).size < 4294967281)=true:=AE (by rw [AY]; omega);have c3:decide ((F2 0++EI QO).size < 4294967281)=true:=AE (by rw [AY]; omega);have c4:decide ((DZ q f.M.d++FI).size < 4294967281)=true:=AE (by rw [AY]; omega);have c5:decide ((FT (EC f.M) (DZ q f.M.d)).size≤strMax)=true:=AE (by unfold strMax; omega);have c6:decide ((FT (EC f.M) (DZ q f.M.d)).size < 4294967281)=true:=AE (by omega);have c7:decide ((DZ q f.M.d++ES++DZ q f.M.d).size < 4294967281)=true:=AE (by rw [AY,AY]; omega);have c8:decide ((DZ q f.M.d++ES).size+(DZ q f.M.d).size≤strMax)=true:=AE (by rw [AY]; unfold strMax; omega);have c9:decide ((DZ q f.M.d).size+ES.size≤strMax)=true:=AE (by unfold strMax; omega);have c10:decide ((DZ q f.M.d).size+FI.size≤strMax)=true:=AE (by unfold strMax; omega);have c11:decide ((EI (NX k)).size≤strMax)=true:=AE (by unfold strMax; omega);have c12:decide ((F2 0).size+(EI (NX k)).size≤strMax)=true:=AE (by unfold strMax; omega);have c13:decide (D8.size < 4294967281)=true:=rfl;have goal:=(show (cond (decide ((EI (NX k)).size≤strMax)) (cond (decide ((F2 0).size+(EI (NX k)).size≤strMax))
   (cond (decide ((EC f.M).size < 4294967281)&&(decide ((DZ q f.M.d).size < 4294967281)&&decide ((F2 0++EI (NX k)).size < 4294967281)))
   (cond (!(GQ (EC f.M) (DZ q f.M.d) (F2 0++EI (NX k))==(k==w))) (some (V.bool false,[]))
   (cond (decide ((EC f.M).size < 4294967281)&&(decide ((DZ q f.M.d).size < 4294967281)&&decide ((F2 0++EI QO).size < 4294967281)))
   (cond (GQ (EC f.M) (DZ q f.M.d) (F2 0++EI QO)) (some (V.bool false,[]))
   (cond (decide ((DZ q f.M.d).size+FI.size≤strMax))
   (cond (decide ((EC f.M).size < 4294967281)&&(decide ((DZ q f.M.d++FI).size < 4294967281)&&decide ((F2 0++EI QO).size < 4294967281)))
   (cond (!(GQ (EC f.M) (DZ q f.M.d++FI) (F2 0++EI QO))) (some (V.bool false,[]))
   (cond (decide ((DZ q f.M.d).size+FI.size≤strMax))
   (cond (decide ((EC f.M).size < 4294967281)&&(decide ((DZ q f.M.d++FI).size < 4294967281)&&decide ((F2 0++EI (NX k)).size < 4294967281)))
   (cond (GQ (EC f.M) (DZ q f.M.d++FI) (F2 0++EI (NX k))) (some (V.bool false,[]))
   (cond (decide ((EC f.M).size < 4294967281)&&(decide ((DZ q f.M.d).size < 4294967281)&&decide ((FT (EC f.M) (DZ q f.M.d)).size≤strMax)))
   (cond (decide ((EC f.M).size < 4294967281)&&(decide ((DZ q f.M.d).size < 4294967281)&&decide ((FT (EC f.M) (DZ q f.M.d)).size < 4294967281)))
   (cond (GQ (EC f.M) (DZ q f.M.d) (FT (EC f.M) (DZ q f.M.d)))
   (cond (decide ((DZ q f.M.d).size+ES.size≤strMax)) (cond (decide ((DZ q f.M.d++ES).size+(DZ q f.M.d).size≤strMax))
   (cond (decide ((EC f.M).size < 4294967281)&&(decide ((DZ q f.M.d++ES++DZ q f.M.d).size < 4294967281)&&decide ((FT (EC f.M) (DZ q f.M.d)).size < 4294967281)))
   (cond (!(GQ (EC f.M) (DZ q f.M.d++ES++DZ q f.M.d) (FT (EC f.M) (DZ q f.M.d))))
   (cond (decide ((EC f.M).size < 4294967281)&&(decide (D8.size < 4294967281)&&decide ((FT (EC f.M) (DZ q f.M.d)).size < 4294967281)))
   (cond (!(GQ (EC f.M) D8 (FT (EC f.M) (DZ q f.M.d))))
   (cond (decide ((EC f.M).size < 4294967281)&&(decide (D8.size < 4294967281)&&decide (D8.size < 4294967281)))
   (cond (GQ (EC f.M) D8 D8) (some (V.bool true,[])) (some (V.bool false,[]))) none) (some (V.bool false,[]))) none) (some (V.bool false,[]))) none) none) none) (some (V.bool false,[]))) none) none)) none) none)) none) none)) none)) none) none) none:DP)=some (V.bool true,[]) by
   simp only [c0,c1,c2,c3,c4,c5,c6,c7,c8,c9,c10,c11,c12,c13,e1,e2,e3,e4,e5,e6,e7,e8,B3,DJ,DK,A2,A6,DG])
  exact goal
 ·simp [R.get] at h
theorem Ld:∀ (n:Nat) (l:List UInt8),l.length≤n→(vaq l [10]).length=l.count 10+1
 | n,l,hn=>by
  by_cases h:(10:UInt8)∈l
  ·obtain ⟨w,r,rfl,hw⟩:=List.eq_append_cons_of_mem h
   match n with
   | 0=>simp at hn
   | n+1=>
    have ih:=Ld n r (by simp only [AS,AM] at hn; omega);rw [Lc w r 10 hw,AM,ih,vbx,van hw];simp
  ·rw [s8 l 10 h,van h];rfl
theorem zi0 (s:BA):(F1 s ES).data.toList.count 10≤s.data.toList.count 10:=by
 unfold F1;cases O2 s ES with
 | true=>
  rw [DJ,vbc,Array.toList_extract,vaE,B5];exact (List.take_sublist _ _).count_le 10
 | false=>exact AX _
theorem zct (s:BA):(EK s).length≤s.data.toList.count 10+1:=by
 by_cases h:s.data.toList=[]
 ·have:EK s=[]:=by
   unfold EK;rw [SL,AE (Y2 h),DJ]
  rw [this];exact B4 _
 ·have h1:=congrArg AG (pI s h);rw [BK,Ld _ _ (AX _)] at h1
  have:=zi0 s
  omega
theorem Cr:∀ (L:List (List UInt8)),(∀ l∈L,(10:UInt8) ∉ l)→(HW L).count 10=L.length
 | [],_=>rfl
 | l :: L,h=>by
  rw [P3,vbx,van (h l (AN ..)),List.count_cons_self,Cr L fun x hx=>h x (AW _ hx),AM];omega
theorem Fi (N:Nat) (f:Ft) (s11 s12:BA) (ls:LI) (hs:∀ x∈ls,x.toStr.size < 4294967281) (hm:ls.length≤1000) (K:Out→St→DP) (z:DP) (hx:∀ x y,K (.exit 0) (TQ f false s11 s12 ((I7 f.M ls).map I8) ls x y)=z) :
  ∀ (d i n:Nat),i+d=ls.length→d < n →
   D0 (TX N) (DL WX [1,1,1,1,1,1,0,1,0,0]) ⟨[8,9,11,12,13,59,60,61],[9],[]⟩ n (TQ f false s11 s12 ((I7 f.M ls).map I8) ls (ic ls.length) (i:Int)) K=z
 | 0,i,n+1,hd,_=>by
  rw [EA,Mc,J5 (by omega),DK];exact hx _ _
 | d+1,i,n+1,hd,hn=>by
  have hi:i < ls.length:=by omega
  have hi2:i < ((I7 f.M ls).map I8).length:=by unfold I7; rw [BK,BK]; exact hi
  have h4:=hs ls[i] (C1 hi);have hv:((I7 f.M ls).map I8)[i]=I8 (I6 f.M ls[i].toStr):=by simp [I7]
  have he:=zi9.2 (mQ (dQ f.M ls[i].toStr).1 (dQ f.M ls[i].toStr).2);rw [EA,Mc,IK hi,JP,IK hi2,HR (by omega),JB hi,JB hi2,hv,he,AE h4];simp only [DJ,DK,B9,A2];exact Fi N f s11 s12 ls hs hm K z hx d (i+1) n (by omega) (by omega)
 | 0,_,0,_,h=>by omega
 | _+1,_,0,_,h=>by omega
theorem zhl:DY PR B0 10 mI:=by
 refine D7 [(29,R7),(21,R8),(25,bV),(5,V8),(34,bW),(32,WC),(31,SF),(22,WD),(20,PS),(16,SH),(15,SI)] [(8,⟨[8,9,11,12,13,59,60,61],[9],[]⟩)] mI [[.bool]] Tryz.func10 zaJ ⟨sJ,sK,zhj,Jn,zhm,Jr,sS,Js,lC,sG,sH,trivial⟩ ?_;intro vs r hwf h;unfold mI at h;split at h
 ·rename_i f xs z o;replace h:=uI h;obtain ⟨f,rfl,h⟩:=h;rw [R.get_ok] at h;refine ⟨1001,(zdt 1001 f xs z o).trans ?_⟩;rw [← h];have hw:=RX z 0 300 (by omega) (by omega) (by omega);have hsm:=zfU (gY f) (xs.take 5) hw.1 (show DN z 0 300≤65536 by omega);have hql:(HK f.M (xs.take 5) (DN z 0 300)).length≤5:=by rw [zfT,BC]; omega
  obtain ⟨_,o1,o2⟩:=zcG o 20;rw [show ((20:Nat):Int)=20 from rfl] at o1 o2;rw [gY,DJ,o1,DJ];generalize HK f.M (xs.take 5) (DN z 0 300)=Q at hsm hql ⊢;generalize o.extract 0 (min (ic o.size) 20).toNat=O at o2 ⊢;have hqz:=Gz f.M.d Q D8 hsm;have n0:D8.size=0:=rfl;have hM:=mG f;have hW:YG f.M:=Dr _ _ _ _;have hF:=oJ f;have hps:=Gn hM;rw [AE (show (G1 f.M.d D8 Q).size+O.size≤strMax by unfold strMax; omega),DJ];have hbz:(G1 f.M.d D8 Q++O).size≤10100:=by rw [AY]; omega
  have hll:(EK (G1 f.M.d D8 Q++O)).length≤1000:=by
   have h1:=zct (G1 f.M.d D8 Q++O);rw [NI,Gy,vbx,vbx,Cr _ (by
    intro l hl;obtain ⟨q,_,rfl⟩:=CK.1 hl;exact Gh q f.M.d),BK] at h1
   have h2:O.data.toList.count 10≤O.data.toList.length:=List.count_le_length;rw [← QE] at h2;have h3:D8.data.toList.count 10=0:=rfl;omega
  generalize G1 f.M.d D8 Q++O=B at hbz hll ⊢;have hz:=Ib (EC f.M) B hll;have hrep:=Hr hM hW (by omega) B;have htold:=Nq hM hW B;have c0:decide ((EC f.M).size < 4294967281)=true:=AE (by omega);have c1:decide (B.size < 4294967281)=true:=AE (by omega);have c5:decide ((FT (EC f.M) B).size≤strMax)=true:=AE (by unfold strMax; omega);have c6:decide ((FT (EC f.M) B).size < 4294967281)=true:=AE (by omega);rw [c0,c1,c5,c6,hrep,htold];have hlen:((I7 f.M (EK B)).map I8).length=(EK B).length:=by unfold I7; rw [BK,BK]
  simp only [B3,DJ,DK,A2,Option.isSome_some,vaj,hlen,bne_self_eq_false];refine Fi 1001 f B (FT (EC f.M) B) (EK B) (pJ (by omega)) hll _ _ (fun x y=>?_) (EK B).length 0 1001 (by omega) (by omega);rw [Xr];have hx:¬ (FT (EC f.M) B++⟨#[120]⟩=uF):=fun he=>by
   have:=congrArg (fun b:BA=>b.data.toList) he
   simp only [NI] at this;have h2:(FT (EC f.M) B).data.toList++[120]=[109,111,100,101,108]++[10]:=this;have h3:=(List.append_inj' h2 rfl).2;exact absurd h3 (by decide)
  have hrx:GQ { data:=#[] } B (FT (EC f.M) B++{ data:=#[120] })=false:=by
   unfold GQ;rw [show KE { data:=#[] }=false by simp [KE],DK,SL];exact AL hx
  have n1:AD { data:=#[120] }=1:=rfl;rw [c1,AE (show (FT (EC f.M) B).size+AD { data:=#[120] }≤strMax by unfold strMax; omega),AE (show (FT (EC f.M) B++{ data:=#[120] }).size < 4294967281 by rw [AY]; omega),hrx];rfl
 ·simp [R.get] at h
open Go Go.Proofs Go.RowKit
theorem Bf {P:Program} {w:World} {name:String} {g:Nat} {cs:Array Value} (hn:P.globalNamed name=some g) (hv:w.var? P name=some cs):∃ T fr,w.heap[g]?=some (.cells cs T fr):=by
 unfold World.var? at hv;rw [hn] at hv;simp only [Option.bind_some] at hv;split at hv
 ·rename_i c T fr hh;simp only [AC] at hv;subst hv;exact ⟨T,fr,hh⟩
 ·cases hv
theorem Ab {w:World} {name:String} {g t:Nat} {ms:Array (String × TypeId)} {tn:String} {d:DataW Unit} (h:Lib.VarReads Tryz.prog w name (.iface tn d)) (hn:Tryz.prog.globalNamed name=some g)
  (ht:(Tryz.prog.globals[g]?).map (·.type)=some t) (hu:Tryz.prog.underlying t=some (.interface ms)):∃ c T fr te pe,w.heap[g]?=some (.cells c T fr)∧c[0]?=some (.iface te pe):=by
 obtain ⟨g',t',cs,fuel,p,h1,h2,h3,h4⟩:=h;obtain rfl:=CX (hn.symm.trans h1);obtain rfl:=CX (ht.symm.trans h2);obtain ⟨f',u,v,hcs,_,_⟩:=iface_of_trod hu h4;obtain ⟨T,fr,hh⟩:=Bf hn h3;refine ⟨cs,T,fr,u,v,hh,?_⟩
 have:cs = #[.iface u v]:=by
  apply Array.ext';rw [hcs]
 rw [this];rfl
theorem Zm {W:World} {l:List (String × DataW Unit)} (hL:laidMet Tryz.prog l W) (hsh:W.ShapedOpen Tryz.prog)
  (hp:("internal/strconv.uint64pow10", Lib.tabData .u64 Lib.pow10Tab)∈l)
  {n1:String} {d1:DataW Unit} (h1:("strconv.ErrRange", .iface n1 d1)∈l)
  {n2:String} {d2:DataW Unit} (h2:("strconv.ErrSyntax", .iface n2 d2)∈l)
  : Glob B0 W:=by
 have hz:∀ g,g < 4→g < Tryz.prog.globals.size→g < W.heap.size:=fun g _ hg=>by
  have hb:((vaI Tryz.prog.globals.size).all fun g=>(((begin Tryz.prog (fun _ _=>0) default).world.heap[g]?).bind Obj.row?).isSome)=true:=by kernel_rfl
  have:=CU.1 hb g (vbn.2 hg)
  obtain ⟨⟨z,t⟩,hz⟩:=Option.isSome_iff_exists.1 this;obtain ⟨cs,hh,_⟩:=hsh.1 g z t hg hz;exact (DE.1 hh).1
 have hsize:4≤W.heap.size:=by
  first
  | exact B4 _
  | (
    have:=hz (4 - 1) (by decide) (A1 (by kernel_rfl))
    omega)
 have low:∀ {g:Nat},g < 4→(fun b=>if b < B0.ng then W.heap[b]? else none) g=W.heap[g]?:=fun h=>BP (show _ < B0.ng from h)
 refine ⟨hsize,?_⟩;show GF _;constructor
 first | exact trivial | skip
 case gm=>
  obtain ⟨m,hm⟩:=cell_of_shapedOpen_int (P:=Tryz.prog) (g:=1) (t:=3) (zero:=#[.int .i64 0]) hsh (A1 (by kernel_rfl)) (by kernel_rfl) rfl (by kernel_rfl) (by kernel_rfl) Tryz.underlying3;simp only [vaL] at hm;split at hm
  ·rename_i c T fr' hh;exact ⟨c,T,fr',m,(low (by decide)).trans hh,hm⟩
  ·cases hm
 case gp=>
  have gp:Tryz.prog.globalNamed "internal/strconv.uint64pow10" = some 0:=by kernel_rfl
  obtain ⟨g',t',cp,fuel,p,e1,e2,e3,e4⟩:=vbv hL hp;obtain rfl:=CX (gp.symm.trans e1);obtain ⟨T,fr',hh⟩:=Bf gp e3;refine ⟨T,fr',(low (by decide)).trans ?_⟩;rw [hh];have et:(Tryz.prog.globals[0]?).map (·.type)=some 262:=by kernel_rfl
  obtain rfl:=CX (et.symm.trans e2)
  have:=Lib.cells_of_tab (e:=103) (n:=20) (by kernel_rfl) (by kernel_rfl) (by kernel_rfl) (by kernel_rfl) e4
  congr 1;congr 1;apply Array.ext';exact this
 case gs=>
  obtain ⟨cs,Ts,fs,tes,pes,hs1,hs2⟩:=Ab (g:=2) (vbv hL h2) (by kernel_rfl) (show _=some 120 by kernel_rfl) Tryz.underlying120;exact ⟨cs,Ts,fs,tes,pes,(low (by decide)).trans hs1,hs2⟩
 case gr=>
  obtain ⟨cr,Tr,fr,ter,per,hr1,hr2⟩:=Ab (g:=3) (vbv hL h1) (by kernel_rfl) (show _=some 120 by kernel_rfl) Tryz.underlying120;exact ⟨cr,Tr,fr,ter,per,(low (by decide)).trans hr1,hr2⟩
def X0:Zone:=⟨fun _=>False,fun _=>False⟩
def γ0:Nat→Value:=fun _=>.nilIface
abbrev O0:Nat→Prop:=DR X0 γ0 []
theorem uU (b:Nat):¬ O0 b:=by
 rintro (⟨n,ob,h,_⟩ | h)
 ·simp [DO,E6] at h
 ·exact h
theorem Hm (W:World):Rel B0.base 0 W X0 γ0 ⟨[],[]⟩ J1 W:=by
 have no:∀ n ob,DO ([]:Store) n≠some ob:=fun n ob h=>by simp [DO,E6] at h
 refine ⟨rfl,rfl,fun i=>by simp only [St.get,E6,VRel],fun n ob h=>absurd h (no n ob),fun b h=>?_,fun n m ob ob' b _ h=>absurd h (no n ob),Keep.refl _ _,fun b h=>?_,fun b h=>h.elim,fun p _ ob h=>absurd h (no _ ob)⟩
 ·obtain ⟨n,ob,h,_⟩:=h;exact absurd h (no n ob)
 ·obtain ⟨n,ob,h,_⟩:=h;exact absurd h (no n ob)
theorem Uq {f:Nat} {fn:Func} (hf:PR.funcs[f]?=some fn) (hn:(fn.name == "runtime.NumGoroutine")=false) (hb:fn.body.isNone=false) {xs:List Value} {w:World} {R:Ending→World→Prop} (h:Does PR f xs w R):Calls PR f xs.toArray w R:=by
 have:(callFunc f xs.toArray).run PR w = .ok (.enter f xs.toArray) w:=by
  unfold callFunc;have hn':¬ fn.name = "runtime.NumGoroutine":=by simpa using hn
  have hb':¬ fn.body=none:=fun h=>by rw [h] at hb; cases hb
  simp [hf,hn',hb']
 unfold Does at h;rw [this] at h;exact h
theorem Ur {f:Nat} {fn:Func} {sp:DW} (hS:DY PR B0 f sp) (hf:PR.funcs[f]?=some fn) (hn:(fn.name == "runtime.NumGoroutine")=false) (hb:fn.body.isNone=false) {vs:List V} {xs:List Value} {W:World}
  (hsp:(sp vs).get=some (.bool true,[])) (hbor:GN vs=none) (hG:Glob B0 W) (hV:VRels γ0 [] W O0 (vs.map ER) xs) :
  Calls PR f xs.toArray W fun e w'=>e = .returned (.bool true)∧Below W.heap.size W w':=by
 refine Uq hf hn hb ?_;have em:IU vs=[]:=by unfold IU; rw [hbor]
 refine Does.mono (hS W X0 γ0 vs xs (.bool true) [] hsp hG (fun b h=>h.elim) (by rw [em]; exact Hm W) (by rw [em]; exact hV)) ?_;rintro e w' ⟨x,rfl,γ',hR,hx,_⟩;simp only [M4,ER,VRel] at hx;subst hx;exact ⟨rfl,hR.keep.os,hR.keep.tape,hR.keep.output,hR.keep.size,fun b hb=>hR.keep.block b hb (fun h=>h)⟩
open Go
def T6 (P:Program) (e:TypeId):Bool:=match P.underlying e with | some (.struct _)=>true | some (.array _ _)=>true | _=>false
def ZM (f:TypeId→Option (List Kd)) (cell:TypeId→Nat):Nat→List (TypeId × Nat)→Option (List Kd)
 | _,[]=>some []
 | off,(t,o) :: r=>match BQ o off with
  | true=>match f t with
   | some ks=>match BQ (cell t) ks.length with
    | true=>match ZM f cell (off+ks.length) r with
     | some ks'=>some (ks++ks')
     | none=>none
    | false=>none
   | none=>none
  | false=>none
def Q9 (P:Program):Nat→TypeId→Option (List Kd)
 | 0,_=>none
 | n+1,t=>match P.underlying t with
  | some .bool=>some [.bool]
  | some (.int k)=>some [.int k]
  | some .string=>some [.str]
  | some (.slice e)=>match Q9 P n e with
   | some ks=>match B6 1 (P.bytesOf e)&&(BQ (P.cellsOf e) ks.length&&(B6 1 ks.length&&(T6 P e||BQ ks.length 1))) with
    | true=>some [.list (T6 P e) ks]
    | false=>none
   | none=>none
  | some (.struct fs)=>match ZM (Q9 P n) P.cellsOf 0 (fs.toList.map fun f=>(f.type,f.offset)) with
   | some ks=>match BQ (P.cellsOf t) ks.length with | true=>some ks | false=>none
   | none=>none
  | some (.array m e)=>match ZM (Q9 P n) P.cellsOf 0 ((vaI m).map fun i=>(e,i*P.cellsOf e)) with
   | some ks=>match BQ (P.cellsOf t) ks.length with | true=>some ks | false=>none
   | none=>none
  | _=>none
def CellsK (w:World) (O:Nat→Prop):List Kd→LI→List Value→Prop
 | [],[],[]=>True
 | k :: ks,x :: f,v :: cs=>Kd.Rel w O k x v∧CellsK w O ks f cs
 | _,_,_=>False
section
variable {w:World} {O:Nat→Prop}
theorem CellsK.append:∀ {ks:List Kd} {f:LI} {cs:List Value} {ks':List Kd} {f':LI} {cs':List Value},CellsK w O ks f cs→CellsK w O ks' f' cs'→CellsK w O (ks++ks') (f++f') (cs++cs')
 | [],[],[],_,_,_,_,h'=>h'
 | _ :: ks,_ :: f,_ :: cs,_,_,_,h,h'=>by
  simp only [CellsK] at h;simp only [CS,CellsK];exact ⟨h.1,h.2.append h'⟩
 | [],_ :: _,_,_,_,_,h,_=>by simp [CellsK] at h
 | [],[],_ :: _,_,_,_,h,_=>by simp [CellsK] at h
 | _ :: _,[],_,_,_,_,h,_=>by simp [CellsK] at h
 | _ :: _,_ :: _,[],_,_,_,h,_=>by simp [CellsK] at h
theorem CellsK.get:∀ {ks:List Kd} {f:LI} {cs:List Value},CellsK w O ks f cs→∀ (j:Nat) (k:Kd),ks[j]?=some k→∃ v,cs[j]?=some v∧Kd.Rel w O k (MZ f j) v
 | [],_,_,_,j,k,h=>by simp at h
 | k :: ks,x :: f,v :: cs,h,j,k',hj=>by
  simp only [CellsK] at h;cases j with
  | zero=>
   simp only [BY,AC] at hj;subst hj;exact ⟨v,rfl,by simpa only [MZ] using h.1⟩
  | succ j=>
   obtain ⟨u,h1,h2⟩:=h.2.get j k' (by simpa using hj);exact ⟨u,by simpa using h1,by simpa only [MZ] using h2⟩
 | _ :: _,[],_,h,_,_,_=>by simp [CellsK] at h
 | _ :: _,_ :: _,[],h,_,_,_=>by simp [CellsK] at h
theorem y3 {α:Type} {Q:Nat→α→Prop}:∀ n,(∀ i,i < n→∃ x,Q i x)→∃ L:List α,L.length=n∧∀ i x,L[i]?=some x→Q i x
 | 0,_=>⟨[],rfl,fun i x h=>by simp at h⟩
 | n+1,h=>by
  obtain ⟨L,hl,hL⟩:=y3 n (fun i hi=>h i (by omega));obtain ⟨x,hx⟩:=h n (by omega);refine ⟨L++[x],by simp [hl],fun i y hy=>?_⟩;rw [vae] at hy;split at hy
  ·exact hL i y hy
  ·rename_i hi
   have:i - L.length=0:=by
    rcases Nat.eq_zero_or_pos (i - L.length) with e | e
    ·exact e
    ·rw [BZ (by simp; omega)] at hy;cases hy
   rw [this] at hy;simp only [BY,AC] at hy;subst hy
   have:i=n:=by omega
   subst this;exact hx
end
theorem pR {H:Type} {P:Program}:∀ {ts:List TypeId} {ds:List (DataW H)} {i:Nat} {t:TypeId} {d:DataW H},ts[i]?=some t→ds[i]?=some d→∀ y∈d.weights P t,y∈vbJ P ts ds
 | [],_,i,_,_,h,_,_,_=>by simp at h
 | _ :: _,[],i,_,_,_,h,_,_=>by simp at h
 | t0 :: ts,d0 :: ds,0,t,d,h,h',y,hy=>by
  simp only [BY,AC] at h h';subst h; subst h';simp only [vbJ,AV];exact .inl hy
 | t0 :: ts,d0 :: ds,i+1,t,d,h,h',y,hy=>by
  simp only [vbJ,AV];exact .inr (pR (by simpa using h) (by simpa using h') y hy)
theorem pQ {H:Type} {P:Program} {e:TypeId}:∀ {ds:List (DataW H)} {d:DataW H},d∈ds→∀ y∈d.weights P e,y∈DataW.weightsAll P e ds
 | [],_,h,_,_=>by cases h
 | d0 :: ds,d,h,y,hy=>by
  simp only [DataW.weightsAll,AV];rcases AP.1 h with rfl | h
  ·exact .inl hy
  ·exact .inr (pQ h y hy)
section
variable {H:Type} {enc:TypeId × Value→H} {P:Program} {w:World} {base:Nat} {sp:Nat→Bool} {held:Bool} {O:Nat→Prop}
theorem qV {f:TypeId→Option (List Kd)} {n:Nat} {cs:List Value}
  (ih:∀ (t:TypeId) (ks:List Kd) (cs:List Value) (d:DataW H) (p:List MemPlace),f t=some ks→DataW.trod enc P w base sp held n t cs=some (d,p)→(∀ y∈d.weights P t,y≤reachBytes)→∃ g,CellsK w O ks g cs) :
  ∀ (parts:List (TypeId × Nat)) (off:Nat) (ks:List Kd) (xs:List (DataW H × List MemPlace)),ZM f P.cellsOf off parts=some ks→xs.length=parts.length →
   (∀ (i:Nat) (t:TypeId) (o:Nat),parts[i]?=some (t,o)→DataW.trod enc P w base sp held n t ((cs.drop o).take (P.cellsOf t))=xs[i]?) →
   (∀ (i:Nat) (t:TypeId) (o:Nat) (x:DataW H × List MemPlace),parts[i]?=some (t,o)→xs[i]?=some x→∀ y∈x.1.weights P t,y≤reachBytes)→∃ g,CellsK w O ks g ((cs.drop off).take ks.length)
 | [],off,ks,xs,h,_,_,_=>by
  simp only [ZM,AC] at h;subst h;exact ⟨[],by simp only [A7,List.take_zero,CellsK]⟩
 | (t,o) :: r,off,ks,[],h,hl,_,_=>by simp at hl
 | (t,o) :: r,off,ks,x :: xs,h,hl,ht,hw=>by
  simp only [ZM] at h;split at h
  case h_2=>cases h
  rename_i ho;obtain rfl:=vam ho;split at h
  case h_2=>cases h
  rename_i k1 hk1;split at h
  case h_2=>cases h
  rename_i hc;have hc:=vam hc;split at h
  case h_2=>cases h
  rename_i k2 hk2;simp only [AC] at h;subst h;have h0:=ht 0 t o rfl;simp only [BY] at h0;obtain ⟨d,p⟩:=x;obtain ⟨g1,hg1⟩:=ih t k1 _ d p hk1 h0 (hw 0 t o (d,p) rfl rfl);obtain ⟨g2,hg2⟩:=qV ih r (o+k1.length) k2 xs hk2 (by simpa using hl) (fun i t' o' hi=>by simpa using ht (i+1) t' o' (by simpa using hi)) (fun i t' o' x hi hx=>hw (i+1) t' o' x (by simpa using hi) (by simpa using hx));refine ⟨g1++g2,?_⟩;rw [AS,List.take_add,List.drop_drop];rw [hc] at hg1;exact hg1.append hg2
theorem zif {a:Addr} {v:Value} (h:w.cell? a=some v):a.spot=none∧a.block < w.heap.size:=by
 unfold vaL at h;split at h
 ·rename_i c _ _ hc;split at h
  ·cases h
  ·rename_i hs;exact ⟨by simpa using hs,(DE.1 hc).1⟩
 ·cases h
theorem gP (hO:∀ b,¬ O b):∀ (n:Nat) (t:TypeId) (ks:List Kd) (fuel:Nat) (cs:List Value) (d:DataW H) (p:List MemPlace),Q9 P n t=some ks →
  DataW.trod enc P w base sp held fuel t cs=some (d,p)→(∀ y∈d.weights P t,y≤reachBytes)→∃ g,CellsK w O ks g cs
 | 0,_,_,_,_,_,_,h,_,_=>by simp [Q9] at h
 | n+1,t,ks,fuel,cs,d,p,h,ht,hw=>by
  simp only [Q9] at h;split at h
  ·rename_i hu;simp only [AC] at h;subst h;obtain ⟨b,rfl,_⟩:=DataW.trod_bool hu ht;exact ⟨[.bool b],by simp only [CellsK,Kd.Rel,IV.toBool,and_self]⟩
  ·rename_i k hu;simp only [AC] at h;subst h;obtain ⟨m,rfl,_,hm⟩:=DataW.trod_int hu ht;simp only [Lit.wf,AH,AQ] at hm;exact ⟨[.int m],by simp only [CellsK,Kd.Rel,IV.toInt,B7,vaA]; exact hm⟩
  ·rename_i hu;simp only [AC] at h;subst h;obtain ⟨s,rfl,hd,hs⟩:=DataW.trod_string hu ht;simp only [AU] at hd;refine ⟨[.str s],?_⟩;simp only [CellsK,Kd.Rel,IV.toStr,B7,vaA];rw [hd.1] at hw
   have:=hw s.data.toList.length (by simp [vbz])
   have e:s.data.toList.length=s.size:=by rw [CL]; rfl
   rw [e] at this;unfold reachBytes at this;unfold strMax;omega
  ·rename_i e hu;split at h
   case h_2=>cases h
   rename_i k1 hk1;split at h
   case h_2=>cases h
   rename_i hc;simp only [AC] at h;subst h;simp only [AH,vao] at hc;obtain ⟨hb,hce,hk0,hag⟩:=hc;have hb:=AO hb;have hce:=vam hce;have hk0:=AO hk0;rcases DataW.trod_slice hu ht with ⟨rfl,_⟩ | ⟨a,len,cap,elems,rest,m,_,rfl,hx,_,hlc,hcap,hlen,hel,_⟩
   ·refine ⟨[.list []],?_⟩;simp only [CellsK,Kd.Rel,IV.toList,B7];exact ⟨none,0,rfl,AX _,B4 _,B4 _,fun i y hi=>by simp at hi⟩
   ·simp only [AU] at hx;obtain ⟨rfl,_⟩:=hx;simp only [vbz,hu,AP,AV] at hw;have hsz:len≤strMax:=by
     have:=hw _ (.inl rfl)
     rw [BK,hlen] at this;have h1:len*1≤(len+(rest.map (·.1)).length)*P.bytesOf e:=Nat.mul_le_mul (by omega) hb;unfold reachBytes at this;unfold strMax;omega
    have hex:∀ i,i < len→∃ g:LI,∃ ci,w.cells? base (a.add (i*k1.length)) k1.length=some ci∧CellsK w O k1 g ci:=by
     intro i hi;have h1:=hel i hi;have hi':i < elems.length:=by omega
     rw [BE hi',hce] at h1;simp only [Option.bind_eq_some_iff] at h1;obtain ⟨ci,h2,h3⟩:=h1;obtain ⟨g,hg⟩:=gP hO n e k1 m ci elems[i].1 elems[i].2 hk1 h3 (fun y hy=>hw y (.inr (.inl (pQ (vaR (C1 hi')) y hy))));exact ⟨g,ci,h2,hg⟩
    obtain ⟨L,hL,hLi⟩:=y3 len hex;refine ⟨[.list (L.map fun g=>match T6 P e with | true=>IV.agg g | false=>MZ g 0)],?_⟩;simp only [CellsK,Kd.Rel,IV.toList,B7,BK,hL];refine ⟨some a,cap,rfl,hlc,hcap,hsz,fun i y hi=>?_⟩;rw [CA,DD] at hi;obtain ⟨g,hg,rfl⟩:=hi;obtain ⟨ci,hci,hgc⟩:=hLi i g hg;have hil:i < len:=by rw [← hL]; exact (BS.1 hg).1
    have cellAt:∀ j k,k1[j]?=some k→∃ u,w.cell? ((a.add (i*k1.length)).add j)=some u∧Kd.Rel w O k (MZ g j) u:=by
     intro j k hk;obtain ⟨u,h1,h2⟩:=hgc.get j k hk;refine ⟨u,?_,h2⟩;have hj:j < k1.length:=(BS.1 hk).1;unfold World.cells? at hci;split at hci
     ·obtain ⟨b,hb1,hb2⟩:=Lib.mapM_at hci j j (by simp [hj]);rw [h1] at hb1;simp only [AC] at hb1;rw [hb2,hb1]
     ·cases hci
    have hspot:a.spot=none∧a.block < w.heap.size:=by
     obtain ⟨g0,hg0⟩:∃ g0,L[0]?=some g0:=⟨L[0]'(by omega),BE (by omega)⟩;obtain ⟨c0,hc0,hgc0⟩:=hLi 0 g0 hg0;obtain ⟨u,h1,_⟩:=hgc0.get 0 k1[0] (BE (by omega));unfold World.cells? at hc0;split at hc0
     ·obtain ⟨b,_,hb2⟩:=Lib.mapM_at hc0 0 0 (List.getElem?_range (show 0 < k1.length by omega))
      have:=zif hb2
      rw [Nat.zero_mul] at this;simpa [Addr.add] using this
     ·cases hc0
    obtain ⟨ab,ao,asp⟩:=a;obtain ⟨hs1,hs2⟩:=hspot;simp only at hs1 hs2;subst hs1;refine ⟨ab,ao,rfl,hO ab,hs2,?_⟩;rw [Kd.RelAll_iff];intro j k hk;obtain ⟨u,h1,h2⟩:=cellAt j k hk;rw [Lib.add_plain,Lib.add_plain] at h1;rw [BL];refine ⟨u,h1,?_⟩;cases hat:T6 P e with
    | true=>
     show Kd.Rel w O k (MZ g j) u;exact h2
    | false=>
     rw [hat] at hag;have h1l:k1.length=1:=vam (by simpa using hag);have hj:j < k1.length:=(BS.1 hk).1
     have:j=0:=by omega
     subst this;exact h2
  ·rename_i fs hu;split at h
   case h_2=>cases h
   rename_i k1 hk1;split at h
   case h_2=>cases h
   rename_i hc;have hc:=vam hc;simp only [AC] at h;subst h;obtain ⟨xs,m,_,hx,hcl,hxl,hall⟩:=DataW.trod_struct hu ht;simp only [AU] at hx;obtain ⟨rfl,_⟩:=hx;simp only [vbz,hu] at hw;have key:=qV (enc:=enc) (P:=P) (w:=w) (base:=base) (sp:=sp) (held:=held) (O:=O) (f:=Q9 P n) (n:=m) (cs:=cs) (fun t ks cs d p h1 h2 h3=>gP hO n t ks m cs d p h1 h2 h3) (fs.toList.map fun f=>(f.type,f.offset)) 0 k1 xs hk1 (by simp [hxl]) (fun i t o hi=>by
     rw [CA,DD] at hi;obtain ⟨f,hf,he⟩:=hi;simp only [AU] at he;obtain ⟨rfl,rfl⟩:=he;exact hall i f (by simpa using hf)) (fun i t o x hi hx y hy=>by
     rw [CA,DD] at hi;obtain ⟨f,hf,he⟩:=hi;simp only [AU] at he;obtain ⟨rfl,rfl⟩:=he;exact hw y (pR (i:=i) (by rw [CA,hf]; rfl) (by rw [CA,hx]; rfl) y hy))
   obtain ⟨g,hg⟩:=key;rw [B5,CV (by omega)] at hg;exact ⟨g,hg⟩
  ·rename_i m0 e hu;split at h
   case h_2=>cases h
   rename_i k1 hk1;split at h
   case h_2=>cases h
   rename_i hc;have hc:=vam hc;simp only [AC] at h;subst h;obtain ⟨xs,m,_,hx,hcl,hxl,hall⟩:=DataW.trod_array hu ht;simp only [AU] at hx;obtain ⟨rfl,_⟩:=hx;simp only [vbz,hu] at hw;have key:=qV (enc:=enc) (P:=P) (w:=w) (base:=base) (sp:=sp) (held:=held) (O:=O) (f:=Q9 P n) (n:=m) (cs:=cs) (fun t ks cs d p h1 h2 h3=>gP hO n t ks m cs d p h1 h2 h3) ((vaI m0).map fun i=>(e,i*P.cellsOf e)) 0 k1 xs hk1 (by simp [hxl]) (fun i t o hi=>by
     rw [CA,DD] at hi;obtain ⟨f,hf,he⟩:=hi;simp only [AU] at he;obtain ⟨rfl,rfl⟩:=he;have hfi:=BS.1 hf;obtain ⟨hl,he⟩:=hfi;rw [List.getElem_range] at he;subst he;exact hall i (by simpa using hl)) (fun i t o x hi hx y hy=>by
     rw [CA,DD] at hi;obtain ⟨f,hf,he⟩:=hi;simp only [AU] at he;obtain ⟨rfl,rfl⟩:=he;exact hw y (pQ (vaR (vaf hx)) y hy))
   obtain ⟨g,hg⟩:=key;rw [B5,CV (by omega)] at hg;exact ⟨g,hg⟩
  ·cases h
end
open Go Go.Proofs Go.RowKit Go.ChangeShapes Go.WideShapes
def X9:Kd→IV→V
 | .int k,x=>.int k x.toInt
 | .bool,x=>.bool x.toBool
 | .str,x=>.str x.toStr
 | .list ag ks,x=>.list ag ks x.toList
theorem On {γ:Nat→Value} {o:Store} {w:World} {O:Nat→Prop} {k:Kd} {x:IV} {v:Value} (h:Kd.Rel w O k x v):VRel γ o w O (X9 k x) v:=by
 cases k with
 | int k=>simpa only [X9,VRel,Kd.Rel] using h
 | bool=>simpa only [X9,VRel,Kd.Rel] using h
 | str=>simpa only [X9,VRel,Kd.Rel] using h
 | list ag ks=>
  simp only [X9,VRel];simpa only [Kd.Rel,IV.toList] using h
def gS:List Kd→LI→List V
 | k :: ks,x :: f=>X9 k x :: gS ks f
 | _,_=>[]
theorem Ow {γ:Nat→Value} {o:Store} {w:World} {O:Nat→Prop}:∀ {ks:List Kd} {f:LI} {cs:List Value},CellsK w O ks f cs→VRels γ o w O (gS ks f) cs
 | [],[],[],_=>by simp only [gS,VRels]
 | _ :: _,_ :: _,_ :: _,h=>by
  simp only [CellsK] at h;simp only [gS,VRels];exact ⟨On h.1,Ow h.2⟩
 | [],_ :: _,_,h=>by simp [CellsK] at h
 | [],[],_ :: _,h=>by simp [CellsK] at h
 | _ :: _,[],_,h=>by simp [CellsK] at h
 | _ :: _,_ :: _,[],h=>by simp [CellsK] at h
theorem CellsK.len {w:World} {O:Nat→Prop}:∀ {ks:List Kd} {f:LI} {cs:List Value},CellsK w O ks f cs→f.length=ks.length
 | [],[],[],_=>rfl
 | _ :: _,_ :: _,_ :: _,h=>by
  simp only [CellsK] at h;simp only [List.length_cons,h.2.len]
 | [],_ :: _,_,h=>by simp [CellsK] at h
 | [],[],_ :: _,h=>by simp [CellsK] at h
 | _ :: _,[],_,h=>by simp [CellsK] at h
 | _ :: _,_ :: _,[],h=>by simp [CellsK] at h
section
variable {H:Type} {enc:TypeId × Value→H} {P:Program} {W:World} {base b0:Nat} {sp:Nat→Bool} {held:Bool}
theorem mO {n:Nat} {t:TypeId} {ks:List Kd} {v:Value} {d:DataW H} {p:List MemPlace} (hk:Q9 P n t=some ks) (hu:T6 P t=true) (hval:Value.okWide P W .any base t v)
  (h:DataW.Trod enc P W b0 sp held t v d p) (hw:∀ y∈d.weights P t,y≤reachBytes):∃ g:LI,g.length=ks.length∧VRel γ0 [] W O0 (.agg (gS ks g)) v:=by
 obtain ⟨cs,rfl⟩:∃ cs,v = .agg cs:=by
  unfold T6 at hu;unfold Value.okWide at hval;split at hu
  ·rename_i hh; rw [hh] at hval; exact hval.imp (fun _ h=>h.1)
  ·rename_i hh; rw [hh] at hval; exact hval.imp (fun _ h=>h.1)
  ·cases hu
 obtain ⟨fuel,hf⟩:=h;obtain ⟨g,hg⟩:=gP (O:=O0) uU n t ks fuel _ d p hk hf hw;refine ⟨g,hg.len,?_⟩;simp only [VRel];exact ⟨cs,rfl,Ow hg⟩
theorem dS {n:Nat} {t:TypeId} {k:Kd} {v:Value} {d:DataW H} {p:List MemPlace} (hk:Q9 P n t=some [k]) (hu:T6 P t=false) (hval:Value.okWide P W .any base t v)
  (h:DataW.Trod enc P W b0 sp held t v d p) (hw:∀ y∈d.weights P t,y≤reachBytes):∃ x:IV,VRel γ0 [] W O0 (X9 k x) v:=by
 obtain ⟨fuel,hf⟩:=h;obtain ⟨g,hg⟩:=gP (O:=O0) uU n t [k] fuel _ d p hk hf hw;have hc:v.cells.toList=[v]:=by
  cases v with
  | agg cs=>
   exfalso;unfold T6 at hu;unfold Value.okWide at hval;split at hu
   ·cases hu
   ·cases hu
   ·rename_i h1 h2;split at hval
    ·rename_i hh; exact h1 _ hh
    ·rename_i hh; exact h2 _ _ hh
    ·unfold Cell.okWide Cell.ok at hval;split at hval <;> first | (split at hval <;> simp_all) | simp_all
  | _=>rfl
 rw [hc] at hg
 match g,hg with
 | [x],hg=>
  simp only [CellsK,and_true] at hg;exact ⟨x,On hg⟩
theorem Oj (hl:laidOutB P=true) {W':World} (hb:Below W.heap.size W W'):∀ {ts:List TypeId} {vs:List Value} {ds:List (DataW H)} {ps:List MemPlace},DataW.TrodAll enc P W 0 (fun _=>true) true ts vs ds ps →
  (∀ t∈ts,P.readableRec t=true∧t < P.types.size)→(∀ x∈ps,x.block < W.heap.size)→DataW.TrodAll enc P W' 0 (fun b=>decide (b < W.heap.size)) true ts vs ds ps
 | [],vs,ds,ps,h,_,_=>by
  obtain ⟨rfl,rfl,rfl⟩:=trodAll_nil h;rfl
 | t :: ts,vs,ds,ps,h,ht,hp=>by
  obtain ⟨v,vs1,d,ds1,a,b,rfl,rfl,rfl,h1,h2⟩:=trodAll_cons h;have hh:=ht t (List.mem_cons_self ..);exact ⟨a,b,Below.trod hl hh.1 hh.2 h1 hb (fun x hx=>hp x (List.mem_append.2 (.inl hx))),Oj hl hb h2 (fun t' h'=>ht t' (List.mem_cons_of_mem _ h')) (fun x hx=>hp x (List.mem_append.2 (.inr hx))),rfl⟩
end
theorem Ix:ownKnob Tryz.prog.godebug=none:=by kernel_rfl
theorem Iw:laidOutB Tryz.prog=true:=by kernel_rfl
theorem Ch {os:Os} (started:os.Started) {H:Type} {enc:TypeId × Value→H} {spec:ChangeSpec} {f:Nat} {fn:Func} {sp:DW} {laid:List (String × DataW Unit)} (hS:DY PR B0 f sp) (hf:Tryz.prog.funcs[f]?=some fn)
  (hn:(fn.name == "runtime.NumGoroutine")=false) (hb:fn.body.isNone=false) (hini:Tryz.prog.inits.idxOf? f=none) (hres:fn.resultTypes = #[4]) (hvars:spec.vars=[])
  (hspec:∀ (ds:List (DataW H)),ds.length=fn.params.toList.length→spec.fn H ds={ results:=[.lit (.bool true)],args:=ds })
  (hpar:fn.params.toList.all (fun t=>Tryz.prog.readableRec t&&decide (t < Tryz.prog.types.size))=true)
  (hglob:∀ W:World,laidMetH Tryz.prog laid W→W.ShapedOpen Tryz.prog→Glob B0 W)
  (witness:∃ (w:World) (tape:Tape) (i:Input),w.os=os∧(w.forCall tape i).Shaped Tryz.prog∧i.vars=[]∧Input.okWide Tryz.prog (w.forCall tape i) .any w.heap.size f i ∧
   (OpenSpec.ofChange spec).preRow enc Tryz.prog fn [] false laid (w.forCall tape i).memory i.args∧({}:Assume).holds Tryz.prog (lone (Frame.enter Tryz.prog f i.args .normal) [] (w.forCall tape i)))
  (harg:∀ (W:World) (base:Nat) (vs:List Value) (ds:List (DataW H)) (p:List MemPlace),DataW.TrodAll enc Tryz.prog W 0 (fun _=>true) true fn.params.toList vs ds p →
   (∀ (j:Nat) t v,fn.params.toList[j]?=some t→vs[j]?=some v→Value.okWide Tryz.prog W .any base t v) →
   (∀ (j:Nat) t d,fn.params.toList[j]?=some t→ds[j]?=some d→∀ y∈d.weights Tryz.prog t,y≤reachBytes) →
   ∃ l:List V,(sp l).get=some (.bool true,[])∧GN l=none∧VRels γ0 [] W O0 (l.map ER) vs) :
  ReturnsInHanded {} Tryz.checked os f .any ((OpenSpec.ofChange spec).preRow enc Tryz.prog fn [] false laid) (spec.post enc Tryz.prog fn false true false false):=by
 refine returnsInHanded_of_row (C:=Tryz.checked) (s:=OpenSpec.ofChange spec) (F:=fun _ _ _=>0) Ix started hini hf witness ?_;intro W base args ds gs before hval hW _ _ hwt hL hsh _;have hW':=hW;obtain ⟨p,q,hA,hV,rfl,_,_⟩:=hW;have hvars':(OpenSpec.ofChange spec).vars=[]:=hvars;rw [hvars'] at hV;obtain ⟨rfl,rfl⟩:=trodVars_none hV;have hlen:ds.length=fn.params.toList.length:=by
  have:∀ {ts:List TypeId} {vs:List Value} {ds:List (DataW H)} {ps:List MemPlace},DataW.TrodAll enc Tryz.prog W 0 (fun _=>true) true ts vs ds ps→ds.length=ts.length:=by
   intro ts
   induction ts with
   | nil=>intro vs ds ps h; obtain ⟨_,rfl,_⟩:=trodAll_nil h; rfl
   | cons t ts ih=>
    intro vs ds ps h;obtain ⟨v,vs1,d,ds1,a,b,rfl,rfl,rfl,h1,h2⟩:=trodAll_cons h;simp only [List.length_cons,ih h2]
  exact this hA
 simp only [List.append_nil] at hW' hwt;obtain ⟨l,hl,hbor,hrel⟩:=harg W base args.toList ds p hA (fun j t v h1 h2=>hval j t v (by simpa using h1) (by simpa using h2)) (fun j t d h1 h2 y hy=>by
  have hm:=pR (P:=Tryz.prog) (ts:=fn.params.toList++(OpenSpec.ofChange spec).bare.plain.varTypes Tryz.prog) (ds:=ds) (i:=j) (t:=t) (d:=d) (by
   rw [List.getElem?_append_left (by rw [← hlen]; exact (List.getElem?_eq_some_iff.1 h2).1)];exact h1) h2 y hy
  have:=List.all_eq_true.1 hwt y hm
  simpa using this)
 have hc:=Ur hS hf hn hb hl hbor (hglob W hL hsh) hrel;have ea:args.toList.toArray=args:=by simp
 rw [ea] at hc;refine hc.mono ?_;rintro e W' ⟨rfl,bel⟩;have hfn:spec.fn H (ds++[])={ results:=[.lit (.bool true)],args:=ds }:=by rw [List.append_nil]; exact hspec ds hlen
 have hlt:∀ x∈p,x.block < W.heap.size:=fun x hx=>hW'.lt x hx
 have post:spec.post enc Tryz.prog fn false true false false W args (.bool true) W':=by
  refine ⟨ds,[],p,[],p,[],hW',?_,?_,?_,bel.frame _,fun h=>by cases h⟩
  ·rw [hfn,hres];exact trodAll_mk1 (shut_bool Tryz.underlying4 _)
  ·rw [hfn];exact Oj Iw bel hA (fun t ht=>by
    have:=List.all_eq_true.1 hpar t ht
    simpa using this) hlt
  ·rw [hvars,hfn];rfl
 exact ⟨_,rfl,post⟩
end Go.FM
namespace Go.Proofs.YtehhekmihbaghaaGreatDoor
open Go Go.ChangeShapes Go.WideShapes Go.ChangeAt Go.RowKit Go.FM
theorem Ix:ownKnob Tryz.prog.godebug=none:=by kernel_rfl
theorem Iw:laidOutB Tryz.prog=true:=by kernel_rfl
abbrev XY:List (String × DataW Unit):=Rows.topLinesRow.laid
noncomputable def r7 (os:Os):World:=
 let w0:=World.doorLaid Tryz.prog 72 os
 { w0 with heap:=w0.heap.modify 4 fun
  | .cells _ t frozen=>.cells (Lib.firstTab.map fun z=>Value.int .u8 z).toArray t frozen
  | o=>o }
theorem Iz (os:Os) (args:Array Value):laidMetH Tryz.prog XY ((r7 os).forCall (fun _ _=>0) ⟨#[],args,[]⟩).memory:=
 laidMetH_of_parts3 (fuel:=8) (laidMet_of_run' 8 (by kernel_rfl) (by kernel_rfl)) (by kernel_rfl) (by kernel_rfl)
theorem Iy {W:World} (hL:laidMetH Tryz.prog XY W) (hsh:W.ShapedOpen Tryz.prog):Glob B0 W:=by
 have hL':laidMet Tryz.prog XY W:=by
  rw [MakeChecks.laidMetH_plain _ _ _ (by kernel_rfl)] at hL;exact hL
 exact Zm hL' hsh (n1 := "*errors.errorString") (n2 := "*errors.errorString") (.tail _ (.tail _ (.head _))) (.tail _ (.tail _ (.tail _ (.tail _ (.head _))))) (.tail _ (.tail _ (.tail _ (.tail _ (.tail _ (.head _))))))
end Go.Proofs.YtehhekmihbaghaaGreatDoor
