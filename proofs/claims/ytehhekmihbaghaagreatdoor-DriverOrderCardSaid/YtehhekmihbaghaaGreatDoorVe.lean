/-
  A small machine that reckons what a call comes to; the functions of the program, one by one. (proof.Sums COMES TO WHAT IS SAID., check's FUNCTIONS COME TO WHAT IS SAID (1): Sums, shown, Pro, NORMAL FORMS: what the functions' runs come to (written by a, and so on.)
-/
import Derived.Test.YtehhekmihbaghaaGreatDoorVd
import Derived.Lib.LaidU8
import Derived.OpenShut
import Derived.ProofKit
import Derived.LaidMore
import Derived.Test.YtehhekmihbaghaaGreatDoorTie
import Derived.Test.YtehhekmihbaghaaGreatDoorCards
import Derived.Deep.DeepWitnessRowRef
set_option linter.all false
set_option maxRecDepth 100000
open Array renaming length_toList→CL,getElem?_eq_some_iff→DF,toList_append→vai
open Bool renaming and_eq_true→AI,not_true→A3,not_false→A7,true_and→BC,false_and→BL,and_true→B2,not_eq_true'→B3,and_self→B4,and_false→vaf,or_eq_true→vap,or_eq_false_iff→vas,false_or→vaz,eq_iff_iff→va2
open ByteArray renaming size→AG,size_append→AU,toList→AW,empty→CK,append_assoc→C7,extract→vaa,size_push→va4,data_extract→vbe,size_extract→vbf
open Go.DataW renaming weights→vbz,weightsEach→vbJ
open Go.IntKind renaming wrap→AA,i64→AB
open Go.Lib renaming decDigits→BU,indexByte→DG,itoa→vam,split→vay,cut→vaP,parseUint10→vaQ,atoiAll→vbj,count_one→vbv
open Go.Lib.laidMet renaming reads→vbw
open Go.ResultVar renaming tmp→CF,cell→va7
open Go.World renaming cell?→vaN
open Int renaming toNat→AE,toNat_natCast→BF
open List renaming length→AF,getD→AH,take→AK,length_cons→AM,mem_cons_self→AO,mem_cons→AP,drop→AS,length_append→AT,mem_append→AX,mem_cons_of_mem→AY,map_cons→A0,map→A2,length_nil→A6,getElem?_eq_getElem→A8,length_take→BB,drop_eq_getElem_cons→BE,length_map→BG,mem_singleton→BM,take_length→BO,getElem?_eq_some_iff→BR,getD_eq_getElem?_getD→BV,not_mem_nil→BX,drop_zero→BY,getElem?_cons_zero→BZ,getElem?_eq_none→B1,getElem?_map→B9,map_nil→CA,drop_of_length_le→CD,mem_map→CI,getElem?_take→CM,all_eq_true→CR,cons_append→CT,take_of_length_le→CV,getElem_mem→CX,length_drop→CY,length_singleton→C2,nil_append→C4,getElem?_cons_succ→C5,size_toArray→C8,append_nil→DB,length_reverse→vae,getElem?_append→vag,mem_of_getElem?→vah,range→vau,all_cons→vaA,drop_length→vaD,length_set→vaG,append_assoc→vaI,map_map→vaJ,mem_of_mem_take→vaK,mem_range→vaR,mem_map_of_mem→vaU,sum_cons→va3,mem_of_mem_drop→va8,count_eq_zero_of_not_mem→vba,getElem?_append_right→vbu,isPrefixOf→vbA
open List.cons renaming injEq→vav
open Nat renaming le_of_ble_eq_true→AN,le_refl→AZ,zero_add→BI,beq→BQ,blt→BS,zero_le→B5,ble→B6,lt_of_lt_of_le→CW,le_trans→C1,eq_of_beq_eq_true→vao,strongRecOn→vbr
open Option renaming map_eq_some_iff→DE,getD_some→vak,map_some→vaw
open Option.some renaming injEq→AC,inj→CS
open Prod.mk renaming injEq→AV
open UInt8 renaming toNat_ofNat_of_lt'→vab,size→vbo
namespace Go.FM
open Go Go.Proofs
set_option maxRecDepth 100000
def RP (l L:LI) (n:Nat) (out:LI) (m:Nat) (i:Int):St:=⟨[(4,.zs),(5,.bool false),(6,.row 500 0 n),(7,.row 501 0 m),(19,.list true EC l),(20,.int .i64 (ic l.length)),(21,.int .i64 i)],[(500,some (.row true 36 true E6 L)),(501,some (.row true 36 true E6 out))]⟩
abbrev pD:KP:=⟨[4,5,6,7,19,20,21],[500,501],[⟨.tmp 6,500,36,true,E6⟩,⟨.tmp 7,501,36,true,E6⟩]⟩
def qV (p:Int) (f:Nat→DO):DO:=cond (decide (p=ic 0)) (f 0) (cond (decide (p=ic 1)) (f 1) (cond (decide (p=ic 2)) (f 2) (cond (decide (p=ic 3)) (f 3) (cond (decide (p=ic 4)) (f 4) none))))
def KT (n:Nat):Int:=AA AB (ic (n - 0) - 1)
def pX (L:LI) (n:Nat):IV:=L.getD (0+(KT n).toNat) default
noncomputable abbrev jY (N:Nat):Out→St→DO:=DQ 0 (DS (YL N) (DK Y1 [1,1,1,1,1]) (DT (YL N) none [.tmp 4,.tmp 5] [[.list true E6],[.bool]]))
theorem zeb (N:Nat) (l:LI) (b:Bx):DZ (YL N) Y1 [.tmp 4,.tmp 5] [[.list true E6],[.bool]] [b.V,.list true EC l] =
 cond (!decide (LW l > 0)) (some (.tup [.list true E6 [],.bool false],[])) (DY (YL N) (DK Y1 [1,1,1,1,0,1,0,0]) pD N (RP l [b.I] 1 [] 0 0) (jY N)):=by kernel_rfl
theorem Yd (N:Nat) (l L out:LI) (n m:Nat) (i:Int):jY N (.exit 0) (RP l L n out m i)=some (.tup [.list true E6 (AK m out),.bool true],[]):=by kernel_rfl
theorem Ae (N:Nat) (l L out:LI) (n m:Nat) (i:Int):jY N .ret (RP l L n out m i)=some (.tup [.list true E6 [],.bool false],[]):=by kernel_rfl
theorem Mf (N:Nat) (l L out:LI) (n m:Nat) (i:Int) (again:St→DO) (k:Out→St→DO):EZ (YL N) (DK Y1 [1,1,1,1,0,1,0,0]) (RP l L n out m i) (EN again pD k) =
 cond (decide (i < ic l.length)) (cond (decide (0≤i)&&decide (i < ic l.length)) (cond (decide (0≤KT n)&&decide (KT n < ic (n - 0))) (cond (decide (0≤KT n)&&decide (KT n≤ic (n - 0)))
 (cond (GS (l.getD i.toNat default)) (cond (decide ((m+1)*80≤EE)) (again (RP l L (0+(KT n).toNat) (out.take m++[(D7 (pX L n)).I]) (m+1) (FL (i+1)))) none)
 (qV (E9 (l.getD i.toNat default)) fun j=>cond (decide (FP (l.getD i.toNat default) < cI (pX L n) (2*j))) (k .ret (RP l L (0+(KT n).toNat) out m i))
 (qV (E9 (l.getD i.toNat default)) fun j=>cond (decide (FP (l.getD i.toNat default)≥cI (pX L n) (2*j+1))) (k .ret (RP l L (0+(KT n).toNat) out m i))
 (cond (H8 (E9 (l.getD i.toNat default))) (cond (decide ((0+(KT n).toNat+2)*80≤EE))
 (again (RP l (L.take (0+(KT n).toNat)++[((D7 (pX L n)).cutH (E9 (l.getD i.toNat default)) (FP (l.getD i.toNat default))).I,((D7 (pX L n)).cutL (E9 (l.getD i.toNat default)) (FP (l.getD i.toNat default))).I]) (0+(KT n).toNat+2) out m (FL (i+1)))) none) none)))) none) none) none)
 (k (.exit 0) (RP l L n out m i)):=by kernel_rfl
theorem Fq {p:Int} {a:Nat} (h:p=(a:Int)) (ha:a < 5) (f:Nat→DO):qV p f=f a:=by
 subst h
 match a,ha with
 | 0,_=>rfl
 | 1,_=>rfl
 | 2,_=>rfl
 | 3,_=>rfl
 | 4,_=>rfl
 | n+5,h=>omega
theorem Tz (x:IV):∀ {a:Nat},a < 5→(D7 x).g a=⟨cI x (2*a),cI x (2*a+1)⟩
 | 0,_=>rfl
 | 1,_=>rfl
 | 2,_=>rfl
 | 3,_=>rfl
 | 4,_=>rfl
 | n+5,h=>by omega
def rE (o:Option (List IV × LI)):DO:=match o with
 | some lo=>some (.tup [.list true E6 lo.2,.bool true],[])
 | none=>some (.tup [.list true E6 [],.bool false],[])
theorem rG (N:Nat) (l:LI) (hl:l.length≤65536):∀ (d c i:Nat) (L:LI) (n:Nat) (out:LI) (most:Int) (st:Int × Int),i+d=l.length→d < c→n≤L.length→n≤i+1→out.length≤i→KS (l.drop i) (ic n,most)=some st →
  DY (YL N) (DK Y1 [1,1,1,1,0,1,0,0]) pD c (RP l L n out out.length (i:Int)) (jY N)=rE (JB (l.drop i) (L.take n,out))
 | d,0,_,_,_,_,_,_,_,h,_,_,_,_=>absurd h (by omega)
 | 0,c+1,i,L,n,out,most,st,hd,_,_,_,_,_=>by
  rw [D4,Mf,I2 (by omega),DJ,CD (by omega),Yd,BO];rfl
 | d+1,c+1,i,L,n,out,most,st,hd,hc,hn,hn2,ho,hdp=>by
  have hi:i < l.length:=by omega
  rw [BE hi,KS] at hdp;rw [D4,Mf,G8 hi,DI,H7,B4,DI,H6 hi,BE hi,JB];have ei:FL ((i:Int)+1)=((i+1:Nat):Int):=HC (by omega);rw [ei];generalize l[i]=x at hdp ⊢;cases h1:N3 (ic n,most) x with
  | none=>rw [h1] at hdp; cases hdp
  | some s1=>
   rw [h1] at hdp;obtain ⟨hne,hr,hcase⟩:=nZ h1;obtain ⟨j,rfl⟩:∃ j,n=j+1:=⟨n - 1,by simp only [ic] at hne; omega⟩;have hlen:(L.take (j+1)).length=j+1:=by rw [BB]; omega
   have htop:E1 (L.take (j+1))=L.getD j default:=by
    unfold E1;rw [hlen,BV,BV,CM,BP (by omega)];rfl
   have hpop:F3 (L.take (j+1))=L.take j:=by
    unfold F3;rw [hlen,List.take_take];congr 1;omega
   have ew:KT (j+1)=(j:Int):=by
    unfold KT;rw [show ic (j+1 - 0) - 1=(j:Int) by simp only [ic]; omega];exact EH (by omega) (by omega)
   have ej:0+(KT (j+1)).toNat=j:=by rw [ew]; omega
   have ex:pX L (j+1)=E1 (L.take (j+1)):=by unfold pX; rw [ej,htop]
   have i2:(decide (0≤KT (j+1))&&decide (KT (j+1) < ic (j+1 - 0)))=true:=by rw [ew,AD (by omega),AD (by simp only [ic]; omega)]; rfl
   have i3:(decide (0≤KT (j+1))&&decide (KT (j+1)≤ic (j+1 - 0)))=true:=by rw [ew,AD (by omega),AD (by simp only [ic]; omega)]; rfl
   have et:D0 (L.take (j+1))=D7 (E1 (L.take (j+1))):=rfl;rw [i2,DI,i3,DI,ej,ex];unfold OA;simp only [hpop,et];generalize E1 (L.take (j+1))=y;rcases hcase with ⟨hs,rfl⟩ | ⟨hs,rfl⟩
   ·rw [hs,DI,DI,AD (show (out.length+1)*80≤EE by unfold EE; omega),DI,BO]
    have:=rG N l hl d c (i+1) L j (out++[(D7 y).I]) most st (by omega) (by omega) (by omega) (by omega) (by simp only [AT,AM,A6]; omega) (by rw [show ic j=ic (j+1) - 1 by simp only [ic]; omega]; exact hdp)
    rw [show (out++[(D7 y).I]).length=out.length+1 by simp] at this;exact this
   ·have hpl:=rW hr hs;obtain ⟨a,ha⟩:∃ a:Nat,E9 x=(a:Int):=⟨(E9 x).toNat,by omega⟩;have ha5:a < 5:=by omega
    rw [hs,DJ,DJ,Fq ha ha5,Fq ha ha5];have eg:=Tz y ha5;rw [show (E9 x).toNat=a by omega,eg];show cond (decide (FP x < cI y (2*a))) _ _=rE (match cond (decide (FP x < cI y (2*a))||decide (FP x≥cI y (2*a+1))) none _ with | some st'=>JB (l.drop (i+1)) st' | none=>none);cases decide (FP x < cI y (2*a)) with
    | true=>rw [DI,Ae,Bool.true_or,DI]; rfl
    | false=>
     rw [DJ,vaz];cases decide (FP x≥cI y (2*a+1)) with
     | true=>rw [DI,Ae,DI]; rfl
     | false=>
      have hin:H8 (E9 x)=true:=by unfold H8; rw [AD hpl.1,AD (by omega)]; rfl
      rw [DJ,DJ,hin,DI,AD (show (j+2)*80≤EE by unfold EE; omega),DI];have e2:∀ v1 v2:IV,(L.take j++[v1,v2]).take (j+2)=L.take j++[v1,v2]:=fun v1 v2=>CV (by simp only [AT,BB,AM,A6]; omega)
      have:=rG N l hl d c (i+1) (L.take j++[((D7 y).cutH (E9 x) (FP x)).I,((D7 y).cutL (E9 x) (FP x)).I]) (j+2) out (max most (ic (j+1)+1)) st (by omega) (by omega) (by simp only [AT,BB,AM,A6]; omega) (by omega) (by omega) (by rw [show ic (j+2)=ic (j+1)+1 by simp only [ic]; omega]; exact hdp)
      rw [e2] at this;exact this
theorem zhQ:DX PR B0 67 cV:=by
 refine D6 [(111,PO),(110,cU)] [(6,⟨[4,5,6,7,19,20,21],[500,501],[⟨.tmp 6,500,36,true,E6⟩,⟨.tmp 7,501,36,true,E6⟩]⟩)] cV [[.list true [.z,.z,.z,.z,.z,.z,.z,.z,.z,.z]],[.bool]] Tryz.func67 zbk ⟨lD,zhP,trivial⟩ ?_;intro vs r hwf h;unfold cV at h;split at h
 ·rename_i b l;replace h:=JS h;obtain ⟨b,rfl,h⟩:=h;rw [R.get_br] at h;refine ⟨l.length+1,(zeb (l.length+1) l b).trans ?_⟩;cases hd:decide (LW l > 0) with
  | false=>
   have e:LE b l=none:=by unfold LE; rw [hd,DJ]
   rw [e] at h;rw [A7,DI];exact h
  | true=>
   obtain ⟨st,hst⟩:=zN (A1 hd);have hl:l.length≤65536:=by
    have:=A1 hd
    unfold LW at this;by_cases hc:ic l.length > 65536
    ·rw [AD hc,DI] at this; omega
    ·simp only [ic] at hc; omega
   have run:=rG (l.length+1) l hl l.length (l.length+1) 0 [b.I] 1 [] 1 st (by omega) (by omega) (AZ _) (by omega) (AZ _) hst;rw [BY] at run;have e:LE b l=(JB l ([b.I],[])).map (·.2):=by unfold LE; rw [hd,DI]
   rw [A3,DJ];refine Eq.trans run ?_;show rE (JB l ([b.I],[]))=_;rw [e] at h;cases hp:JB l ([b.I],[]) with
   | none=>rw [hp] at h; exact h
   | some lo=>rw [hp] at h; exact h
 ·simp [R.get] at h
open Go Go.Proofs
theorem nG (N:Nat) (ts:LI) (b:Bx) (k:Int) (hts:ts.length≤8) (hT:∀ t∈ts,GV (FE t) 4=true) (hb:F2 b=true):∀ (m i n:Nat) (lo hi:Int),i+m=ts.length→m < n→(-2147483648*(i+1)≤lo∧lo≤2147483648*(i+1))→(-2147483648*(i+1)≤hi∧hi≤2147483648*(i+1)) →
  DY (GY N) (DK IQ [1,1,1,0,1,0,0]) ⟨[1,5,6,7,8,9,40,41,42],[5],[]⟩ n ⟨[(1,(.int .i64 k)),(5,(.ptr 5 0 0)),(6,(.int .i64 0)),(7,(.int .i64 0)),(8,(.int .i64 lo)),(9,(.int .i64 hi)),(40,(.list true MO ts)),(41,(.int .i64 (ic ts.length))),(42,(.int .i64 (i:Int)))],[(5,(some (.box (Bx.cs b))))]⟩ (DQ 0 (DS (GY N) (DK IQ [1,1,1,1]) (DT (GY N) none [(CF 6),(CF 7)] [[.z],[.z]]))) =
   some (.tup [.int .i64 (I5 (fun l=>IB l b) k (ts.drop i) lo),.int .i64 (I5 (fun l=>IA l b) k (ts.drop i) hi)],[])
 | m,i,0,_,_,_,h,_,_=>absurd h (by omega)
 | 0,i,n+1,lo,hi,hd,_,_,_=>by
  have hlt:i=ts.length:=by omega
  subst hlt;rw [D4,Lj,I2 (AZ _),DJ,vaD];exact Wz N b _ _ _ _ _ _ _ _
 | m+1,i,n+1,lo,hi,hd,hn,h1,h2=>by
  have hlt:i < ts.length:=by omega
  have ei:AA AB ((i:Int)+1)=((i+1:Nat):Int):=HC (by omega);rw [D4,Lj,ei,G8 hlt,DI,H7,B4,DI,H6 hlt,BE hlt,I5,I5];obtain ⟨q1,q2⟩:=lP (FE ts[i]) b;have q1:=NB q1;have q2:=NB q2;have hti:GV (IV.toList (IV.cell ts[i] 1)) 4=true:=hT _ (CX hlt);cases ((ts[i].cell 0).toInt==k) with
  | true=>
   rw [DI,DI,DI,hti,hb,B4,DI];have ew:AA AB (lo+IB (FE ts[i]) b)=lo+IB (FE ts[i]) b:=EH (by omega) (by omega);have ew2:AA AB (hi+IA (FE ts[i]) b)=hi+IA (FE ts[i]) b:=EH (by omega) (by omega);have ih:=nG N ts b k hts hT hb m (i+1) n (lo+IB (FE ts[i]) b) (hi+IA (FE ts[i]) b) (by omega) (by omega) (by omega) (by omega);rw [← ew,← ew2] at ih;refine Eq.trans ih ?_;rw [ew,ew2]
  | false=>
   rw [DJ,DJ,DJ];exact nG N ts b k hts hT hb m (i+1) n lo hi (by omega) (by omega) (by omega) (by omega)
theorem zhc:DX PR B0 113 bN:=by
 refine D6 [(112,K2),(158,bO),(53,MH)] [(5,⟨[1,5,6,7,8,9,40,41,42],[5],[]⟩)] bN [[.z],[.z]] Tryz.func113 zau ⟨XY,zhd,Z6,trivial⟩ ?_;intro vs r hwf h;unfold bN at h;split at h
 ·rename_i m k b;replace h:=J7 h;obtain ⟨m,rfl,h⟩:=h;replace h:=JS h;obtain ⟨b,rfl,h⟩:=h;cases hg:(b.emp||F2 b) with
  | false=>rw [hg] at h; simp [R.get] at h
  | true=>
  rw [hg,R.get_br,DI,R.get_ok] at h;refine ⟨10,?_⟩;rw [← h];refine (zdk 10 m k b).trans ?_;unfold EA D8 G4;cases hm:EW m with
  | false=>rfl
  | true=>
   rw [A3,DJ];cases h0:decide (k < 0) with
   | true=>
    have:ID m k=false:=by unfold ID; rw [AL (show ¬ 0≤k by have:=A1 h0; omega)]; rfl
    rw [this];rfl
   | false=>
    rw [DJ];cases h1:decide (k≥m.c) with
    | true=>
     have:ID m k=false:=by unfold ID; rw [AL (show ¬ k < m.c by have:=A1 h1; omega),vaf]
     rw [this];rfl
    | false=>
     have hc:ID m k=true:=by unfold ID; rw [AD (show 0≤k by have:=BH h0; omega),AD (show k < m.c by have:=BH h1; omega)]; rfl
     rw [DJ,hc];cases he:b.emp with
     | true=>rfl
     | false=>
      rw [he,vaz] at hg;have hb:=iL hm k;have run:=nG 10 m.ts b k (L5 hm).2.2.1 (fun t ht=>aC hm ht) hg m.ts.length 0 10 (LQ m k) (LQ m k) (by omega) (by have:=(L5 hm).2.2.1; omega) (by omega) (by omega);rw [DJ];rcases nK hm hc with rfl | rfl | rfl <;> exact run
 ·simp [R.get] at h
theorem sH (N:Nat) (m:Md) (q:Qy) (b:Bx) (hb:(b.emp||F2 b)=true):∀ (d i n:Nat),((i+d:Nat):Int)=m.c→d < n→m.c < 1000 →
  DY (LM N) (DK NY [1,1,1,0,1,0,1,1,1,0,0,1,0,0]) ⟨[3,4,5,6,7,42,43],[3,4,5],[]⟩ n ⟨[(3,(.ptr 3 0 0)),(4,(.ptr 4 0 0)),(5,(.ptr 5 0 0)),(6,(.bool false)),(7,(.int .i64 (EA m q.c b))),(42,(.int .i64 m.c)),(43,(.int .i64 (i:Int)))],[(3,(some (.box (Md.cs m)))),(4,(some (.box (Qy.cs q)))),(5,(some (.box (Bx.cs b))))]⟩ (DQ 1 (DS (LM N) (DK NY [1,1,1,0,1,0,1,1,1,0,1]) (DQ 0 (DS (LM N) (DK NY [1,1,1,1]) (DT (LM N) none [(CF 6)] [[.bool]])))))=some (.bool (WS m q b d i),[])
 | d,i,0,_,h,_=>absurd h (by omega)
 | 0,i,n+1,hd,_,_=>by
  rw [D4,Lk,AL (show ¬ (i:Int) < m.c by omega),DJ];exact Xa N m q b _ _ _ _
 | d+1,i,n+1,hd,hn,hc=>by
  have ei:AA AB ((i:Int)+1)=((i+1:Nat):Int):=HC (by omega);rw [D4,Lk,ei,AD (show (i:Int) < m.c by omega),DI,hb,DI,WS];have en:((i:Int) != q.c)=!((i:Int)==q.c):=rfl;rw [en];cases ((i:Int)==q.c) with
  | true=>
   rw [A3,DJ,BL,DJ];exact sH N m q b hb d (i+1) n (by omega) (by omega) hc
  | false=>
   rw [A7,DI,BC];cases decide (D8 m (i:Int) b≥EA m q.c b) with
   | true=>
    rw [DI,DI];exact Xb N m q b _ _ _ _
   | false=>
    rw [DJ,DJ];exact sH N m q b hb d (i+1) n (by omega) (by omega) hc
theorem zhe:DX PR B0 68 bP:=by
 refine D6 [(112,K2),(113,bN)] [(9,⟨[3,4,5,6,7,42,43],[3,4,5],[]⟩)] bP [[.bool]] Tryz.func68 zaw ⟨XY,zhc,trivial⟩ ?_;intro vs r hwf h;unfold bP at h;split at h
 ·rename_i m q b;replace h:=J7 h;obtain ⟨m,rfl,h⟩:=h;replace h:=KK h;obtain ⟨q,rfl,h⟩:=h;replace h:=JS h;obtain ⟨b,rfl,h⟩:=h;cases hg:(FG m q&&(b.emp||F2 b)) with
  | false=>rw [hg] at h; simp [R.get] at h
  | true=>
  rw [hg,R.get_br,DI,R.get_ok] at h;rw [AI] at hg;obtain ⟨hr,hb⟩:=hg;have hb':b.emp=true∨b.good:=by
   rw [vap] at hb;exact hb.imp id ZF.1
  refine ⟨1000,?_⟩;rw [← h,← zgO hr hb'];refine (zdl 1000 m q b).trans ?_;obtain ⟨hm,_,_,_,hk⟩:=XT hr;unfold sG;cases he:b.emp with
  | true=>rfl
  | false=>
   have hgd:F2 b=true:=by rw [he,vaz] at hb; exact hb
   rw [DJ,DJ,hgd,vaz,DI];rcases j4 hk with ⟨e,_⟩ | ⟨e,h2,_⟩ | ⟨e,hf,_⟩
   ·rw [e];show cond (decide (q.lo≤EA m q.c b)) (some (V.bool (decide (D8 m q.c b≤q.hi)),[])) (some (V.bool false,[]))=some (V.bool (decide (q.lo≤EA m q.c b)&&decide (D8 m q.c b≤q.hi)),[]);cases decide (q.lo≤EA m q.c b) <;> rfl
   ·rw [e];have hc:=(L5 hm).2.1;exact sH 1000 m q b (by rw [he,hgd]; rfl) m.c.toNat 0 1000 (by omega) (by omega) (by omega)
   ·rw [e];have hp:=qQ hm e hf;have hg2:F2 (KX q b)=true:=ZF.2 (U0 (ZF.1 hgd) ((ZF.1 hgd) 4 (by omega)) (by rcases RO hp with e | e | e | e <;> rw [e] <;> decide));have fin:(cond (decide ((b.g q.ft.toNat).lo≥b.s4.hi)) (some (V.bool true,[])) (cond ((KX q b).emp||F2 (KX q b)) (cond q.fl (some (V.bool (decide (D8 m q.c (KX q b)≤EA m q.c b)),[])) (some (V.bool (decide (EA m q.c (KX q b)≥D8 m q.c b)),[]))) none):DO) =
      some (V.bool (cond (decide ((b.g q.ft.toNat).lo≥b.s4.hi)) true (cond q.fl (decide (D8 m q.c (KX q b)≤EA m q.c b)) (decide (EA m q.c (KX q b)≥D8 m q.c b)))),[]):=by
     rw [hg2,Bool.or_true,DI];cases decide ((b.g q.ft.toNat).lo≥b.s4.hi) <;> cases q.fl <;> rfl
    refine Eq.trans ?_ fin;unfold KX;rcases RO hp with e | e | e | e <;> rw [e] <;> rfl
 ·simp [R.get] at h
theorem Gf (N:Nat) (m:Md) (q:Qy) (hr:FG m q=true) (l:LI) (hl:l.length < 100000) (hg:∀ y∈l,(D7 y).good):∀ (d i n:Nat),i+d=l.length→d < n →
  DY (JU N) (DK LU [1,1,1,0,1,0,1,0,1,0,1,0,0]) ⟨[3,4,6,9,29,30,31],[3,4],[]⟩ n ⟨[(3,(.ptr 3 0 0)),(4,(.ptr 4 0 0)),(6,(.bool false)),(9,(.bool true)),(29,(.list true E6 l)),(30,(.int .i64 (ic l.length))),(31,(.int .i64 (i:Int)))],[(3,(some (.box (Md.cs m)))),(4,(some (.box (Qy.cs q))))]⟩ (DQ 1 (DS (JU N) (DK LU [1,1,1,0,1,0,1,0,1,1]) (DQ 0 (DS (JU N) (DK LU [1,1,1,1]) (DT (JU N) none [(CF 6)] [[.bool]]))))) =
   some (.bool ((l.drop i).all fun x=>GQ m q (D7 x)),[])
 | d,i,0,_,h=>absurd h (by omega)
 | 0,i,n+1,hd,_=>by
  rw [D4,tD,I2 (by omega),DJ,CD (by omega)];exact Ad N m q _ _ l _ _
 | d+1,i,n+1,hd,hn=>by
  have hi:i < l.length:=by omega
  have hgi:=hg _ (CX hi);rw [D4,tD,G8 hi,DI,H7,B4,DI,HC (by omega),H6 hi,BE hi,vaA,hr,ZF.2 hgi,Bool.or_true,B4,DI];cases GQ m q (D7 l[i]) with
  | false=>
   rw [A7,DI];exact Wy N m q _ _ l _ _
  | true=>
   rw [A3,DJ,BC];exact Gf N m q hr l hl hg d (i+1) n (by omega) (by omega)
theorem zfQ {b:Bx} {l outs:LI} (h:LE b l=some outs):outs.length≤65536:=by
 have key:∀ {l:LI} {st lo:LI × LI},JB l st=some lo→lo.2.length≤st.2.length+l.length:=by
  intro l
  induction l with
  | nil=>intro st lo h; obtain rfl:=CS h; exact AZ _
  | cons x l ih=>
   intro st lo h;rw [JB] at h;cases h1:OA st x with
   | none=>rw [h1] at h; cases h
   | some s1=>
    rw [h1] at h
    have:=ih h
    have h2:s1.2.length≤st.2.length+1:=by
     unfold OA at h1;cases hs:GS x with
     | true=>rw [hs] at h1; obtain rfl:=CS h1; simp
     | false=>
      rw [hs,DJ] at h1;cases hc:(decide (FP x < ((D0 st.1).g (E9 x).toNat).lo)||decide (FP x≥((D0 st.1).g (E9 x).toNat).hi)) with
      | true=>rw [hc] at h1; cases h1
      | false=>rw [hc] at h1; obtain rfl:=CS h1; exact Nat.le_succ _
    simp only [AM];omega
 unfold LE at h;cases hd:decide (LW l > 0) with
 | false=>rw [hd,DJ] at h; cases h
 | true=>
  rw [hd,DI] at h;have hl:l.length≤65536:=by
   have:=A1 hd
   unfold LW at this;by_cases hc:ic l.length > 65536
   ·rw [AD hc,DI] at this; omega
   ·simp only [ic] at hc; omega
  cases hp:JB l ([b.I],[]) with
  | none=>rw [hp] at h; cases h
  | some lo=>
   rw [hp] at h;obtain rfl:=CS h
   have:=key hp
   simp only [A6] at this;show lo.2.length≤65536;omega
theorem Jf:DX PR B0 26 V5:=by
 refine D6 [(69,bE),(68,bP),(67,cV),(70,WE),(65,NV),(66,WF)] [(8,⟨[3,4,6,9,29,30,31],[3,4],[]⟩)] V5 [[.bool]] Tryz.func26 zat ⟨zg4,zhe,zhQ,Jr,gF,Js,trivial⟩ ?_;intro vs r hwf h;unfold V5 at h;split at h
 ·rename_i m q v;replace h:=J7 h;obtain ⟨m,rfl,h⟩:=h;replace h:=KK h;obtain ⟨q,rfl,h⟩:=h;replace h:=zjm h;obtain ⟨v,rfl,h⟩:=h;rw [R.get_ok] at h;refine ⟨70000,?_⟩;rw [← h];refine (zdj 70000 m q v).trans ?_;unfold O9;cases hr:FG m q with
  | false=>rfl
  | true=>
   rw [A3,DJ,BC];cases v.kind==1 with
   | true=>
    rw [DI,DI];cases hp:LE (GJ q) v.proof with
    | none=>
     show cond false _ _=_;rw [DJ,D4,tD];exact Ad 70000 m q _ _ [] _ _
    | some l=>
     show cond true _ _=_;rw [DI];have hl:=zfQ hp
     have:=Gf 70000 m q hr l (by omega) (zfP (tG hr) hp) l.length 0 70000 (by omega) (by omega)
     rw [BY] at this;exact this
   | false=>
    rw [DJ,DJ];cases v.kind==2 with
    | false=>rfl
    | true=>
     rw [DI,DI];show cond ((GJ q).has v.p v.twin) (some (V.bool (HJ m q v.p v.twin),[])) (some (V.bool false,[]))=some (V.bool ((GJ q).has v.p v.twin&&HJ m q v.p v.twin),[]);cases (GJ q).has v.p v.twin <;> rfl
 ·simp [R.get] at h
open Go Go.Proofs
def QU (N:Nat):Env:=D5 [] [(4,⟨[2,13,14,15],[],[]⟩)] 37 N
abbrev OJ (b2:Bool) (l13:LI) (x14 x15:Int):St:=⟨[(2,(.bool b2)),(13,(.list true [.bool,.z,.z] l13)),(14,(.i x14)),(15,(.i x15))],[]⟩
theorem zdi (N:Nat) (l:LI):DZ (QU N) UE [.tmp 2] [[.bool]] [.list true [.bool,.z,.z] l]=(cond (decide (ic (AF l) < 1)) (some ((.bool false),[])) (cond (decide (ic (AF l) > 65536)) (some ((.bool false),[])) (DY (QU N) (DK UE [1,1,0,1,0,0]) ⟨[2,13,14,15],[],[]⟩ N (OJ false l (ic (AF l)) 0) (DQ 0 (DS (QU N) (DK UE [1,1,1]) (DT (QU N) none [.tmp 2] [[.bool]])))))):=by kernel_rfl
theorem Li (N:Nat) (b2:Bool) (l13:LI) (x14 x15:Int) (again:St→DO) (k:Out→St→DO):EZ (QU N) (DK UE [1,1,0,1,0,0]) (OJ b2 l13 x14 x15) (EN again ⟨[2,13,14,15],[],[]⟩ k)=(cond (decide (x15 < x14)) (cond (decide (0≤x15)&&decide (x15 < ic (AF l13))) (cond (IV.toBool (IV.cell (AH l13 (AE x15) default) 0)) (cond (! (IV.toBool (IV.cell (AH l13 (AE x15) default) 0)==true&&(IV.toInt (IV.cell (AH l13 (AE x15) default) 1)==0&&(IV.toInt (IV.cell (AH l13 (AE x15) default) 2)==0&&true)))) (k .ret (OJ false l13 x14 x15)) (cond (decide (IV.toInt (IV.cell (AH l13 (AE x15) default) 1) < 0)) (k .ret (OJ false l13 x14 x15)) (cond (decide (IV.toInt (IV.cell (AH l13 (AE x15) default) 1) > 4)) (k .ret (OJ false l13 x14 x15)) (again (OJ b2 l13 x14 (AA AB (x15+1))))))) (cond (decide (IV.toInt (IV.cell (AH l13 (AE x15) default) 1) < 0)) (k .ret (OJ false l13 x14 x15)) (cond (decide (IV.toInt (IV.cell (AH l13 (AE x15) default) 1) > 4)) (k .ret (OJ false l13 x14 x15)) (again (OJ b2 l13 x14 (AA AB (x15+1))))))) none) (k (.exit 0) (OJ b2 l13 x14 x15))):=by kernel_rfl
theorem Ww (N:Nat) (b2:Bool) (l13:LI) (x14 x15:Int):(DQ 0 (DS (QU N) (DK UE [1,1,1]) (DT (QU N) none [.tmp 2] [[.bool]]))) (.exit 0) (OJ b2 l13 x14 x15)=(some ((.bool true),[])):=by kernel_rfl
theorem Wx (N:Nat) (b2:Bool) (l13:LI) (x14 x15:Int):(DQ 0 (DS (QU N) (DK UE [1,1,1]) (DT (QU N) none [.tmp 2] [[.bool]]))) .ret (OJ b2 l13 x14 x15)=(some ((.bool b2),[])):=by kernel_rfl
def Pu (N:Nat):Env:=D5 [(106,bM)] [] 47 N
theorem zde (N:Nat) (u00:Int) (u01:LI) (u04 u05 u06 u07 u03 u02:Int):DZ (Pu N) wK [.tmp 2] [[.bool]] [.agg [.i u00,.list true [.bool,.z,.z] u01,.i u04,.i u05,.i u06,.i u07,.i u03,.i u02]]=(cond (decide (u02 < 0)) (some ((.bool false),[])) (cond (decide (u02 > 65536)) (some ((.bool false),[])) (cond (u04==0&&(u05==0&&(u06==0&&(u07==0&&true)))) (cond (u00==1) (cond (u03==0) (some ((.bool (PH u01)),[])) (some ((.bool false),[]))) (cond (u00==2) (some ((.bool (ic (AF u01)==0)),[])) (cond (u00==3) (cond (u03==0) (some ((.bool (ic (AF u01)==0)),[])) (some ((.bool false),[]))) (cond (u00==4) (cond (u03==0) (some ((.bool (ic (AF u01)==0)),[])) (some ((.bool false),[]))) (some ((.bool false),[])))))) (cond (u00==1) (some ((.bool false),[])) (cond (u00==2) (some ((.bool (ic (AF u01)==0)),[])) (cond (u00==3) (some ((.bool false),[])) (cond (u00==4) (some ((.bool false),[])) (some ((.bool false),[]))))))))):=by kernel_rfl
def TW (N:Nat):Env:=D5 [(43,OO),(97,YN),(60,T3)] [(2,⟨[0,11,12,13],[900000],[]⟩)] 26 N
abbrev aM (l11:LI) (x12 x13:Int) (u00:BA):St:=⟨[(0,(.ptr 900000 0 0)),(11,(.list false [.z] l11)),(12,(.i x12)),(13,(.i x13))],[(900000,(some (.bld u00)))]⟩
theorem zdf (N:Nat) (b word:BA) (l:LI):DZ (TW N) WU [] [] [.bor [.bld b],.str word,.list false [.z] l]=(cond (decide (AG b+AG word≤strMax)) (DY (TW N) (DK WU [1,0,1,0,0]) ⟨[0,11,12,13],[900000],[]⟩ N (aM l (ic (AF l)) 0 (b++word)) (DQ 0 (DS (TW N) (DK WU [1,1]) (DT (TW N) (some [.bld b]) [] [])))) none):=by kernel_rfl
theorem Lh (N:Nat) (l11:LI) (x12 x13:Int) (u00:BA) (again:St→DO) (k:Out→St→DO):EZ (TW N) (DK WU [1,0,1,0,0]) (aM l11 x12 x13 u00) (EN again ⟨[0,11,12,13],[900000],[]⟩ k)=(cond (decide (x13 < x12)) (cond (decide (0≤x13)&&decide (x13 < ic (AF l11))) (cond (decide (AG u00+1≤strMax)) (cond (decide (AG (ByteArray.push u00 (M6 32))+AG (DP (IV.toInt (AH l11 (AE x13) default)))≤strMax)) (again (aM l11 x12 (AA AB (x13+1)) (ByteArray.push u00 (M6 32)++DP (IV.toInt (AH l11 (AE x13) default))))) none) none) none) (k (.exit 0) (aM l11 x12 x13 u00))):=by kernel_rfl
theorem Wt (N:Nat) (b:BA) (l11:LI) (x12 x13:Int) (u00:BA):(DQ 0 (DS (TW N) (DK WU [1,1]) (DT (TW N) (some [.bld b]) [] []))) (.exit 0) (aM l11 x12 x13 u00)=(cond (decide (AG u00+1≤strMax)) (some ((.tup []),[[.bld (ByteArray.push u00 (M6 10))]])) none):=by kernel_rfl
def Pv (N:Nat):Env:=D5 [(90,Q0)] [] 20 N
theorem zdg (N:Nat) (l:LI) (i:Int):DZ (Pv N) wL [.tmp 4] [[.z]] [.list false [.str] l,.i i]=(cond (decide (i≥ic (AF l))) (some ((.i 0),[])) (cond (decide (0≤i)&&decide (i < ic (AF l))) (some ((.i (FF (IV.toStr (AH l (AE i) default)))),[])) none)):=by kernel_rfl
open Go Go.Proofs
theorem Ms (N:Nat) (l:LI) (K:Out→St→DO) (hl:l.length≤65536)
  (hx:∀ b2 x14 x15,K (.exit 0) ⟨[(2,(.bool b2)),(13,(.list true [.bool,.z,.z] l)),(14,(.int .i64 x14)),(15,(.int .i64 x15))],[]⟩=some (.bool true,[]))
  (hr:∀ b2 x14 x15,K .ret ⟨[(2,(.bool b2)),(13,(.list true [.bool,.z,.z] l)),(14,(.int .i64 x14)),(15,(.int .i64 x15))],[]⟩=some (.bool b2,[])) :
  ∀ (d i n:Nat),i+d=l.length→d < n→DY (QU N) (DK UE [1,1,0,1,0,0]) ⟨[2,13,14,15],[],[]⟩ n ⟨[(2,(.bool false)),(13,(.list true [.bool,.z,.z] l)),(14,(.int .i64 (ic l.length))),(15,(.int .i64 (i:Int)))],[]⟩ K=some (.bool ((l.drop i).all PG),[])
 | 0,i,n+1,hd,_=>by
  rw [D4,Li];rw [I2 (by omega),CD (by omega)];simp only [A9,List.all_nil];exact hx ..
 | d+1,i,n+1,hd,hn=>by
  rw [D4,Li];have hi:i < l.length:=by omega
  rw [G8 hi,H7,HC (by omega),H6 hi,BE hi,vaA];generalize l[i]=x;have ih:=Ms N l K hl hx hr d (i+1) n (by omega) (by omega);rw [ih];generalize (AS (i+1) l).all PG=rest;unfold PG GS E9 FP;simp only [BJ,B2,nU,nV,T7];cases hs:IV.toBool (IV.cell x 0) <;> cases hp0:decide (IV.toInt (IV.cell x 1) < 0) <;> cases hp4:decide (4 < IV.toInt (IV.cell x 1)) <;> cases hz:decide (IV.toInt (IV.cell x 1)=0) <;> cases ha:decide (IV.toInt (IV.cell x 2)=0) <;>
   (simp only [BJ,A9,A3,A7,B2,vaf,BC,BL,DA,hr]
    try rfl)
 | 0,_,0,_,h=>by omega
 | _+1,_,0,_,h=>by omega
theorem zhb:DX PR B0 106 bM:=by
 refine D6 [] [(4,⟨[2,13,14,15],[],[]⟩)] bM [[.bool]] Tryz.func106 zas trivial ?_;intro vs r hwf h;unfold bM at h;split at h
 ·rename_i l;refine ⟨l.length+1,?_⟩;rw [← h];refine (zdi (l.length+1) l).trans ?_;simp only [R.get_ok];unfold PH;by_cases h1:l.length < 1
  ·have e1:decide (ic l.length < 1)=true:=AD (by show ((l.length:Nat):Int) < 1; omega);have e2:decide (1≤l.length)=false:=AL (by omega);rw [e1,e2]; rfl
  ·have e1:decide (ic l.length < 1)=false:=AL (by show ¬ ((l.length:Nat):Int) < 1; omega);have e2:decide (1≤l.length)=true:=AD (by omega);rw [e1,e2];simp only [A9,BC];by_cases h3:l.length≤65536
   ·have e3:decide (ic l.length > 65536)=false:=AL (by show ¬ ((l.length:Nat):Int) > 65536; omega);have e4:decide (l.length≤65536)=true:=AD h3;rw [e3,e4];simp only [A9,BC]
    have:=Ms (l.length+1) l _ h3 (fun b2 x14 x15=>Ww (l.length+1) b2 l x14 x15) (fun b2 x14 x15=>Wx (l.length+1) b2 l x14 x15) l.length 0 (l.length+1) (by omega) (by omega)
    rw [BY] at this;exact this
   ·have e3:decide (ic l.length > 65536)=true:=AD (by show ((l.length:Nat):Int) > 65536; omega);have e4:decide (l.length≤65536)=false:=AL h3;rw [e3,e4]; rfl
 ·simp [R.get] at h
theorem zcr (l:LI):(ic l.length==0)=l.isEmpty:=by
 cases l with
 | nil=>rfl
 | cons a l=>
  simp only [ic,List.isEmpty_cons,AM];rw [A4];omega
theorem zg7:DX PR B0 62 bI:=by
 refine D6 [(106,bM)] [] bI [[.bool]] Tryz.func62 zao ⟨zhb,trivial⟩ ?_;intro vs r hwf h;unfold bI at h;split at h
 ·rename_i k p a b c d t s;refine ⟨0,?_⟩;rw [← h];refine (zde 0 k p a b c d t s).trans ?_;simp only [R.get_ok,zcr];unfold Vd.right Vd.bare;simp only [nU,nV,B2];generalize PH p=sp;generalize p.isEmpty=pe;cases decide (s < 0) <;> cases decide (65536 < s) <;> simp only [BJ,A9,A3,A7,BC,BL]
  by_cases k1:k=1
  ·subst k1;cases a==0 <;> cases b==0 <;> cases c==0 <;> cases d==0 <;> cases t==0 <;> cases sp <;> cases pe <;> rfl
  by_cases k2:k=2
  ·subst k2;cases a==0 <;> cases b==0 <;> cases c==0 <;> cases d==0 <;> cases t==0 <;> cases sp <;> cases pe <;> rfl
  by_cases k3:k=3
  ·subst k3;cases a==0 <;> cases b==0 <;> cases c==0 <;> cases d==0 <;> cases t==0 <;> cases sp <;> cases pe <;> rfl
  by_cases k4:k=4
  ·subst k4;cases a==0 <;> cases b==0 <;> cases c==0 <;> cases d==0 <;> cases t==0 <;> cases sp <;> cases pe <;> rfl
  simp only [A4.2 k1,A4.2 k2,A4.2 k3,A4.2 k4,A9,BL,Bool.or_false,Bool.cond_self]
 ·simp [R.get] at h
theorem kL:∀ (l:LI) (s:BA),s.size≤(MR s l).size
 | [],s=>AZ _
 | x :: l,s=>by
  simp only [MR];refine C1 ?_ (kL l _);simp only [AU,va4];omega
theorem Cp (N:Nat) (l:LI) (K:Out→St→DO) (hl:l.length≤strMax) (z:DO)
  (hx:∀ s x12 x13,s=MR s []→K (.exit 0) ⟨[(0,(.ptr 900000 0 0)),(11,(.list false [.z] l)),(12,(.int .i64 x12)),(13,(.int .i64 x13))],[(900000,(some (.bld s)))]⟩=cond (decide (s.size+1≤strMax)) (some (.tup [],[[.bld (s.push (M6 10))]])) none) :
  ∀ (d i n:Nat) (s:BA),i+d=l.length→d < n→(MR s (l.drop i)).size≤strMax→DY (TW N) (DK WU [1,0,1,0,0]) ⟨[0,11,12,13],[900000],[]⟩ n ⟨[(0,(.ptr 900000 0 0)),(11,(.list false [.z] l)),(12,(.int .i64 (ic l.length))),(13,(.int .i64 (i:Int)))],[(900000,(some (.bld s)))]⟩ K =
   cond (decide ((MR s (l.drop i)).size+1≤strMax)) (some (.tup [],[[.bld ((MR s (l.drop i)).push (M6 10))]])) none
 | 0,i,n+1,s,hd,_,_=>by
  rw [D4,Lh,I2 (by omega),CD (by omega)];simp only [A9,MR];exact hx s _ _ rfl
 | d+1,i,n+1,s,hd,hn,hs=>by
  have hi:i < l.length:=by omega
  unfold strMax at hl;rw [D4,Lh,G8 hi,H7,HC (by omega),H6 hi];rw [BE hi] at hs ⊢;simp only [MR] at hs ⊢;have e32:M6 32=32:=rfl;rw [e32];have hsz:=kL (l.drop (i+1)) (s.push 32++DP l[i].toInt);have h1:decide (s.size+1≤strMax)=true:=AD (by
   simp only [AU,va4] at hsz;omega)
  have h2:decide ((s.push 32).size+(DP l[i].toInt).size≤strMax)=true:=AD (by
   simp only [AU] at hsz;omega)
  rw [h1,h2];simp only [BJ,B2];exact Cp N l K (by unfold strMax; omega) z hx d (i+1) n _ (by omega) (by omega) hs
 | 0,_,0,_,_,h,_=>by omega
 | _+1,_,0,_,_,h,_=>by omega
theorem zg8:DX PR B0 63 bJ:=by
 refine D6 [(43,OO),(97,YN),(60,T3)] [(2,⟨[0,11,12,13],[900000],[]⟩)] bJ [] Tryz.func63 zap ⟨gG,Jy,sV,trivial⟩ ?_;intro vs r hwf h;unfold bJ at h;split at h
 ·rename_i s w l;refine ⟨l.length+1,?_⟩;rw [← h];refine (zdf (l.length+1) s w l).trans ?_;simp only [R.get_br,R.get_ok,R.get_no];have hwf:=hwf (by simp [LB,GG]);simp only [TJ,QN,wfLs,wfL] at hwf;rw [R.get_br,R.get_ok,R.get_no] at h;cases hc:decide ((GH s w l).size≤strMax) with
  | false=>rw [hc] at h; cases h
  | true=>
   have hle:=A1 hc;unfold GH at hle ⊢;rw [va4] at hle;have h1:=kL l (s++w);have e1:decide (s.size+w.size≤strMax)=true:=AD (by rw [AU] at h1; omega);rw [e1];simp only [BJ]
   have:=Cp (l.length+1) l _ hwf.2.2.1.1 none (fun s' x12 x13 _=>Wt (l.length+1) s l x12 x13 s') l.length 0 (l.length+1) (s++w) (by omega) (by omega) (by rw [BY]; omega)
   rw [BY] at this;refine this.trans ?_;rw [AD hle];rfl
 ·simp [R.get] at h
theorem zg9:DX PR B0 105 bK:=by
 refine D6 [(90,Q0)] [] bK [[.z]] Tryz.func105 zaq ⟨lG,trivial⟩ ?_;intro vs r hwf h;unfold bK at h;split at h
 ·rename_i l i;refine ⟨0,?_⟩;rw [← h];refine (zdg 0 l i).trans ?_;simp only [R.get_br,R.get_ok,R.get_no];unfold GD;rw [R.get_br,R.get_ok,R.get_no] at h;cases hc:decide (0≤i) with
  | false=>rw [hc] at h; cases h
  | true=>
   have h0:=A1 hc;simp only [BJ,BC];have e:decide (i≥ic l.length)=decide (ic l.length≤i):=rfl;rw [e];cases h2:decide (ic l.length≤i) with
   | true=>rfl
   | false=>
    have h3:=BH h2;rw [AD (show i < ic l.length by omega)];rfl
 ·simp [R.get] at h
open Go Go.Proofs
def G6 (N:Nat):Env:=D5 [(105,bK),(104,T4),(46,M5)] [(7,⟨[2,4,7],[2,7,51],[⟨.cell 7 1,51,127,true,[.bool,.z,.z]⟩]⟩),(16,⟨[2,6,7,66],[2,7],[]⟩)] 87 N
abbrev VO (s4:BA) (u01 u02 u03 u04 u05 u06 u07 u08:Int) (u00:Nat) (u09 u0a u0b u0c u0d u0e:Int) (lo51:LI):St:=⟨[(2,(.ptr 2 0 0)),(4,(.str s4)),(7,(.ptr 7 0 0))],[(2,(some (.box [.i u01,.zs,.i u02,.i u03,.i u04,.i u05,.i u06,.i u07]))),(7,(some (.box [.i u08,.row 51 0 u00,.i u09,.i u0a,.i u0b,.i u0c,.i u0d,.i u0e]))),(51,(some (.row true 127 true EC lo51)))]⟩
abbrev TM (l6:LI) (x66 u00 u01 u02 u03 u04 u05 u06 u07 u08 u09 u0a u0b u0c u0d:Int):St:=⟨[(2,(.ptr 2 0 0)),(6,(.list false [.str] l6)),(7,(.ptr 7 0 0)),(66,(.i x66))],[(2,(some (.box [.i u00,.zs,.i u01,.i u02,.i u03,.i u04,.i u05,.i u06]))),(7,(some (.box [.i u07,.zs,.i u08,.i u09,.i u0a,.i u0b,.i u0c,.i u0d])))]⟩
theorem zdh (N:Nat) (s:BA):DZ (G6 N) H5 [.cell 2 55] [[.z,.list true [.bool,.z,.z],.z,.z,.z,.z,.z,.z]] [.str s]=(cond (decide (AG s < 4294967281)) (cond (decide (AG (cutL s {data:=#[10]}) < 4294967281)&&decide (1≤AG {data:=#[32]})) (cond (decide (0≤0)&&decide (0 < ic (AF (A2 IV.str (D2 (cutL s {data:=#[10]}) {data:=#[32]}))))) (cond (AW (IV.toStr (AH (A2 IV.str (D2 (cutL s {data:=#[10]}) {data:=#[32]})) (AE 0) default))==AW {data:=#[104,111,108,100,115]}) (DY (G6 N) (DK H5 [1,1,1,1,0,1,0,1,0,1,0,0]) ⟨[2,4,7],[2,7,51],[⟨(.cell 7 1),51,127,true,EC⟩]⟩ N (VO (FQ s {data:=#[10]}) 0 0 0 0 0 0 0 1 0 0 0 0 0 0 (GD (A2 IV.str (D2 (cutL s {data:=#[10]}) {data:=#[32]})) 1) []) (DQ 1 (DQ 0 (DS (G6 N) (DK H5 [1,1,1,1,1]) (DT (G6 N) none [.cell 2 55] [[.z,.list true EC,.z,.z,.z,.z,.z,.z]]))))) (cond (AW (IV.toStr (AH (A2 IV.str (D2 (cutL s {data:=#[10]}) {data:=#[32]})) (AE 0) default))==AW {data:=#[102,97,105,108,115]}) (DY (G6 N) (DK H5 [1,1,1,1,0,1,0,1,1,1,0,1,0,1,0,0]) ⟨[2,6,7,66],[2,7],[]⟩ N (TM (A2 IV.str (D2 (cutL s {data:=#[10]}) {data:=#[32]})) 0 0 0 0 0 0 0 0 2 0 0 0 0 0 (GD (A2 IV.str (D2 (cutL s {data:=#[10]}) {data:=#[32]})) 1)) (DQ 3 (DS (G6 N) (DK H5 [1,1,1,1,0,1,0,1,1,1,0,1,1]) (DQ 0 (DS (G6 N) (DK H5 [1,1,1,1,1]) (DT (G6 N) none [.cell 2 55] [[.z,.list true EC,.z,.z,.z,.z,.z,.z]])))))) (cond (AW (IV.toStr (AH (A2 IV.str (D2 (cutL s {data:=#[10]}) {data:=#[32]})) (AE 0) default))==AW {data:=#[117,110,107,110,111,119,110]}) (some ((.agg [.i 3,.list true EC [],.i 0,.i 0,.i 0,.i 0,.i 0,(.i (GD (A2 IV.str (D2 (cutL s {data:=#[10]}) {data:=#[32]})) 1))]),[])) (cond (AW (IV.toStr (AH (A2 IV.str (D2 (cutL s {data:=#[10]}) {data:=#[32]})) (AE 0) default))==AW {data:=#[119,114,111,110,103]}) (some ((.agg [.i 4,.list true EC [],.i 0,.i 0,.i 0,.i 0,.i 0,(.i (GD (A2 IV.str (D2 (cutL s {data:=#[10]}) {data:=#[32]})) 1))]),[])) (some ((.agg [.i 0,.list true EC [],.i 0,.i 0,.i 0,.i 0,.i 0,(.i (GD (A2 IV.str (D2 (cutL s {data:=#[10]}) {data:=#[32]})) 1))]),[])))))) none) none) none):=by kernel_rfl
theorem zir (N:Nat) (s4:BA) (u01 u02 u03 u04 u05 u06 u07 u08:Int) (u00:Nat) (u09 u0a u0b u0c u0d u0e:Int) (lo51:LI) (again:St→DO) (k:Out→St→DO):EZ (G6 N) (DK H5 [1,1,1,1,0,1,0,1,0,1,0,0]) (VO s4 u01 u02 u03 u04 u05 u06 u07 u08 u00 u09 u0a u0b u0c u0d u0e lo51) (EN again ⟨[2,4,7],[2,7,51],[⟨(.cell 7 1),51,127,true,EC⟩]⟩ k)=(cond (!AW s4==AW {data:=#[]}) (cond (decide (ic (u00 - 0)≤65536)) (cond (decide (AG s4 < 4294967281)) (cond (decide (AG (cutL s4 {data:=#[10]}) < 4294967281)&&decide (1≤AG {data:=#[32]})) (cond (decide (0≤0)&&decide (0 < ic (AF (A2 IV.str (D2 (cutL s4 {data:=#[10]}) {data:=#[32]}))))) (cond (AW (IV.toStr (AH (A2 IV.str (D2 (cutL s4 {data:=#[10]}) {data:=#[32]})) (AE 0) default))==AW {data:=#[115,117,109]}) (cond (decide ((u00+1)*24≤EE)) (again (VO (FQ s4 {data:=#[10]}) u01 u02 u03 u04 u05 u06 u07 u08 (u00+1) u09 u0a u0b u0c u0d u0e (AK u00 lo51++[IV.agg [IV.bool true,IV.int 0,IV.int 0]]))) none) (cond (decide ((u00+1)*24≤EE)) (again (VO (FQ s4 {data:=#[10]}) u01 u02 u03 u04 u05 u06 u07 u08 (u00+1) u09 u0a u0b u0c u0d u0e (AK u00 lo51++[IV.agg [IV.bool false,IV.int (GD (A2 IV.str (D2 (cutL s4 {data:=#[10]}) {data:=#[32]})) 1),IV.int (GD (A2 IV.str (D2 (cutL s4 {data:=#[10]}) {data:=#[32]})) 2)]]))) none)) none) none) none) (k (.exit 1) (VO s4 u01 u02 u03 u04 u05 u06 u07 u08 u00 u09 u0a u0b u0c u0d u0e lo51))) (k (.exit 1) (VO s4 u01 u02 u03 u04 u05 u06 u07 u08 u00 u09 u0a u0b u0c u0d u0e lo51))):=by kernel_rfl
theorem gK (N:Nat) (l6:LI) (x66 u00 u01 u02 u03 u04 u05 u06 u07 u08 u09 u0a u0b u0c u0d:Int) (again:St→DO) (k:Out→St→DO):EZ (G6 N) (DK H5 [1,1,1,1,0,1,0,1,1,1,0,1,0,1,0,0]) (TM l6 x66 u00 u01 u02 u03 u04 u05 u06 u07 u08 u09 u0a u0b u0c u0d) (EN again ⟨[2,6,7,66],[2,7],[]⟩ k)=(cond (decide (x66 < 4)) (cond (decide (0≤AA AB (2+x66))) (cond (decide (x66=ic 0)) (again (TM l6 (AA AB (x66+1)) u00 u01 u02 u03 u04 u05 u06 u07 (GD l6 (AA AB (2+x66))) u09 u0a u0b u0c u0d)) (cond (decide (x66=ic 1)) (again (TM l6 (AA AB (x66+1)) u00 u01 u02 u03 u04 u05 u06 u07 u08 (GD l6 (AA AB (2+x66))) u0a u0b u0c u0d)) (cond (decide (x66=ic 2)) (again (TM l6 (AA AB (x66+1)) u00 u01 u02 u03 u04 u05 u06 u07 u08 u09 (GD l6 (AA AB (2+x66))) u0b u0c u0d)) (cond (decide (x66=ic 3)) (again (TM l6 (AA AB (x66+1)) u00 u01 u02 u03 u04 u05 u06 u07 u08 u09 u0a (GD l6 (AA AB (2+x66))) u0c u0d)) none)))) none) (k (.exit 3) (TM l6 x66 u00 u01 u02 u03 u04 u05 u06 u07 u08 u09 u0a u0b u0c u0d))):=by kernel_rfl
theorem Wu (N:Nat) (s4:BA) (u01 u02 u03 u04 u05 u06 u07 u08:Int) (u00:Nat) (u09 u0a u0b u0c u0d u0e:Int) (lo51:LI):(DQ 1 (DQ 0 (DS (G6 N) (DK H5 [1,1,1,1,1]) (DT (G6 N) none [.cell 2 55] [[.z,.list true EC,.z,.z,.z,.z,.z,.z]])))) (.exit 1) (VO s4 u01 u02 u03 u04 u05 u06 u07 u08 u00 u09 u0a u0b u0c u0d u0e lo51)=(some ((.agg [.i u08,.list true EC (AS 0 (AK u00 lo51)),.i u09,.i u0a,.i u0b,.i u0c,.i u0d,.i u0e]),[])):=by kernel_rfl
theorem Wv (N:Nat) (l6:LI) (x66 u00 u01 u02 u03 u04 u05 u06 u07 u08 u09 u0a u0b u0c u0d:Int):(DQ 3 (DS (G6 N) (DK H5 [1,1,1,1,0,1,0,1,1,1,0,1,1]) (DQ 0 (DS (G6 N) (DK H5 [1,1,1,1,1]) (DT (G6 N) none [.cell 2 55] [[.z,.list true EC,.z,.z,.z,.z,.z,.z]]))))) (.exit 3) (TM l6 x66 u00 u01 u02 u03 u04 u05 u06 u07 u08 u09 u0a u0b u0c u0d)=(some ((.agg [.i u07,.list true EC [],.i u08,.i u09,.i u0a,.i u0b,.i (GD l6 6),.i u0d]),[])):=by kernel_rfl
def TV (N:Nat):Env:=D5 [(62,bI),(63,bJ),(56,T2)] [(9,⟨[2,3,25,26,27],[3],[]⟩)] 61 N
abbrev YF (s2:BA) (l25:LI) (x26 x27:Int) (so3:BA):St:=⟨[(2,(.str s2)),(3,(.ptr 3 0 0)),(25,(.list true EC l25)),(26,(.i x26)),(27,(.i x27))],[(3,(some (.bld so3)))]⟩
theorem zdd (N:Nat) (v:Vd):DZ (TV N) WT [.tmp 2] [[.str]] [(Vd.V v)]=(cond (!Vd.right v) (some ((.str ({data:=#[]})),[])) (cond (Vd.kind v==1) (cond (decide (AG (GH CK {data:=#[104,111,108,100,115]} [IV.int (Vd.spent v),IV.int (ic (AF (Vd.proof v)))])≤strMax)) (DY (TV N) (DK WT [1,1,1,0,1,0,1,0,1,1,0,0]) ⟨[2,3,25,26,27],[3],[]⟩ N (YF ({data:=#[]}) (Vd.proof v) (ic (AF (Vd.proof v))) 0 (GH CK {data:=#[104,111,108,100,115]} [IV.int (Vd.spent v),IV.int (ic (AF (Vd.proof v)))])) (DQ 1 (DQ 0 (DS (TV N) (DK WT [1,1,1,1]) (DT (TV N) none [.tmp 2] [[.str]]))))) none) (cond (Vd.kind v==2) (cond (decide (AG (GH CK {data:=#[102,97,105,108,115]} (AS 0 (AK (1+4+1) (AK (1+4) (AK 1 [IV.int (Vd.spent v)]++[IV.int (Vd.w0 v),IV.int (Vd.w1 v),IV.int (Vd.w2 v),IV.int (Vd.w3 v)])++[IV.int (Vd.twin v)]))))≤strMax)) (some ((.str (GH CK {data:=#[102,97,105,108,115]} (AS 0 (AK (1+4+1) (AK (1+4) (AK 1 [IV.int (Vd.spent v)]++[IV.int (Vd.w0 v),IV.int (Vd.w1 v),IV.int (Vd.w2 v),IV.int (Vd.w3 v)])++[IV.int (Vd.twin v)]))))),[])) none) (cond (Vd.kind v==3) (cond (decide (AG (GH CK {data:=#[117,110,107,110,111,119,110]} [IV.int (Vd.spent v)])≤strMax)) (some ((.str (GH CK {data:=#[117,110,107,110,111,119,110]} [IV.int (Vd.spent v)])),[])) none) (cond (decide (AG (GH CK {data:=#[119,114,111,110,103]} [IV.int (Vd.spent v)])≤strMax)) (some ((.str (GH CK {data:=#[119,114,111,110,103]} [IV.int (Vd.spent v)])),[])) none))))):=by kernel_rfl
theorem Lg (N:Nat) (s2:BA) (l25:LI) (x26 x27:Int) (so3:BA) (again:St→DO) (k:Out→St→DO):EZ (TV N) (DK WT [1,1,1,0,1,0,1,0,1,1,0,0]) (YF s2 l25 x26 x27 so3) (EN again ⟨[2,3,25,26,27],[3],[]⟩ k)=(cond (decide (x27 < x26)) (cond (decide (0≤x27)&&decide (x27 < ic (AF l25))) (cond (IV.toBool (IV.cell (AH l25 (AE x27) default) 0)) (cond (decide (AG (GH so3 {data:=#[115,117,109]} [])≤strMax)) (again (YF s2 l25 x26 (AA AB (x27+1)) (GH so3 {data:=#[115,117,109]} []))) none) (cond (decide (AG (GH so3 {data:=#[99,117,116]} [IV.int (IV.toInt (IV.cell (AH l25 (AE x27) default) 1)),IV.int (IV.toInt (IV.cell (AH l25 (AE x27) default) 2))])≤strMax)) (again (YF s2 l25 x26 (AA AB (x27+1)) (GH so3 {data:=#[99,117,116]} [IV.int (IV.toInt (IV.cell (AH l25 (AE x27) default) 1)),IV.int (IV.toInt (IV.cell (AH l25 (AE x27) default) 2))]))) none)) none) (k (.exit 1) (YF s2 l25 x26 x27 so3))):=by kernel_rfl
theorem Ws (N:Nat) (s2:BA) (l25:LI) (x26 x27:Int) (so3:BA):(DQ 1 (DQ 0 (DS (TV N) (DK WT [1,1,1,1]) (DT (TV N) none [.tmp 2] [[.str]])))) (.exit 1) (YF s2 l25 x26 x27 so3)=(some ((.str so3),[])):=by kernel_rfl
def Ps (N:Nat):Env:=D5 [(24,SC),(61,bL)] [] 17 N
theorem zdc (N:Nat) (s:BA):DZ (Ps N) wJ [.cell 2 55,.tmp 3] [[.z,.list true [.bool,.z,.z],.z,.z,.z,.z,.z,.z],[.bool]] [.str s]=(cond (decide (AG s < 4294967281)) (cond (AW s==AW {data:=#[]}) (some ((.tup [.agg [.i 0,.list true EC [],.i 0,.i 0,.i 0,.i 0,.i 0,.i 0],.bool false]),[])) (cond (decide (AG (EL (II s))≤strMax)) (cond (!AW (EL (II s))==AW s) (some ((.tup [.agg [.i 0,.list true EC [],.i 0,.i 0,.i 0,.i 0,.i 0,.i 0],.bool false]),[])) (some ((.tup [(Vd.V (II s)),.bool true]),[]))) none)) none):=by kernel_rfl
open Go Go.Proofs
theorem zij (s sep:BA) (h:1≤sep.size):0 < ((D2 s sep).map IV.str).length:=by
 rw [BG];unfold D2;rw [Lib.splitB_all sep h 0 _ s rfl];omega
theorem s8 (s:BA):decide (0 < ic (AF (A2 IV.str (D2 s VJ))))=true:=AD (by
 have:=zij s VJ (by decide)
 simp only [ic];omega)
theorem zE {s sep:BA} (h:s.size < 4294967281):decide (AG (cutL s sep) < 4294967281)=true:=AD (by
 have:=(i6 s sep).1
 omega)
theorem Vc {s:BA} (h:(s.toList==EB.toList)=false):(FQ s EP).size < s.size:=by
 have h0:0 < s.size:=by
  rcases Nat.eq_zero_or_pos s.size with e | e
  ·exfalso
   have:s=EB:=ByteArray.ext (Array.eq_empty_of_size_eq_zero e)
   rw [this] at h;simp at h
  ·exact e
 have h0:0 < s.data.toList.length:=h0;show (vaP s.data.toList EP.data.toList).2.1.toArray.size < s.data.toList.length;rw [C8];unfold vaP;split
 ·have e1:(EP.data.toList).length=1:=rfl;rw [CY,e1];omega
 ·exact h0
theorem zR:decide (1≤AG VJ)=true:=rfl
theorem Gy (N:Nat) (a0 a2 a3 a4 a5 a6 a7 b0 b2 b3 b4 b5 b6 b7:Int) (K:Out→St→DO)
  (hx:∀ s (p:LI),K (.exit 1) ⟨[(2,(.ptr 2 0 0)),(4,(.str s)),(7,(.ptr 7 0 0))],[(2,(some (.box [(.int .i64 a0),.zs,(.int .i64 a2),(.int .i64 a3),(.int .i64 a4),(.int .i64 a5),(.int .i64 a6),(.int .i64 a7)]))),(7,(some (.box [(.int .i64 b0),(.row 51 0 p.length),(.int .i64 b2),(.int .i64 b3),(.int .i64 b4),(.int .i64 b5),(.int .i64 b6),(.int .i64 b7)]))),(51,(some (.row true 127 true EC p)))]⟩=some ((.agg [(.int .i64 b0),(.list true EC (AS 0 (AK p.length p))),(.int .i64 b2),(.int .i64 b3),(.int .i64 b4),(.int .i64 b5),(.int .i64 b6),(.int .i64 b7)]),[])) :
  ∀ (m n:Nat) (s:BA) (p:LI),s.size < m→m≤n→s.size < 4294967281 →
   DY (G6 N) (DK H5 [1,1,1,1,0,1,0,1,0,1,0,0]) ⟨[2,4,7],[2,7,51],[⟨(.cell 7 1),51,127,true,EC⟩]⟩ n ⟨[(2,(.ptr 2 0 0)),(4,(.str s)),(7,(.ptr 7 0 0))],[(2,(some (.box [(.int .i64 a0),.zs,(.int .i64 a2),(.int .i64 a3),(.int .i64 a4),(.int .i64 a5),(.int .i64 a6),(.int .i64 a7)]))),(7,(some (.box [(.int .i64 b0),(.row 51 0 p.length),(.int .i64 b2),(.int .i64 b3),(.int .i64 b4),(.int .i64 b5),(.int .i64 b6),(.int .i64 b7)]))),(51,(some (.row true 127 true EC p)))]⟩ K =
   some ((.agg [(.int .i64 b0),(.list true EC (S5 m s p)),(.int .i64 b2),(.int .i64 b3),(.int .i64 b4),(.int .i64 b5),(.int .i64 b6),(.int .i64 b7)]),[])
 | m+1,n+1,s,p,hm,hn,hs=>by
  rw [D4,zir];have ep:AS 0 (AK p.length p)=p:=by rw [BY,BO]
  have e65:decide (ic (p.length - 0)≤65536)=decide (p.length≤65536):=by
   rw [va2];simp only [AQ,ic];omega
  unfold S5;rw [e65];cases h1:(s.toList==EB.toList) with
  | true=>
   simp only [A3,DJ,BL];refine (hx s p).trans ?_;rw [ep]
  | false=>
   simp only [A7,DI,BC];cases h2:decide (p.length≤65536) with
   | false=>
    simp only [DJ];refine (hx s p).trans ?_;rw [ep]
   | true=>
    have h2:=A1 h2;simp only [DI];have hlt:=Vc h1;rw [AD hs,zE hs,zR,s8];simp only [AZ,decide_true,B2,DI];rw [AD (show (p.length+1)*24≤EE by unfold EE; omega)];simp only [DI];have el:∀ x:IV,p.length+1=(p++[x]).length:=fun x=>by
     rw [AT]; rfl
    have ih:=fun x:IV=>Gy N a0 a2 a3 a4 a5 a6 a7 b0 b2 b3 b4 b5 b6 b7 K hx m n (FQ s EP) (p++[x]) (by omega) (by omega) (by omega)
    unfold ZY MD;have ez:AE 0=0:=rfl;rw [ez];unfold IE;cases h3:(AW (IV.toStr (AH (A2 IV.str (D2 (cutL s EP) VJ)) 0 default))==AW RX) with
    | true=>
     simp only [DI];rw [BO,el];exact ih _
    | false=>
     simp only [DJ];rw [BO,el];exact ih _
 | 0,_,_,_,h,_,_=>by omega
 | _+1,0,_,_,_,h,_=>by omega
theorem VI {a b c:Int} (h:AA .i64 (a+b)=c):AA .i64 (a+b)=c:=h
theorem zf7 (N n:Nat) (l:LI) (x w0 w1 w2 w3:Int) (K:Out→St→DO):DY (G6 N) (DK H5 [1,1,1,1,0,1,0,1,1,1,0,1,0,1,0,0]) ⟨[2,6,7,66],[2,7],[]⟩ (n+1) ⟨[(2,(.ptr 2 0 0)),(6,(.list false [.str] l)),(7,(.ptr 7 0 0)),(66,(.int .i64 0))],[(2,(some (.box [(.int .i64 0),.zs,(.int .i64 0),(.int .i64 0),(.int .i64 0),(.int .i64 0),(.int .i64 0),(.int .i64 0)]))),(7,(some (.box [(.int .i64 2),.zs,(.int .i64 w0),(.int .i64 w1),(.int .i64 w2),(.int .i64 w3),(.int .i64 0),(.int .i64 x)])))]⟩ K =
  DY (G6 N) (DK H5 [1,1,1,1,0,1,0,1,1,1,0,1,0,1,0,0]) ⟨[2,6,7,66],[2,7],[]⟩ n ⟨[(2,(.ptr 2 0 0)),(6,(.list false [.str] l)),(7,(.ptr 7 0 0)),(66,(.int .i64 1))],[(2,(some (.box [(.int .i64 0),.zs,(.int .i64 0),(.int .i64 0),(.int .i64 0),(.int .i64 0),(.int .i64 0),(.int .i64 0)]))),(7,(some (.box [(.int .i64 2),.zs,(.int .i64 (GD l 2)),(.int .i64 w1),(.int .i64 w2),(.int .i64 w3),(.int .i64 0),(.int .i64 x)])))]⟩ K:=by
 rw [D4,gK,VI (a:=2) (b:=0) (c:=2) rfl,VI (a:=0) (b:=1) (c:=1) rfl];simp only [show decide ((0:Int) < 4)=true from rfl,show decide ((0:Int)≤2)=true from rfl,show decide ((0:Int)=ic 0)=true from rfl,DI]
theorem zf8 (N n:Nat) (l:LI) (x w0 w1 w2 w3:Int) (K:Out→St→DO):DY (G6 N) (DK H5 [1,1,1,1,0,1,0,1,1,1,0,1,0,1,0,0]) ⟨[2,6,7,66],[2,7],[]⟩ (n+1) ⟨[(2,(.ptr 2 0 0)),(6,(.list false [.str] l)),(7,(.ptr 7 0 0)),(66,(.int .i64 1))],[(2,(some (.box [(.int .i64 0),.zs,(.int .i64 0),(.int .i64 0),(.int .i64 0),(.int .i64 0),(.int .i64 0),(.int .i64 0)]))),(7,(some (.box [(.int .i64 2),.zs,(.int .i64 w0),(.int .i64 w1),(.int .i64 w2),(.int .i64 w3),(.int .i64 0),(.int .i64 x)])))]⟩ K =
  DY (G6 N) (DK H5 [1,1,1,1,0,1,0,1,1,1,0,1,0,1,0,0]) ⟨[2,6,7,66],[2,7],[]⟩ n ⟨[(2,(.ptr 2 0 0)),(6,(.list false [.str] l)),(7,(.ptr 7 0 0)),(66,(.int .i64 2))],[(2,(some (.box [(.int .i64 0),.zs,(.int .i64 0),(.int .i64 0),(.int .i64 0),(.int .i64 0),(.int .i64 0),(.int .i64 0)]))),(7,(some (.box [(.int .i64 2),.zs,(.int .i64 w0),(.int .i64 (GD l 3)),(.int .i64 w2),(.int .i64 w3),(.int .i64 0),(.int .i64 x)])))]⟩ K:=by
 rw [D4,gK,VI (a:=2) (b:=1) (c:=3) rfl,VI (a:=1) (b:=1) (c:=2) rfl];simp only [show decide ((1:Int) < 4)=true from rfl,show decide ((0:Int)≤3)=true from rfl,show decide ((1:Int)=ic 0)=false from rfl,show decide ((1:Int)=ic 1)=true from rfl,DI,DJ]
theorem zf9 (N n:Nat) (l:LI) (x w0 w1 w2 w3:Int) (K:Out→St→DO):DY (G6 N) (DK H5 [1,1,1,1,0,1,0,1,1,1,0,1,0,1,0,0]) ⟨[2,6,7,66],[2,7],[]⟩ (n+1) ⟨[(2,(.ptr 2 0 0)),(6,(.list false [.str] l)),(7,(.ptr 7 0 0)),(66,(.int .i64 2))],[(2,(some (.box [(.int .i64 0),.zs,(.int .i64 0),(.int .i64 0),(.int .i64 0),(.int .i64 0),(.int .i64 0),(.int .i64 0)]))),(7,(some (.box [(.int .i64 2),.zs,(.int .i64 w0),(.int .i64 w1),(.int .i64 w2),(.int .i64 w3),(.int .i64 0),(.int .i64 x)])))]⟩ K =
  DY (G6 N) (DK H5 [1,1,1,1,0,1,0,1,1,1,0,1,0,1,0,0]) ⟨[2,6,7,66],[2,7],[]⟩ n ⟨[(2,(.ptr 2 0 0)),(6,(.list false [.str] l)),(7,(.ptr 7 0 0)),(66,(.int .i64 3))],[(2,(some (.box [(.int .i64 0),.zs,(.int .i64 0),(.int .i64 0),(.int .i64 0),(.int .i64 0),(.int .i64 0),(.int .i64 0)]))),(7,(some (.box [(.int .i64 2),.zs,(.int .i64 w0),(.int .i64 w1),(.int .i64 (GD l 4)),(.int .i64 w3),(.int .i64 0),(.int .i64 x)])))]⟩ K:=by
 rw [D4,gK,VI (a:=2) (b:=2) (c:=4) rfl,VI (a:=2) (b:=1) (c:=3) rfl];simp only [show decide ((2:Int) < 4)=true from rfl,show decide ((0:Int)≤4)=true from rfl,show decide ((2:Int)=ic 0)=false from rfl,show decide ((2:Int)=ic 1)=false from rfl,show decide ((2:Int)=ic 2)=true from rfl,DI,DJ]
theorem zga (N n:Nat) (l:LI) (x w0 w1 w2 w3:Int) (K:Out→St→DO):DY (G6 N) (DK H5 [1,1,1,1,0,1,0,1,1,1,0,1,0,1,0,0]) ⟨[2,6,7,66],[2,7],[]⟩ (n+1) ⟨[(2,(.ptr 2 0 0)),(6,(.list false [.str] l)),(7,(.ptr 7 0 0)),(66,(.int .i64 3))],[(2,(some (.box [(.int .i64 0),.zs,(.int .i64 0),(.int .i64 0),(.int .i64 0),(.int .i64 0),(.int .i64 0),(.int .i64 0)]))),(7,(some (.box [(.int .i64 2),.zs,(.int .i64 w0),(.int .i64 w1),(.int .i64 w2),(.int .i64 w3),(.int .i64 0),(.int .i64 x)])))]⟩ K =
  DY (G6 N) (DK H5 [1,1,1,1,0,1,0,1,1,1,0,1,0,1,0,0]) ⟨[2,6,7,66],[2,7],[]⟩ n ⟨[(2,(.ptr 2 0 0)),(6,(.list false [.str] l)),(7,(.ptr 7 0 0)),(66,(.int .i64 4))],[(2,(some (.box [(.int .i64 0),.zs,(.int .i64 0),(.int .i64 0),(.int .i64 0),(.int .i64 0),(.int .i64 0),(.int .i64 0)]))),(7,(some (.box [(.int .i64 2),.zs,(.int .i64 w0),(.int .i64 w1),(.int .i64 w2),(.int .i64 (GD l 5)),(.int .i64 0),(.int .i64 x)])))]⟩ K:=by
 rw [D4,gK,VI (a:=2) (b:=3) (c:=5) rfl,VI (a:=3) (b:=1) (c:=4) rfl];simp only [show decide ((3:Int) < 4)=true from rfl,show decide ((0:Int)≤5)=true from rfl,show decide ((3:Int)=ic 0)=false from rfl,show decide ((3:Int)=ic 1)=false from rfl,show decide ((3:Int)=ic 2)=false from rfl,show decide ((3:Int)=ic 3)=true from rfl,DI,DJ]
theorem zgb (N n:Nat) (l:LI) (x w0 w1 w2 w3:Int):DY (G6 N) (DK H5 [1,1,1,1,0,1,0,1,1,1,0,1,0,1,0,0]) ⟨[2,6,7,66],[2,7],[]⟩ (n+1) ⟨[(2,(.ptr 2 0 0)),(6,(.list false [.str] l)),(7,(.ptr 7 0 0)),(66,(.int .i64 4))],[(2,(some (.box [(.int .i64 0),.zs,(.int .i64 0),(.int .i64 0),(.int .i64 0),(.int .i64 0),(.int .i64 0),(.int .i64 0)]))),(7,(some (.box [(.int .i64 2),.zs,(.int .i64 w0),(.int .i64 w1),(.int .i64 w2),(.int .i64 w3),(.int .i64 0),(.int .i64 x)])))]⟩ (DQ 3 (DS (G6 N) (DK H5 [1,1,1,1,0,1,0,1,1,1,0,1,1]) (DQ 0 (DS (G6 N) (DK H5 [1,1,1,1,1]) (DT (G6 N) none [(va7 2 55)] [[.z,(.list true EC),.z,.z,.z,.z,.z,.z]]))))) =
  some ((.agg [(.int .i64 2),(.list true EC []),(.int .i64 w0),(.int .i64 w1),(.int .i64 w2),(.int .i64 w3),(.int .i64 (GD l 6)),(.int .i64 x)]),[]):=by
 rw [D4,gK];simp only [show decide ((4:Int) < 4)=false from rfl,DJ];exact Wv N _ _ _ _ _ _ _ _ _ _ _ _ _ _ _ _
theorem zgc (N n:Nat) (l:LI) (x:Int):DY (G6 N) (DK H5 [1,1,1,1,0,1,0,1,1,1,0,1,0,1,0,0]) ⟨[2,6,7,66],[2,7],[]⟩ (n+1+1+1+1+1) ⟨[(2,(.ptr 2 0 0)),(6,(.list false [.str] l)),(7,(.ptr 7 0 0)),(66,(.int .i64 0))],[(2,(some (.box [(.int .i64 0),.zs,(.int .i64 0),(.int .i64 0),(.int .i64 0),(.int .i64 0),(.int .i64 0),(.int .i64 0)]))),(7,(some (.box [(.int .i64 2),.zs,(.int .i64 0),(.int .i64 0),(.int .i64 0),(.int .i64 0),(.int .i64 0),(.int .i64 x)])))]⟩ (DQ 3 (DS (G6 N) (DK H5 [1,1,1,1,0,1,0,1,1,1,0,1,1]) (DQ 0 (DS (G6 N) (DK H5 [1,1,1,1,1]) (DT (G6 N) none [(va7 2 55)] [[.z,(.list true EC),.z,.z,.z,.z,.z,.z]]))))) =
  some ((.agg [(.int .i64 2),(.list true EC []),(.int .i64 (GD l 2)),(.int .i64 (GD l 3)),(.int .i64 (GD l 4)),(.int .i64 (GD l 5)),(.int .i64 (GD l 6)),(.int .i64 x)]),[]):=
 (zf7 N (n+1+1+1+1) l x 0 0 0 0 _).trans ((zf8 N (n+1+1+1) l x _ 0 0 0 _).trans ((zf9 N (n+1+1) l x _ _ 0 0 _).trans ((zga N (n+1) l x _ _ _ 0 _).trans (zgb N n l x _ _ _ _))))
theorem zha:DX PR B0 61 bL:=by
 refine D6 [(105,bK),(104,T4),(46,M5)] [(7,⟨[2,4,7],[2,7,51],[⟨.cell 7 1,51,127,true,[.bool,.z,.z]⟩]⟩),(16,⟨[2,6,7,66],[2,7],[]⟩)] bL [[.z,.list true [.bool,.z,.z],.z,.z,.z,.z,.z,.z]] Tryz.func61 zar ⟨zg9,sW,Z8,trivial⟩ ?_;intro vs r hwf h;unfold bL at h;split at h
 ·rename_i s;refine ⟨s.size+1+1+1+1+1+1,?_⟩;rw [← h];refine (zdh (s.size+1+1+1+1+1+1) s).trans ?_;simp only [R.get_br,R.get_ok,R.get_no];cases hs:decide (s.size < 4294967281) with
  | false=>rfl
  | true=>
   have hs:=A1 hs;simp only [DI];rw [zE hs,zR,s8];simp only [AZ,decide_true,B2,DI];have ez:AE 0=0:=rfl;rw [ez];unfold II MD IE;have hlt:=(i6 s EP).2;generalize A2 IV.str (D2 (cutL s EP) VJ)=l;generalize (AW (IV.toStr (AH l 0 default))==AW I0)=q1;generalize (AW (IV.toStr (AH l 0 default))==AW QK)=q2;generalize (AW (IV.toStr (AH l 0 default))==AW QL)=q3;generalize (AW (IV.toStr (AH l 0 default))==AW QM)=q4;cases q1
   ·cases q2
    ·cases q3
     ·cases q4 <;> simp only [DI,DJ]
     ·simp only [DI,DJ]
    ·simp only [DI,DJ];exact zgc _ (s.size+1) _ _
   ·simp only [DI];exact Gy _ _ _ _ _ _ _ _ _ _ _ _ _ _ _ _ (fun s' p=>Wu _ s' _ _ _ _ _ _ _ _ _ _ _ _ _ _ _ p) ((FQ s EP).size+1) _ (FQ s EP) [] (by omega) (by omega) (by omega)
 ·simp [R.get] at h
theorem Cn (s w:BA) (l:LI):s.size≤(GH s w l).size:=by
 unfold GH
 have:=kL l (s++w)
 rw [AU] at this;rw [va4];omega
theorem rB:∀ (l:LI) (s:BA),s.size≤(KV s l).size
 | [],s=>AZ _
 | x :: l,s=>by
  unfold KV;refine C1 ?_ (rB l _);cases GS x
  ·exact Cn _ _ _
  ·exact Cn _ _ _
theorem Gd (N:Nat) (l:LI) (t:BA) (K:Out→St→DO) (hl:l.length≤65536)
  (hx:∀ s x26 x27,K (.exit 1) ⟨[(2,(.str t)),(3,(.ptr 3 0 0)),(25,(.list true EC l)),(26,(.int .i64 x26)),(27,(.int .i64 x27))],[(3,(some (.bld s)))]⟩=some (.str s,[])) :
  ∀ (d i n:Nat) (s:BA),i+d=l.length→d < n→(KV s (l.drop i)).size≤strMax →
   DY (TV N) (DK WT [1,1,1,0,1,0,1,0,1,1,0,0]) ⟨[2,3,25,26,27],[3],[]⟩ n ⟨[(2,(.str t)),(3,(.ptr 3 0 0)),(25,(.list true EC l)),(26,(.int .i64 (ic l.length))),(27,(.int .i64 (i:Int)))],[(3,(some (.bld s)))]⟩ K=some (.str (KV s (l.drop i)),[])
 | 0,i,n+1,s,hd,_,_=>by
  rw [D4,Lg,I2 (by omega),CD (l:=l) (i:=i) (by omega)];simp only [DJ,KV];exact hx s _ _
 | d+1,i,n+1,s,hd,hn,hs=>by
  have hi:i < l.length:=by omega
  rw [D4,Lg,G8 hi,H7,HC (by omega),H6 hi];rw [BE hi] at hs ⊢;simp only [KV] at hs ⊢;simp only [DI,B2];have hsz:=rB (l.drop (i+1)) (cond (GS l[i]) (GH s RX []) (GH s X8 [.int (E9 l[i]),.int (FP l[i])]));have ih:=fun s' h'=>Gd N l t K hl hx d (i+1) n s' (by omega) (by omega) h'
  have es:(l[i].cell 0).toBool=GS l[i]:=rfl;rw [es];cases hc:GS l[i] with
  | true=>
   rw [hc] at hsz hs;simp only [DI] at hsz hs ⊢;rw [AD (show (GH s RX []).size≤strMax by omega)];simp only [DI];exact ih _ hs
  | false=>
   rw [hc] at hsz hs;simp only [DJ] at hsz hs ⊢;have e2:[IV.int (IV.toInt (IV.cell l[i] 1)),IV.int (IV.toInt (IV.cell l[i] 2))]=[.int (E9 l[i]),.int (FP l[i])]:=rfl;rw [e2,AD (show (GH s X8 [.int (E9 l[i]),.int (FP l[i])]).size≤strMax by omega)];simp only [DI];exact ih _ hs
 | 0,_,0,_,_,h,_=>by omega
 | _+1,_,0,_,_,h,_=>by omega
theorem zgn {v:Vd} (h:v.right=true):v.proof.length≤65536:=by
 unfold Vd.right at h;simp only [AI,vap] at h;rcases h.2.2 with h1 | h1 | h1
 ·have:=h1.2.2
  unfold PH at this;simp only [AI,AQ] at this;exact this.2.1
 ·have:=h1.2
  cases hp:v.proof with
  | nil=>simp
  | cons a b=>rw [hp] at this; cases this
 ·have:=h1.2.2
  cases hp:v.proof with
  | nil=>simp
  | cons a b=>rw [hp] at this; cases this
theorem sR:DX PR B0 24 SC:=by
 refine D6 [(62,bI),(63,bJ),(56,T2)] [(9,⟨[2,3,25,26,27],[3],[]⟩)] SC [[.str]] Tryz.func24 zan ⟨zg7,zg8,sU,trivial⟩ ?_;intro vs r hwf h;unfold SC at h;split at h
 ·rename_i k p a b c d t s;obtain ⟨v,hv⟩:∃ v:Vd,v=⟨k,p,a,b,c,d,t,s⟩:=⟨_,rfl⟩;refine ⟨v.proof.length+1,?_⟩;rw [← h];rw [← hv] at h ⊢;have hn:=zdd (v.proof.length+1) v;rw [show Vd.V v = .agg [.int .i64 k,.list true [.bool,.z,.z] p,.int .i64 a,.int .i64 b,.int .i64 c,.int .i64 d,.int .i64 t,.int .i64 s] by rw [hv]; rfl] at hn;refine hn.trans ?_;clear hn;rw [R.get_br,R.get_ok,R.get_no] at h;simp only [R.get_br,R.get_ok,R.get_no];cases hc:decide ((EL v).size≤strMax) with
  | false=>rw [hc] at h; cases h
  | true=>
   have hle:=A1 hc;simp only [DI];unfold EL at hle ⊢;cases hr:Vd.right v with
   | false=>rfl
   | true=>
    rw [hr] at hle;simp only [A3,DI,DJ] at hle ⊢;have e0:CK=EB:=rfl;simp only [e0];cases k1:v.kind==1 with
    | true=>
     rw [k1] at hle;simp only [DI] at hle ⊢;have h1:=rB v.proof (GH EB I0 [.int v.spent,.int (ic v.proof.length)]);rw [AD (show (GH EB I0 [.int v.spent,.int (ic v.proof.length)]).size≤strMax by omega)];simp only [DI]
     have:=Gd (v.proof.length+1) v.proof EB _ (zgn hr) (fun s' x26 x27=>Ws (v.proof.length+1) EB v.proof x26 x27 s') v.proof.length 0 (v.proof.length+1) (GH EB I0 [.int v.spent,.int (ic v.proof.length)]) (by omega) (by omega) (by rw [BY]; exact hle)
     rw [BY] at this;exact this
    | false=>
     rw [k1] at hle;simp only [DJ] at hle ⊢;cases k2:v.kind==2 with
     | true=>
      rw [k2] at hle;simp only [DI] at hle ⊢;have ew:(AS 0 (AK (1+4+1) (AK (1+4) (AK 1 [IV.int (Vd.spent v)]++[IV.int (Vd.w0 v),IV.int (Vd.w1 v),IV.int (Vd.w2 v),IV.int (Vd.w3 v)])++[IV.int (Vd.twin v)])))=[.int v.spent,.int v.w0,.int v.w1,.int v.w2,.int v.w3,.int v.twin]:=rfl;rw [ew,AD hle];rfl
     | false=>
      rw [k2] at hle;simp only [DJ] at hle ⊢;cases k3:v.kind==3 with
      | true=>
       rw [k3] at hle;simp only [DI] at hle ⊢;rw [AD hle];rfl
      | false=>
       rw [k3] at hle;simp only [DJ] at hle ⊢;rw [AD hle];rfl
 ·simp [R.get] at h
theorem zg6:DX PR B0 23 bH:=by
 refine D6 [(24,SC),(61,bL)] [] bH [[.z,.list true [.bool,.z,.z],.z,.z,.z,.z,.z,.z],[.bool]] Tryz.func23 zam ⟨sR,zha,trivial⟩ ?_;intro vs r hwf h;unfold bH at h;split at h
 ·rename_i s;refine ⟨0,?_⟩;rw [← h];refine (zdc 0 s).trans ?_;simp only [R.get_br,R.get_ok,R.get_no] at h ⊢;cases h1:decide (s.size < 4294967281) with
  | false=>rfl
  | true=>
   rw [h1] at h;simp only [DI] at h ⊢;cases h2:decide ((EL (II s)).size≤strMax) with
   | false=>rw [h2] at h; cases h
   | true=>
    simp only [DI];unfold J1 U1;cases h3:(s.toList==EB.toList) with
    | true=>rfl
    | false=>
     cases h4:((EL (II s)).toList==s.toList) with
     | true=>rfl
     | false=>rfl
 ·simp [R.get] at h
open Go
abbrev MC:BA:=⟨#[113,117,101,114,121,32]⟩
abbrev zjj:BA:=⟨#[109,111,100,101,108,10]⟩
def G9 (s:BA):LI:=cond (s.toList==EB.toList) [] ((D2 (GT s EP) EP).map IV.str)
def WB:DV
 | [.str s]=>.br (decide (s.size < 4294967281)) (.ok (.list false [.str] (G9 s)) []) .no
 | _=>.no
def mD:Vd:=⟨4,[],0,0,0,0,0,0⟩
def WQ (m:Md) (l:BA):Bool:=OR l&&(PU l==m.d&&FG m (GU l))
def YR (m:Md) (q:Qy):Vd:=cond ((E8 m q).kind==3||O9 m q (E8 m q)) (E8 m q) mD
def HO (m:Md) (l:BA):Vd:=cond (WQ m l) (YR m (GU l)) mD
def WA:DV
 | [m,.str l]=>JT m fun m=>.br (decide (l.size < 4294967281)) (.ok (HO m l).V []) .no
 | _=>.no
def G7 (i:Nat):BA:=(MC++DP (i:Int))++EP
def UQ (i:Int):BA:=(MC++DP i)++EP
def U4 (m:Md):BA→Nat→LI→BA
 | s,_,[]=>s
 | s,i,x :: l=>U4 m (s++G7 i++EL (HO m x.toStr)) (i+1) l
def G1 (a b:BA):BA:=cond (PI a) (U4 (IJ a) EB 0 (G9 b)) zjj
def PQ:DV
 | [.str a,.str b]=>.br (decide (a.size < 4294967281)&&(decide (b.size < 4294967281)&&decide ((G1 a b).size≤strMax))) (.ok (.str (G1 a b)) []) .no
 | _=>.no
def iC:DV
 | [.str s,.int .u8 c]=>.ok (.int .i64 (DG s.data.toList c.toNat.toUInt8)) []
 | _=>.no
def O2 (l:List UInt8):Nat→Nat→Option Nat
 | 0,at_=>some at_
 | n+1,at_=>cond (decide (DG (l.drop at_) 10 < 0)) none (O2 l n (at_+(DG (l.drop at_) 10).toNat+1))
def K5 (s:BA) (n:Int):Bool:=(O2 s.data.toList n.toNat 0).isSome
def dZ (s:BA) (n:Int):Nat:=(O2 s.data.toList n.toNat 0).getD 0
def I9 (s:BA) (n:Int):BA:=cond (K5 s n) (s.extract 0 (dZ s n)) EB
def SQ (s:BA) (n:Int):BA:=cond (K5 s n) (s.extract (dZ s n) s.size) EB
def aY:DV
 | [.str s,.int .i64 n]=>.br (decide (s.size < 4294967281)) (.ok (.tup [.str (I9 s n),.str (SQ s n),.bool (K5 s n)]) []) .no
 | _=>.no
def NF (s:BA):LI:=(D2 (GT s EP) VJ).map IV.str
def K7 (s:BA):Int:=
 cond (!((MD (NF s)).toList==I0.toList)||!(ic (NF s).length==3)) 1
  (cond (!(KM (DW (NF s) 2))||(decide (FF (DW (NF s) 2) < 0)||decide (FF (DW (NF s) 2) > 65536))) 1 (FL (1+FF (DW (NF s) 2))))
def aZ:DV
 | [.str s]=>.br (decide (s.size < 4294967281)) (.ok (.int .i64 (K7 s)) []) .no
 | _=>.no
abbrev SY:List Kd:=[.z,.list true [.bool,.z,.z],.z,.z,.z,.z,.z,.z]
def Vd.I (v:Vd):IV:=.agg [.int v.kind,.list v.proof,.int v.w0,.int v.w1,.int v.w2,.int v.w3,.int v.twin,.int v.spent]
def Oh (x:IV):Vd:=⟨cI x 0,(x.cell 1).toList,cI x 2,cI x 3,cI x 4,cI x 5,cI x 6,cI x 7⟩
def J3 (s:BA) (i:Nat):BA:=F9 s (G7 i)
def QB (s:BA) (i:Nat):BA:=I9 (J3 s i) (K7 (I9 (J3 s i) 1))
def Z1 (s:BA) (i:Nat):BA:=SQ (J3 s i) (K7 (I9 (J3 s i) 1))
def kZ (s:BA) (i:Nat):Bool:=N5 s (G7 i)&&(K5 (J3 s i) 1&&(K5 (J3 s i) (K7 (I9 (J3 s i) 1))&&U1 (QB s i)))
def TC:Nat→Nat→BA→LI→Option LI
 | 0,_,_,_=>none
 | n+1,i,s,out=>cond (s.toList==EB.toList) (some out) (cond (kZ s i) (TC n (i+1) (Z1 s i) (out++[(J1 (QB s i)).I])) none)
def RV (s:BA):Option LI:=TC (s.size+1) 0 s []
def aX:DV
 | [.str s]=>.br (decide (s.size < 4294967281)) (.br (RV s).isSome (.ok (.tup [.list true SY ((RV s).getD []),.bool true]) []) (.ok (.tup [.list true SY [],.bool false]) [])) .no
 | _=>.no
def QC (s:BA) (i:Int):BA:=F9 s (UQ i)
def PA (s:BA) (i:Int):BA:=I9 (QC s i) (K7 (I9 (QC s i) 1))
def Hp (s:BA) (i:Int):BA:=SQ (QC s i) (K7 (I9 (QC s i) 1))
open Go Go.Proofs
theorem oT:∀ (l:List UInt8) (c:UInt8),-1≤DG l c∧DG l c < l.length
 | [],_=>⟨by show (-1:Int) ≤ -1; omega,by show (-1:Int) < 0; omega⟩
 | b :: l,c=>by
  have ih:=oT l c;unfold DG;rw [AM];split
  ·omega
  ·split
   ·omega
   ·omega
theorem zh8:DX PR B0 102 iC:=by
 intro w X γ vs xs r out hsp hg hx hR hV;unfold iC at hsp;simp only at hsp;split at hsp
 ·rename_i s c;simp only [R.get,AC,AV] at hsp;obtain ⟨rfl,rfl⟩:=hsp;obtain ⟨x0,x1,rfl⟩:∃ x0 x1,xs=[x0,x1]:=by
   have:=hV.length
   simp at this
   match xs,this with
   | [a,b],_=>exact ⟨a,b,rfl⟩
  simp only [A0,CA,EQ,VRels,VRel,B7] at hV;obtain ⟨⟨rfl,hs⟩,rfl,_⟩:=hV;refine QE hR rfl rfl (Does.of_calls Tryz.func102 (by kernel_rfl) (by kernel_rfl) ((Tryz.strings_IndexByte s c w).mono ?_));rintro e w' ⟨rfl,rfl⟩;refine ⟨_,rfl,Keep.refl _ _,fun O _=>?_⟩;simp only [VRel];have hb:=oT s.data.toList c.toNat.toUInt8;have hz:s.data.toList.length=s.size:=by rw [CL]; rfl
  have e1:AB.min = -9223372036854775808:=rfl;have e2:AB.max=9223372036854775807:=rfl;unfold strMax at hs;exact ⟨by first | rfl | trivial,by omega,by omega⟩
 ·simp [R.get] at hsp
open Go Go.Proofs
def Qq (N:Nat):Env:=D5 [(46,M5),(47,SF)] [] 8 N
theorem zdN (N:Nat) (s:BA):DZ (Qq N) xE [.tmp 2] [[.list false [.str]]] [.str s]=(cond (AW s==AW {data:=#[]}) (some ((.list false [.str] []),[])) (cond (decide (AG (GT s {data:=#[10]}) < 4294967281)&&decide (1≤AG {data:=#[10]})) (some ((.list false [.str] (A2 IV.str (D2 (GT s {data:=#[10]}) {data:=#[10]}))),[])) none)):=by kernel_rfl
def Qp (N:Nat):Env:=D5 [(73,aT),(26,V5),(65,NV),(35,WH)] [] 46 N
theorem zdM (N:Nat) (m:Md) (line:BA):DZ (Qp N) xD [.cell 4 55] [[.z,.list true [.bool,.z,.z],.z,.z,.z,.z,.z,.z]] [(Md.V m),.str line]=(cond (decide (AG line < 4294967281)) (cond (!OR line) (some ((.agg [.i 4,.list true EC [],.i 0,.i 0,.i 0,.i 0,.i 0,.i 0]),[])) (cond (PU line != Md.d m) (some ((.agg [.i 4,.list true EC [],.i 0,.i 0,.i 0,.i 0,.i 0,.i 0]),[])) (cond (!FG m (GU line)) (some ((.agg [.i 4,.list true EC [],.i 0,.i 0,.i 0,.i 0,.i 0,.i 0]),[])) (cond (Vd.kind (E8 m (GU line))==3) (some ((Vd.V (E8 m (GU line))),[])) (cond (O9 m (GU line) (E8 m (GU line))) (some ((Vd.V (E8 m (GU line))),[])) (some ((.agg [.i 4,.list true EC [],.i 0,.i 0,.i 0,.i 0,.i 0,.i 0]),[]))))))) none):=by kernel_rfl
def TY (N:Nat):Env:=D5 [(24,SC),(32,WA),(31,WB),(43,OO),(56,T2),(60,T3),(19,dH)] [(6,⟨[4,5,7,18,19,20],[5,7],[]⟩)] 37 N
abbrev VS (u00 s4:BA) (l18:LI) (x19 x20:Int) (so7:BA):St:=⟨[(4,(.str s4)),(5,(.ptr 5 0 0)),(7,(.ptr 7 0 0)),(18,(.list false [.str] l18)),(19,(.i x19)),(20,(.i x20))],[(5,(some (.box (Md.cs (IJ u00))))),(7,(some (.bld so7)))]⟩
theorem zdO (N:Nat) (u00 u01:BA):DZ (TY N) WW [.tmp 4] [[.str]] [.str u00,.str u01]=(cond (decide (AG u00 < 4294967281)) (cond (!PI u00) (some ((.str ({data:=#[109,111,100,101,108,10]})),[])) (cond (decide (AG u01 < 4294967281)) (DY (TY N) (DK WW [1,1,1,1,0,1,0,0]) ⟨[4,5,7,18,19,20],[5,7],[]⟩ N (VS u00 ({data:=#[]}) (G9 u01) (ic (AF (G9 u01))) 0 CK) (DQ 0 (DS (TY N) (DK WW [1,1,1,1,1]) (DT (TY N) none [.tmp 4] [[.str]])))) none)) none):=by kernel_rfl
theorem Lv (N:Nat) (u00 s4:BA) (l18:LI) (x19 x20:Int) (so7:BA) (again:St→DO) (k:Out→St→DO):EZ (TY N) (DK WW [1,1,1,1,0,1,0,0]) (VS u00 s4 l18 x19 x20 so7) (EN again ⟨[4,5,7,18,19,20],[5,7],[]⟩ k)=(cond (decide (x20 < x19)) (cond (decide (0≤x20)&&decide (x20 < ic (AF l18))) (cond (decide (AG {data:=#[113,117,101,114,121,32]}+AG (DP x20)≤strMax)) (cond (decide (AG ({data:=#[113,117,101,114,121,32]}++DP x20)+AG {data:=#[10]}≤strMax)) (cond (decide (AG so7+AG (UQ x20)≤strMax)) (cond (decide (AG (IV.toStr (AH l18 (AE x20) default)) < 4294967281)) (cond (decide (AG (EL (HO (IJ u00) (IV.toStr (AH l18 (AE x20) default))))≤strMax)) (cond (decide (AG (so7++(UQ x20))+AG (EL (HO (IJ u00) (IV.toStr (AH l18 (AE x20) default))))≤strMax)) (again (VS u00 s4 l18 x19 (AA AB (x20+1)) (so7++(UQ x20)++EL (HO (IJ u00) (IV.toStr (AH l18 (AE x20) default)))))) none) none) none) none) none) none) none) (k (.exit 0) (VS u00 s4 l18 x19 x20 so7))):=by kernel_rfl
theorem Xr (N:Nat) (u00 s4:BA) (l18:LI) (x19 x20:Int) (so7:BA):(DQ 0 (DS (TY N) (DK WW [1,1,1,1,1]) (DT (TY N) none [.tmp 4] [[.str]]))) (.exit 0) (VS u00 s4 l18 x19 x20 so7)=(some ((.str so7),[])):=by kernel_rfl
def QR (N:Nat):Env:=D5 [(102,iC)] [(3,⟨[0,4,5,6,7,9,10],[],[]⟩)] 29 N
abbrev QO (s0 s4 s5:BA) (b6:Bool) (x7 x9 x10:Int):St:=⟨[(0,(.str s0)),(4,(.str s4)),(5,(.str s5)),(6,(.bool b6)),(7,(.i x7)),(9,(.i x9)),(10,(.i x10))],[]⟩
theorem zc0 (N:Nat) (s:BA) (n:Int):DZ (QR N) UB [.tmp 4,.tmp 5,.tmp 6] [[.str],[.str],[.bool]] [.str s,.i n]=(DY (QR N) (DK UB [1,1,0,1,0,0]) ⟨[0,4,5,6,7,9,10],[],[]⟩ N (QO s ({data:=#[]}) ({data:=#[]}) false 0 n 0) (DQ 0 (DS (QR N) (DK UB [1,1,1]) (DT (QR N) none [.tmp 4,.tmp 5,.tmp 6] [[.str],[.str],[.bool]])))):=by kernel_rfl
theorem ziq (N:Nat) (s0 s4 s5:BA) (b6:Bool) (x7 x9 x10:Int) (again:St→DO) (k:Out→St→DO):EZ (QR N) (DK UB [1,1,0,1,0,0]) (QO s0 s4 s5 b6 x7 x9 x10) (EN again ⟨[0,4,5,6,7,9,10],[],[]⟩ k)=(cond (decide (x10 < x9)) (cond (decide (0≤x7)&&decide (x7≤ic (AG s0))) (cond (decide (DG (Array.toList (ByteArray.data (vaa s0 (AE x7) (AG s0)))) (Nat.toUInt8 (AE 10)) < 0)) (k .ret (QO s0 ({data:=#[]}) ({data:=#[]}) false x7 x9 x10)) (again (QO s0 s4 s5 b6 (AA AB (x7+AA AB (DG (Array.toList (ByteArray.data (vaa s0 (AE x7) (AG s0)))) (Nat.toUInt8 (AE 10))+1))) x9 (AA AB (x10+1))))) none) (k (.exit 0) (QO s0 s4 s5 b6 x7 x9 x10))):=by kernel_rfl
theorem Wn (N:Nat) (s0 s4 s5:BA) (b6:Bool) (x7 x9 x10:Int):(DQ 0 (DS (QR N) (DK UB [1,1,1]) (DT (QR N) none [.tmp 4,.tmp 5,.tmp 6] [[.str],[.str],[.bool]]))) (.exit 0) (QO s0 s4 s5 b6 x7 x9 x10)=(cond (decide (0≤x7)&&decide (x7≤ic (AG s0))) (cond (decide (0≤x7)&&decide (x7≤ic (AG s0))) (some ((.tup [.str (vaa s0 0 (AE x7)),.str (vaa s0 (AE x7) (AG s0)),.bool true]),[])) none) none):=by kernel_rfl
theorem Wo (N:Nat) (s0 s4 s5:BA) (b6:Bool) (x7 x9 x10:Int):(DQ 0 (DS (QR N) (DK UB [1,1,1]) (DT (QR N) none [.tmp 4,.tmp 5,.tmp 6] [[.str],[.str],[.bool]]))) .ret (QO s0 s4 s5 b6 x7 x9 x10)=(some ((.tup [.str s4,.str s5,.bool b6]),[])):=by kernel_rfl
def Ph (N:Nat):Env:=D5 [(90,Q0),(46,M5),(47,SF)] [] 37 N
theorem zc1 (N:Nat) (u00:BA):DZ (Ph N) v7 [.tmp 2] [[.z]] [.str u00]=(cond (decide (AG (GT u00 {data:=#[10]}) < 4294967281)&&decide (1≤AG {data:=#[32]})) (cond (decide (0≤0)&&decide (0 < ic (AF (A2 IV.str (D2 (GT u00 {data:=#[10]}) {data:=#[32]}))))) (cond (!AW (IV.toStr (AH (A2 IV.str (D2 (GT u00 {data:=#[10]}) {data:=#[32]})) (AE 0) default))==AW {data:=#[104,111,108,100,115]}) (some ((.i 1),[])) (cond (ic (AF (A2 IV.str (D2 (GT u00 {data:=#[10]}) {data:=#[32]}))) != 3) (some ((.i 1),[])) (cond (decide (0≤2)&&decide (2 < ic (AF (A2 IV.str (D2 (GT u00 {data:=#[10]}) {data:=#[32]}))))) (cond (!KM (IV.toStr (AH (A2 IV.str (D2 (GT u00 {data:=#[10]}) {data:=#[32]})) (AE 2) default))) (some ((.i 1),[])) (cond (decide (FF (IV.toStr (AH (A2 IV.str (D2 (GT u00 {data:=#[10]}) {data:=#[32]})) (AE 2) default)) < 0)) (some ((.i 1),[])) (cond (decide (FF (IV.toStr (AH (A2 IV.str (D2 (GT u00 {data:=#[10]}) {data:=#[32]})) (AE 2) default)) > 65536)) (some ((.i 1),[])) (some ((.i (AA AB (1+FF (IV.toStr (AH (A2 IV.str (D2 (GT u00 {data:=#[10]}) {data:=#[32]})) (AE 2) default))))),[]))))) none))) none) none):=by kernel_rfl
open Go
theorem dT {s t:BA} (h:s.data.toList=t.data.toList):s=t:=ByteArray.ext (Array.ext' h)
theorem YZ (s t:BA):(s.toList==t.toList)=decide (s=t):=by
 rw [Lib.toList_data,Lib.toList_data];by_cases h:s=t
 ·subst h; simp
 ·rw [AL h,A4];exact fun e=>h (dT e)
theorem S9 (s:BA):s.size=s.data.toList.length:=by rw [CL]; rfl
theorem nT (u:Nat):∀ c∈BU u,48≤c.toNat∧c.toNat≤57:=by
 induction u using vbr with
 | _ u ih=>
  intro c hc;rw [BU] at hc;split at hc
  ·rename_i h;simp only [BM] at hc;subst hc;rw [vab (by simp [vbo]; omega)];omega
  ·rename_i h;rw [AX,BM] at hc;rcases hc with hc | hc
   ·exact ih (u / 10) (by omega) c hc
   ·subst hc;rw [vab (by simp [vbo]; omega)];omega
theorem zM (u:Nat):BU u≠[]:=by
 rw [BU];split <;> simp
theorem zb7 (n:Int):∀ c∈vam n,c.toNat=45∨(48≤c.toNat∧c.toNat≤57):=by
 intro c hc;unfold vam at hc;split at hc
 ·rcases AP.1 hc with h | h
  ·subst h; exact .inl rfl
  ·exact .inr (nT _ c h)
 ·exact .inr (nT _ c hc)
theorem Bn (n:Int) (c:UInt8) (hc:c.toNat < 45):c ∉ vam n:=by
 intro h;rcases zb7 n c h with h1 | h1 <;> omega
theorem zfv (u:Nat):∀ (acc:Nat) (r:List UInt8),acc*10 ^ (BU u).length+u < 18446744073709551616 →
  vaQ acc (BU u++r)=vaQ (acc*10 ^ (BU u).length+u) r:=by
 induction u using vbr with
 | _ u ih=>
  intro acc r hlt;rw [BU] at hlt ⊢;split at hlt
  ·rename_i h;rw [dif_pos h];simp only [C2,Nat.pow_one,List.singleton_append] at hlt ⊢;have hc:(UInt8.ofNat (48+u)).toNat=48+u:=vab (by simp [vbo]; omega);rw [vaQ,hc,BP (by omega),BD (by omega),BD (by omega)];congr 1;omega
  ·rename_i h;rw [dif_neg h];simp only [AT,C2,Nat.pow_succ,vaI,List.singleton_append] at hlt ⊢;have ea:acc*(10 ^ (BU (u / 10)).length*10)=acc*10 ^ (BU (u / 10)).length*10:=by rw [Nat.mul_assoc]
   rw [ea] at hlt ⊢;rw [ih (u / 10) (by omega) acc _ (by omega)];have hc:(UInt8.ofNat (48+u % 10)).toNat=48+u % 10:=vab (by simp [vbo]; omega);rw [vaQ,hc,BP (by omega),BD (by omega),BD (by omega)];congr 1;omega
theorem Fk (u:Nat) (h:u < 18446744073709551616):Lib.parseMag (BU u) = .ok u:=by
 unfold Lib.parseMag;rw [BD (zM u)]
 have:=zfv u 0 [] (by omega)
 rw [DB] at this;rw [this,Nat.zero_mul,BI];rfl
theorem vI (n:Int) (h0 : -9223372036854775808≤n) (h1:n≤9223372036854775807):vbj (vam n) = .ok n:=by
 unfold vam;split
 ·rename_i hn;unfold vbj;have e:(45:UInt8).toNat=45:=rfl;simp only [e,or_true,CQ,Fk n.natAbs (by omega),vbc,false_and,if_false,vaC];rw [BD (by omega)];congr 1;omega
 ·rename_i hn;obtain ⟨c,r,hl⟩:∃ c r,BU n.toNat=c :: r:=by
   cases h:BU n.toNat with
   | nil=>exact absurd h (zM _)
   | cons c r=>exact ⟨c,r,rfl⟩
  have hc:=nT n.toNat c (by rw [hl]; exact AO ..);have hm:=Fk n.toNat (by omega);rw [hl] at hm ⊢;unfold vbj;have e1:¬ c.toNat=43:=by omega
  have e2:¬ c.toNat=45:=by omega
  simp only [e1,e2,or_self,if_false,hm,false_and,not_false_eq_true,vaC];rw [BD (by omega)];congr 1;omega
theorem vG {s:BA} {n:Int} (h:s.data.toList=vam n) (h0 : -9223372036854775808≤n) (h1:n≤9223372036854775807):FF s=n:=by
 unfold FF;rw [h,vI n h0 h1]
theorem jO:∀ (w r:List UInt8) (c:UInt8),c ∉ w→DG (w++c :: r) c=w.length
 | [],r,c,_=>by simp [DG]
 | b :: w,r,c,h=>by
  simp only [AP,not_or] at h;have e:(b==c)=false:=A4.2 (fun e=>h.1 e.symm);have e2:((w.length:Int) == -1)=false:=by rw [A4]; omega
  simp only [CT,DG,e,jO w r c h.2,e2,AM];simp
theorem Vh (w r:List UInt8) (c:UInt8) (h:c ∉ w):vaP (w++c :: r) [c]=(w,r,true):=by
 unfold vaP;rw [Lib.index_one,jO w r c h,BP (by omega)];simp
theorem zig (w r:List UInt8) (c:UInt8) (h:c ∉ w):vay (w++c :: r) [c]=w :: vay r [c]:=by
 unfold vay;have ec:Lib.count (w++c :: r) [c]=Lib.count r [c]+1:=by
  rw [vbv,vbv,List.count_append,vba h,List.count_cons_self,BI]
 rw [ec,Lib.splitK,Lib.index_one,jO w r c h];have e2:((w.length:Int) == -1)=false:=by rw [A4]; omega
 rw [e2];simp
theorem zih (w:List UInt8) (c:UInt8) (h:c ∉ w):vay w [c]=[w]:=by
 unfold vay;rw [vbv,vba h];rfl
def HX (w:List UInt8) (l:List Int):List UInt8:=w++l.flatMap fun n=>32 :: vam n
theorem zcE (w:List UInt8) (n:Int) (l:List Int):HX w (n :: l)=w++32 :: HX (vam n) l:=by simp [HX]
theorem XE (c:UInt8) (hc:c.toNat < 32) {w:List UInt8} (hw:c ∉ w) (l:List Int):c ∉ HX w l:=by
 unfold HX;rw [AX,List.mem_flatMap];rintro (h | ⟨n,_,h⟩)
 ·exact hw h
 ·rcases AP.1 h with e | e
  ·subst e
   have:(32:UInt8).toNat=32:=rfl
   omega
  ·exact Bn n c (by omega) e
theorem s7:∀ (l:List Int) (w:List UInt8),(32:UInt8) ∉ w→vay (HX w l) [32]=w :: l.map vam
 | [],w,h=>by simp only [HX,List.flatMap_nil,DB,CA]; exact zih w 32 h
 | n :: l,w,h=>by
  rw [zcE,zig w _ 32 h,s7 l (vam n) (Bn n 32 (by decide))];rfl
theorem sY (s sep:BA):(D2 s sep).map (·.data.toList)=vay s.data.toList sep.data.toList:=by
 unfold D2 vay;rw [Lib.splitB_data]
open Go
theorem W1 (s t:BA):(s++t).data.toList=s.data.toList++t.data.toList:=by simp
theorem zL (s:BA) (c:UInt8):(s.push c).data.toList=s.data.toList++[c]:=by simp [ByteArray.push]
theorem zb4 (n:Int):(DP n).data.toList=vam n:=rfl
theorem Ej:∀ (l:LI) (s:BA),(MR s l).data.toList=s.data.toList++(l.map IV.toInt).flatMap fun n=>32 :: vam n
 | [],s=>by simp [MR]
 | x :: l,s=>by
  rw [MR,Ej l,W1,zL,zb4];simp
theorem P4 (s w:BA) (l:LI):(GH s w l).data.toList=s.data.toList++(HX w.data.toList (l.map IV.toInt)++[10]):=by
 unfold GH HX;rw [zL,Ej,W1];simp
def VC (x:IV):List UInt8:=cond (GS x) (HX RX.data.toList []) (HX X8.data.toList [E9 x,FP x])
def NO:LI→List UInt8
 | []=>[]
 | x :: l=>VC x++10 :: NO l
theorem rA:∀ (l:LI) (s:BA),(KV s l).data.toList=s.data.toList++NO l
 | [],s=>by simp [KV,NO]
 | x :: l,s=>by
  rw [KV,rA l,NO];unfold VC;cases GS x
  ·simp only [A9];rw [P4];simp [IV.toInt]
  ·simp only [BJ];rw [P4];simp
def HG (n:Int):Prop := -9223372036854775808≤n∧n≤9223372036854775807
def PF (x:IV):Prop:=HG (E9 x)∧HG (FP x)
structure Vd.rng (v:Vd):Prop where
 w0:HG v.w0
 w1:HG v.w1
 w2:HG v.w2
 w3:HG v.w3
 twin:HG v.twin
 spent:HG v.spent
 proof:∀ x∈v.proof,PF x
theorem Ek:∀ (l:LI) (s:BA),(∀ x∈l,HG x.toInt)→(MR s l).size≤s.size+22*l.length
 | [],s,_=>AZ _
 | x :: l,s,h=>by
  rw [MR];refine C1 (Ek l _ (fun y hy=>h y (AY _ hy))) ?_;have hx:=h x (AO ..)
  have:=ZI (n:=x.toInt) hx.1 hx.2
  rw [AU,va4,AM];omega
theorem ZM (s w:BA) (l:LI) (h:∀ x∈l,HG x.toInt):(GH s w l).size≤s.size+w.size+22*l.length+1:=by
 unfold GH
 have:=Ek l (s++w) h
 rw [AU] at this;rw [va4];omega
theorem Fz:∀ (l:LI) (s:BA),(∀ x∈l,PF x)→(KV s l).size≤s.size+48*l.length
 | [],s,_=>AZ _
 | x :: l,s,h=>by
  rw [KV];refine C1 (Fz l _ (fun y hy=>h y (AY _ hy))) ?_;have hx:=h x (AO ..);rw [AM];cases GS x
  ·have:=ZM s X8 [.int (E9 x),.int (FP x)] (fun y hy=>by
    simp only [AP,List.mem_nil_iff,CP] at hy;rcases hy with rfl | rfl
    ·exact hx.1
    ·exact hx.2)
   have e:X8.size=3:=rfl;simp only [A9,AM,A6] at this ⊢;omega
  ·have:=ZM s RX [] (fun y hy=>by cases hy)
   have e:RX.size=3:=rfl;simp only [BJ,A6] at this ⊢;omega
open Go
theorem rX {v:Vd} (h:v.right=true):v.proof.length≤65536:=by
 unfold Vd.right at h;simp only [AI,vap] at h;rcases h.2.2 with h1 | h1 | h1
 ·have:=h1.2.2
  unfold PH at this;simp only [AI,AQ] at this;exact this.2.1
 ·have:=h1.2
  cases hp:v.proof with
  | nil=>simp
  | cons a b=>rw [hp] at this; cases this
 ·have:=h1.2.2
  cases hp:v.proof with
  | nil=>simp
  | cons a b=>rw [hp] at this; cases this
theorem oU {l:List Int} (h:∀ n∈l,HG n):∀ x∈l.map IV.int,HG x.toInt:=by
 intro x hx;obtain ⟨n,hn,rfl⟩:=CI.1 hx;exact h n hn
theorem Ci {n:Nat} (h:n≤65536):HG (ic n):=by unfold HG ic; omega
theorem qZ {v:Vd} (hr:v.rng):(EL v).size≤4000000:=by
 unfold EL;cases h:v.right with
 | false=>simp only [A9]; decide
 | true=>
  simp only [BJ];have hp:=rX h;cases v.kind==1 with
  | true=>
   simp only [BJ];have h1:=Fz v.proof (GH EB I0 [.int v.spent,.int (ic v.proof.length)]) hr.proof;have h2:=ZM EB I0 [.int v.spent,.int (ic v.proof.length)] (oU (l:=[v.spent,ic v.proof.length]) (by
    intro n hn;simp only [AP,List.mem_nil_iff,CP] at hn;rcases hn with rfl | rfl
    ·exact hr.spent
    ·exact Ci hp))
   have e1:EB.size=0:=rfl;have e2:I0.size=5:=rfl;simp only [AM,A6] at h2;omega
  | false=>
   simp only [A9];cases v.kind==2 with
   | true=>
    simp only [BJ];have h2:=ZM EB QK [.int v.spent,.int v.w0,.int v.w1,.int v.w2,.int v.w3,.int v.twin] (oU (l:=[v.spent,v.w0,v.w1,v.w2,v.w3,v.twin]) (by
     intro n hn;simp only [AP,List.mem_nil_iff,CP] at hn;rcases hn with rfl | rfl | rfl | rfl | rfl | rfl
     ·exact hr.spent
     ·exact hr.w0
     ·exact hr.w1
     ·exact hr.w2
     ·exact hr.w3
     ·exact hr.twin))
    have e1:EB.size=0:=rfl;have e2:QK.size=5:=rfl;simp only [AM,A6] at h2;omega
   | false=>
    simp only [A9];have hs:∀ x∈[IV.int v.spent],HG x.toInt:=oU (l:=[v.spent]) (by
     intro n hn;simp only [AP,List.mem_nil_iff,CP] at hn;subst hn;exact hr.spent)
    have e1:EB.size=0:=rfl;cases v.kind==3 with
    | true=>
     simp only [BJ];have h2:=ZM EB QL [.int v.spent] hs;have e2:QL.size=7:=rfl;simp only [AM,A6] at h2;omega
    | false=>
     simp only [A9];have h2:=ZM EB QM [.int v.spent] hs;have e2:QM.size=5:=rfl;simp only [AM,A6] at h2;omega
theorem O8 (l:LI) (i:Int):HG (GD l i):=by
 unfold GD;cases decide (ic l.length≤i) with
 | true=>simp only [BJ]; unfold HG; omega
 | false=>
  simp only [A9]
  have:=vE (l.getD i.toNat default).toStr
  exact this
theorem G5:HG 0:=⟨by decide,by decide⟩
theorem zf5 (s:BA):PF (ZY s):=by
 unfold ZY;cases ((MD (IE s)).toList==RX.toList) with
 | true=>exact ⟨G5,G5⟩
 | false=>exact ⟨O8 _ _,O8 _ _⟩
theorem Gw:∀ (m:Nat) (s:BA) (p:LI),(∀ x∈p,PF x)→∀ x∈S5 m s p,PF x
 | 0,_,_,h=>h
 | m+1,s,p,h=>by
  unfold S5;cases (!(s.toList==EB.toList)&&decide (p.length≤65536)) with
  | false=>exact h
  | true=>
   simp only [BJ];refine Gw m _ _ (fun x hx=>?_);rcases AX.1 hx with h1 | h1
   ·exact h x h1
   ·rw [BM.1 h1];exact zf5 s
theorem zf6 (s:BA):(II s).rng:=by
 unfold II;cases ((MD (IE s)).toList==I0.toList) with
 | true=>exact ⟨G5,G5,G5,G5,G5,O8 _ _,Gw _ _ _ (fun x hx=>by cases hx)⟩
 | false=>
  cases ((MD (IE s)).toList==QK.toList) with
  | true=>exact ⟨O8 _ _,O8 _ _,O8 _ _,O8 _ _,O8 _ _,O8 _ _,fun x hx=>by cases hx⟩
  | false=>
   cases ((MD (IE s)).toList==QL.toList) with
   | true=>exact ⟨G5,G5,G5,G5,G5,O8 _ _,fun x hx=>by cases hx⟩
   | false=>
    cases ((MD (IE s)).toList==QM.toList) with
    | true=>exact ⟨G5,G5,G5,G5,G5,O8 _ _,fun x hx=>by cases hx⟩
    | false=>exact ⟨G5,G5,G5,G5,G5,O8 _ _,fun x hx=>by cases hx⟩
theorem Va (s sep:BA):(cutL s sep).data.toList=(vaP s.data.toList sep.data.toList).1:=rfl
theorem Vb (s sep:BA):(FQ s sep).data.toList=(vaP s.data.toList sep.data.toList).2.1:=rfl
theorem ZD {s:BA} {w r:List UInt8} {l:List Int} (h:s.data.toList=HX w l++10 :: r) (h32:(32:UInt8) ∉ w) (h10:(10:UInt8) ∉ w) :
  (IE s).map (fun x=>x.toStr.data.toList)=w :: l.map vam∧(FQ s EP).data.toList=r:=by
 have hc:vaP s.data.toList EP.data.toList=(HX w l,r,true):=by
  rw [h];exact Vh _ r 10 (XE 10 (by decide) h10 l)
 constructor
 ·unfold IE;rw [vaJ]
  have:((fun x=>x.toStr.data.toList) ∘ IV.str)=fun b:BA=>b.data.toList:=rfl
  rw [this,sY,Va,hc];exact s7 l w h32
 ·rw [Vb,hc]
theorem NR {L:LI} {w:List UInt8} {ws:List (List UInt8)} (h:L.map (fun x=>x.toStr.data.toList)=w :: ws) (t:BA):((MD L).toList==t.toList)=(w==t.data.toList):=by
 cases L with
 | nil=>cases h
 | cons x L=>
  simp only [A0,vav] at h;unfold MD;rw [Lib.toList_data,Lib.toList_data];simp only [List.getD_cons_zero];rw [h.1]
theorem P5 {L:LI} {ws:List (List UInt8)} (h:L.map (fun x=>x.toStr.data.toList)=ws) (i:Nat) {n:Int} (hi:ws[i]?=some (vam n)) (hn:HG n):GD L (i:Int)=n:=by
 subst h;rw [B9] at hi;cases hx:L[i]? with
 | none=>rw [hx] at hi; cases hi
 | some x=>
  rw [hx] at hi;simp only [vaw,AC] at hi;have hl:=(BR.1 hx).1;unfold GD;rw [AL (show ¬ ic L.length≤(i:Int) by simp only [ic]; omega)];simp only [A9]
  have:(L.getD (i:Int).toNat default)=x:=by
   rw [BF,BV,hx];rfl
  rw [this];exact vG hi hn.1 hn.2
def Y3 (x:IV):IV:=cond (GS x) (RG true 0 0) (RG false (E9 x) (FP x))
theorem Uj {x:IV} (h:PG x=true):VB (Y3 x) x=true:=by
 unfold Y3;unfold PG at h;unfold VB;cases hs:GS x with
 | true=>
  rw [hs] at h;simp only [BC,AI,Bool.not_not,B8] at h;have e1:GS (RG true 0 0)=true:=rfl;have e2:E9 (RG true 0 0)=0:=rfl;have e3:FP (RG true 0 0)=0:=rfl;simp only [BJ,e1,e2,e3,h.1.1,h.1.2];rfl
 | false=>
  have e1:GS (RG false (E9 x) (FP x))=false:=rfl;have e2:E9 (RG false (E9 x) (FP x))=E9 x:=rfl;have e3:FP (RG false (E9 x) (FP x))=FP x:=rfl;simp only [A9,e1,e2,e3,DA,B4]
theorem yQ:∀ {l:LI},l.all PG=true→FR (l.map Y3) l=true
 | [],_=>rfl
 | x :: l,h=>by
  simp only [vaA,AI] at h;simp only [A0,FR,Uj h.1,yQ h.2,B4]
theorem Eg {s:BA}:(s.toList==EB.toList)=s.data.toList.isEmpty:=by
 rw [YZ];cases h:s.data.toList with
 | nil=>
  have:s=EB:=dT (h.trans rfl)
  rw [AD this];rfl
 | cons a l=>
  rw [AL (fun e=>by rw [e] at h; cases h)];rfl
theorem Gx:∀ (l:LI) (m:Nat) (s:BA) (p:LI),s.data.toList=NO l→l.length < m→p.length+l.length≤65536→(∀ x∈l,PF x)→S5 m s p=p++l.map Y3
 | [],m+1,s,p,hs,_,_,_=>by
  unfold S5;rw [Eg,hs];simp [NO]
 | x :: l,m+1,s,p,hs,hm,hp,hx=>by
  have hne:(s.toList==EB.toList)=false:=by
   rw [Eg,hs,NO];simp
  unfold S5;simp only [AM] at hm hp;rw [hne,AD (show p.length≤65536 by omega)];simp only [A7,B4,BJ];have hr:=hx x (AO ..);have key:ZY s=Y3 x∧(FQ s EP).data.toList=NO l:=by
   rw [NO] at hs;unfold VC at hs;unfold Y3 ZY;cases hc:GS x with
   | true=>
    rw [hc] at hs;simp only [BJ] at hs ⊢;obtain ⟨h1,h2⟩:=ZD hs (by decide) (by decide);refine ⟨?_,h2⟩;rw [NR h1];simp only [DA,BJ]
   | false=>
    rw [hc] at hs;simp only [A9] at hs ⊢;obtain ⟨h1,h2⟩:=ZD hs (by decide) (by decide);refine ⟨?_,h2⟩;rw [NR h1];have e:(X8.data.toList==RX.data.toList)=false:=by decide
    rw [e];simp only [A9];have n1:=P5 h1 1 (n:=E9 x) rfl hr.1;have n2:=P5 h1 2 (n:=FP x) rfl hr.2;have c1:((1:Nat):Int)=1:=rfl;have c2:((2:Nat):Int)=2:=rfl;rw [c1] at n1;rw [c2] at n2;rw [n1,n2]
  rw [key.1,Gx l m _ _ key.2 (by omega) (by simp only [AT,C2]; omega) (fun y hy=>hx y (AY _ hy))];simp
 | [],0,_,_,_,h,_,_=>by omega
 | _ :: _,0,_,_,_,h,_,_=>by simp at h
open Go
theorem zio (x:IV):VB x x=true:=by simp [VB]
theorem XZ {x y:IV}:VB x y=true↔GS x=GS y∧E9 x=E9 y∧FP x=FP y:=by simp [VB]
theorem Ic:∀ l:LI,FR l l=true
 | []=>rfl
 | x :: l=>by simp [FR,zio,Ic l]
theorem Id:∀ {l m:LI},FR l m=true→FR m l=true
 | [],[],_=>rfl
 | [],_ :: _,h=>by simp [FR] at h
 | _ :: _,[],h=>by simp [FR] at h
 | x :: l,y :: m,h=>by
  simp only [FR,AI] at h ⊢;obtain ⟨h1,h2,h3⟩:=XZ.1 h.1;exact ⟨XZ.2 ⟨h1.symm,h2.symm,h3.symm⟩,Id h.2⟩
theorem Ie:∀ {l m n:LI},FR l m=true→FR m n=true→FR l n=true
 | [],[],[],_,_=>rfl
 | [],[],_ :: _,_,h=>by simp [FR] at h
 | [],_ :: _,_,h,_=>by simp [FR] at h
 | _ :: _,[],_,h,_=>by simp [FR] at h
 | _ :: _,_ :: _,[],_,h=>by simp [FR] at h
 | x :: l,y :: m,z :: n,h,k=>by
  simp only [FR,AI] at h k ⊢;obtain ⟨h1,h2,h3⟩:=XZ.1 h.1;obtain ⟨k1,k2,k3⟩:=XZ.1 k.1;exact ⟨XZ.2 ⟨h1.trans k1,h2.trans k2,h3.trans k3⟩,Ie h.2 k.2⟩
structure VSame (a b:Vd):Prop where
 kind:a.kind=b.kind
 proof:FR a.proof b.proof=true
 w0:a.w0=b.w0
 w1:a.w1=b.w1
 w2:a.w2=b.w2
 w3:a.w3=b.w3
 twin:a.twin=b.twin
 spent:a.spent=b.spent
theorem zje {a b:Vd}:gS a b=true↔VSame a b:=by
 unfold gS;simp only [AI,B8];exact ⟨fun ⟨h1,h2,h3,h4,h5,h6,h7,h8⟩=>⟨h1,h2,h3,h4,h5,h6,h7,h8⟩,fun ⟨h1,h2,h3,h4,h5,h6,h7,h8⟩=>⟨h1,h2,h3,h4,h5,h6,h7,h8⟩⟩
theorem VSame.rfl' (a:Vd):VSame a a:=⟨rfl,Ic _,rfl,rfl,rfl,rfl,rfl,rfl⟩
theorem VSame.symm {a b:Vd} (h:VSame a b):VSame b a:=⟨h.kind.symm,Id h.proof,h.w0.symm,h.w1.symm,h.w2.symm,h.w3.symm,h.twin.symm,h.spent.symm⟩
theorem VSame.trans {a b c:Vd} (h:VSame a b) (k:VSame b c):VSame a c:=⟨h.kind.trans k.kind,Ie h.proof k.proof,h.w0.trans k.w0,h.w1.trans k.w1,h.w2.trans k.w2,h.w3.trans k.w3,h.twin.trans k.twin,h.spent.trans k.spent⟩
theorem r8:∀ {l m:LI},FR l m=true→l.length=m.length
 | [],[],_=>rfl
 | [],_ :: _,h=>by simp [FR] at h
 | _ :: _,[],h=>by simp [FR] at h
 | _ :: l,_ :: m,h=>by
  simp only [FR,AI] at h;simp only [AM,r8 h.2]
theorem Hz:∀ {l m:LI},FR l m=true→l.all PG=m.all PG
 | [],[],_=>rfl
 | [],_ :: _,h=>by simp [FR] at h
 | _ :: _,[],h=>by simp [FR] at h
 | x :: l,y :: m,h=>by
  simp only [FR,AI] at h;obtain ⟨h1,h2,h3⟩:=XZ.1 h.1;simp only [vaA,Hz h.2];unfold PG;rw [h1,h2,h3]
theorem Ib:∀ {l m:LI} (s:BA),FR l m=true→KV s l=KV s m
 | [],[],_,_=>rfl
 | [],_ :: _,_,h=>by simp [FR] at h
 | _ :: _,[],_,h=>by simp [FR] at h
 | x :: l,y :: m,s,h=>by
  simp only [FR,AI] at h;obtain ⟨h1,h2,h3⟩:=XZ.1 h.1;simp only [KV,h1,h2,h3];exact Ib _ h.2
theorem zgH {l m:LI} (h:FR l m=true):l.isEmpty=m.isEmpty:=by
 cases l <;> cases m <;> first | rfl | (simp [FR] at h)
theorem zgo {a b:Vd} (h:VSame a b):a.right=b.right:=by
 unfold Vd.right Vd.bare PH;rw [h.kind,h.w0,h.w1,h.w2,h.w3,h.twin,h.spent,r8 h.proof,Hz h.proof,zgH h.proof]
theorem zfN {a b:Vd} (h:VSame a b):EL a=EL b:=by
 unfold EL;rw [zgo h,h.kind,h.w0,h.w1,h.w2,h.w3,h.twin,h.spent,r8 h.proof,Ib _ h.proof]
theorem zfI {v:Vd} (h:v.right=false):EL v=EB:=by
 unfold EL;rw [h];rfl
theorem kB (s w:BA) (l:LI):0 < (GH s w l).size:=by
 unfold GH;rw [va4];omega
theorem Fy:∀ (l:LI) (s:BA),s.size≤(KV s l).size
 | [],s=>AZ _
 | x :: l,s=>by
  rw [KV];refine C1 ?_ (Fy l _);have key:∀ w k,s.size≤(GH s w k).size:=fun w k=>by
   rw [S9,S9,P4,AT];omega
  cases GS x
  ·exact key _ _
  ·exact key _ _
theorem zfH {v:Vd} (h:v.right=true):0 < (EL v).size:=by
 unfold EL;rw [h];simp only [BJ];cases v.kind==1 with
 | true=>simp only [BJ]; exact CW (kB _ _ _) (Fy _ _)
 | false=>
  simp only [A9];cases v.kind==2 with
  | true=>exact kB _ _ _
  | false=>
   simp only [A9];cases v.kind==3 with
   | true=>exact kB _ _ _
   | false=>exact kB _ _ _
theorem Mq:∀ l:LI,l.length≤(NO l).length
 | []=>AZ _
 | x :: l=>by
  have:=Mq l
  simp only [NO,AT,AM];omega
theorem mT {v:Vd} (h:v.bare=true):v.w0=0∧v.w1=0∧v.w2=0∧v.w3=0∧v.twin=0:=by
 unfold Vd.bare at h;simpa using h
theorem zgd {v:Vd} (hr:v.right=true) (hv:v.rng):VSame (II (EL v)) v:=by
 have hlen:=rX hr;have hr':=hr;unfold Vd.right at hr;simp only [AI,vap,B8] at hr;have c1:((1:Nat):Int)=1:=rfl;have c2:((2:Nat):Int)=2:=rfl;have c3:((3:Nat):Int)=3:=rfl;have c4:((4:Nat):Int)=4:=rfl;have c5:((5:Nat):Int)=5:=rfl;have c6:((6:Nat):Int)=6:=rfl;rcases hr.2.2 with ⟨hk,hb,hs⟩ | ⟨hk,he⟩ | ⟨hk,hb,he⟩
 ·have hd:(EL v).data.toList=HX I0.data.toList [v.spent,ic v.proof.length]++10 :: NO v.proof:=by
   unfold EL;rw [hr',hk];have e1:((1:Int)==1)=true:=rfl;simp only [BJ,e1];rw [rA,P4];simp [IV.toInt]
  obtain ⟨h1,h2⟩:=ZD hd (by decide) (by decide);have n1:=P5 h1 1 (n:=v.spent) rfl hv.spent;rw [c1] at n1;have hst:PH v.proof=true:=hs;unfold PH at hs;simp only [AI,AQ] at hs;have hread:=Gx v.proof ((FQ (EL v) EP).size+1) _ [] h2 (by
   have:=Mq v.proof
   rw [← h2,← S9] at this;omega) (by simp only [A6]; omega) hv.proof
  unfold II;rw [NR h1];simp only [DA,BJ];obtain ⟨b0,b1,b2,b3,b4⟩:=mT hb;refine ⟨hk.symm,?_,b0.symm,b1.symm,b2.symm,b3.symm,b4.symm,n1⟩;simp only;rw [hread,C4];exact yQ hs.2.2
 ·have hp:v.proof=[]:=List.isEmpty_iff.1 he;have hd:(EL v).data.toList=HX QK.data.toList [v.spent,v.w0,v.w1,v.w2,v.w3,v.twin]++10 :: []:=by
   unfold EL;rw [hr',hk];have e1:((2:Int)==1)=false:=rfl;have e2:((2:Int)==2)=true:=rfl;simp only [BJ,A9,e1,e2];rw [P4];simp [IV.toInt]
  obtain ⟨h1,_⟩:=ZD hd (by decide) (by decide);have n1:=P5 h1 1 (n:=v.spent) rfl hv.spent;have n2:=P5 h1 2 (n:=v.w0) rfl hv.w0;have n3:=P5 h1 3 (n:=v.w1) rfl hv.w1;have n4:=P5 h1 4 (n:=v.w2) rfl hv.w2;have n5:=P5 h1 5 (n:=v.w3) rfl hv.w3;have n6:=P5 h1 6 (n:=v.twin) rfl hv.twin;rw [c1] at n1;rw [c2] at n2;rw [c3] at n3;rw [c4] at n4;rw [c5] at n5;rw [c6] at n6;unfold II;rw [NR h1,NR h1];have e1:(QK.data.toList==I0.data.toList)=false:=by decide
  simp only [e1,A9,DA,BJ];exact ⟨hk.symm,by rw [hp]; rfl,n2,n3,n4,n5,n6,n1⟩
 ·have hp:v.proof=[]:=List.isEmpty_iff.1 he;obtain ⟨b0,b1,b2,b3,b4⟩:=mT hb;rcases hk with hk | hk
  ·have hd:(EL v).data.toList=HX QL.data.toList [v.spent]++10 :: []:=by
    unfold EL;rw [hr',hk];have e1:((3:Int)==1)=false:=rfl;have e2:((3:Int)==2)=false:=rfl;have e3:((3:Int)==3)=true:=rfl;simp only [BJ,A9,e1,e2,e3];rw [P4];simp [IV.toInt]
   obtain ⟨h1,_⟩:=ZD hd (by decide) (by decide);have n1:=P5 h1 1 (n:=v.spent) rfl hv.spent;rw [c1] at n1;unfold II;rw [NR h1,NR h1,NR h1];have e1:(QL.data.toList==I0.data.toList)=false:=by decide
   have e2:(QL.data.toList==QK.data.toList)=false:=by decide
   simp only [e1,e2,A9,DA,BJ];exact ⟨hk.symm,by rw [hp]; rfl,b0.symm,b1.symm,b2.symm,b3.symm,b4.symm,n1⟩
  ·have hd:(EL v).data.toList=HX QM.data.toList [v.spent]++10 :: []:=by
    unfold EL;rw [hr',hk];have e1:((4:Int)==1)=false:=rfl;have e2:((4:Int)==2)=false:=rfl;have e3:((4:Int)==3)=false:=rfl;simp only [BJ,A9,e1,e2,e3];rw [P4];simp [IV.toInt]
   obtain ⟨h1,_⟩:=ZD hd (by decide) (by decide);have n1:=P5 h1 1 (n:=v.spent) rfl hv.spent;rw [c1] at n1;unfold II;rw [NR h1,NR h1,NR h1,NR h1];have e1:(QM.data.toList==I0.data.toList)=false:=by decide
   have e2:(QM.data.toList==QK.data.toList)=false:=by decide
   have e3:(QM.data.toList==QL.data.toList)=false:=by decide
   simp only [e1,e2,e3,A9,DA,BJ];exact ⟨hk.symm,by rw [hp]; rfl,b0.symm,b1.symm,b2.symm,b3.symm,b4.symm,n1⟩
theorem zfw {v:Vd} (hv:v.rng):U1 (EL v)=v.right:=by
 unfold U1;cases h:v.right with
 | false=>
  rw [zfI h];simp
 | true=>
  have hp:=zfH h;have hne:¬ EL v=EB:=fun e=>by rw [e] at hp; cases hp
  rw [YZ,YZ,AL hne,zfN (zgd h hv),AD rfl];rfl
open Go
theorem zcc (x y:List UInt8) (r:List (List UInt8)):Lib.join (x :: y :: r) [32]=x++32 :: Lib.join (y :: r) [32]:=by
 rw [Lib.join_cons,Lib.join_cons];simp [Lib.joinTail]
theorem Kv:∀ (x:List UInt8) (r:List (List UInt8)),(∀ w∈x :: r,(32:UInt8) ∉ w)→vay (Lib.join (x :: r) [32]) [32]=x :: r
 | x,[],h=>by rw [Lib.join_one]; exact Kx x 32 (h x (AO ..))
 | x,y :: r,h=>by
  rw [zcc,Ku x _ 32 (h x (AO ..)),Kv y r (fun w hw=>h w (AY _ hw))]
theorem kE:∀ {l m:List BA},l.map (·.data.toList)=m.map (·.data.toList)→l=m
 | [],[],_=>rfl
 | [],_ :: _,h=>by simp at h
 | _ :: _,[],h=>by simp at h
 | x :: l,y :: m,h=>by
  simp only [A0,vav] at h;rw [T9 h.1,kE h.2]
theorem Co (ws:List BA) (h0:ws≠[]) (h:∀ w∈ws,(32:UInt8) ∉ w.data.toList):HH (GI ws G2)=ws.map IV.str:=by
 unfold HH;congr 1;apply kE;rw [Kt];cases ws with
 | nil=>exact absurd rfl h0
 | cons x r=>
  show vay (Lib.join ((x :: r).map (·.data.toList)) [32]) [32]=_;rw [A0];exact Kv _ _ (fun w hw=>by
   rcases AP.1 hw with rfl | hw
   ·exact h x (AO ..)
   ·obtain ⟨y,hy,rfl⟩:=CI.1 hw;exact h y (AY _ hy))
theorem Ja (u:Nat):∀ c∈IL u,c.toNat=46∨(48≤c.toNat∧c.toNat≤57):=by
 intro c hc;rw [gE] at hc;rcases AX.1 hc with h | h
 ·exact .inr (W2 _ c h)
 ·split at h
  ·cases h
  ·rename_i h0;rcases AP.1 h with rfl | h
   ·exact .inl rfl
   ·exact .inr ((i8 h0 (by omega:u % 256 < 256)).2.1 c h)
theorem q9 (n:Int):∀ c∈KU n,45≤c.toNat∧c.toNat≤57:=by
 intro c hc;unfold KU at hc;split at hc
 ·rcases AP.1 hc with rfl | h
  ·exact ⟨by decide,by decide⟩
  ·have:=Ja _ c h
   omega
 ·have:=Ja _ c hc
  omega
theorem zb8 (n:Int):∀ c∈vam n,45≤c.toNat∧c.toNat≤57:=by
 intro c hc
 have:=zb6 n c hc
 omega
theorem zb9 (n:Int):vam n≠[]:=by
 unfold vam;split
 ·simp
 ·exact i7 _
theorem S1 {l:List UInt8} (h:∀ c∈l,45≤c.toNat∧c.toNat≤57):(32:UInt8) ∉ l:=fun hc=>by
 have:=(h _ hc).1
 revert this;decide
theorem dS {x y:BA} (h:x≠y):(x.toList==y.toList)=false:=by rw [iQ]; exact AL h
theorem T8 (x:BA):(x.toList==x.toList)=true:=by simp
theorem Dl {w x:BA} (hw:∀ c∈w.data.toList,97≤c.toNat) (hx:x.data.toList≠[]) (h:∀ c∈x.data.toList,45≤c.toNat∧c.toNat≤57):(w.toList==x.toList)=false:=by
 refine dS (fun e=>?_);subst e;cases hl:w.data.toList with
 | nil=>exact hx hl
 | cons c r=>
  have h1:=hw c (by rw [hl]; exact AO ..);have h2:=h c (by rw [hl]; exact AO ..);omega
def K9:List UInt8→Bool
 | []=>true
 | [c]=>!(c==46)
 | a :: b :: r=>!(a==46&&b==46)&&K9 (b :: r)
theorem pZ:∀ {l:List UInt8},(∀ c∈l,c≠46)→K9 l=true
 | [],_=>rfl
 | [c],h=>by simp [K9,h c (AO ..)]
 | a :: b :: r,h=>by
  have ha:=h a (AO ..);have e:(a==46)=false:=A4.2 ha;simp only [K9,e,BL,A7,BC];exact pZ (fun c hc=>h c (AY _ hc))
theorem pY:∀ {l:List UInt8} {c:UInt8} {r:List UInt8},(∀ c∈l,c≠46)→c≠46→K9 (c :: r)=true→K9 (l++46 :: c :: r)=true
 | [],c,r,_,hc,hr=>by
  have e:(c==46)=false:=A4.2 hc;simp only [C4,K9,e,vaf,A7,BC,hr]
 | [a],c,r,h,hc,hr=>by
  have e:(a==46)=false:=A4.2 (h a (AO ..))
  have:=pY (l:=[]) (fun c hc=>by cases hc) hc hr
  simp only [C4] at this;simp only [CT,C4,K9,e,BL,A7,BC];simpa only [K9] using this
 | a :: b :: l,c,r,h,hc,hr=>by
  have e:(a==46)=false:=A4.2 (h a (AO ..))
  have:=pY (l:=b :: l) (fun c hc=>h c (AY _ hc)) hc hr
  simp only [CT] at this ⊢;simp only [K9,e,BL,A7,BC];exact this
theorem oY:∀ (w r:List UInt8),K9 w=true→Lib.index (w++46 :: 46 :: r) [46,46]=w.length
 | [],r,_=>by simp [Lib.index,vbA]
 | [c],r,h=>by
  have e:(c==46)=false:=by simpa [K9] using h
  have e':((46:UInt8)==c)=false:=by rw [A4] at e ⊢; exact fun h=>e h.symm
  have h0:=oY [] r rfl;simp only [C4,A6] at h0;rw [List.singleton_append,Lib.index,h0];simp [vbA,e']
 | a :: b :: l,r,h=>by
  simp only [K9,AI] at h;have ih:=oY (b :: l) r h.2;have e:[(46:UInt8),46].isPrefixOf (a :: b :: l++46 :: 46 :: r)=false:=by
   simp only [CT,vbA,B2];have h1:=h.1;cases ha:(a==46) with
   | false=>
    have:((46:UInt8)==a)=false:=by rw [A4] at ha ⊢; exact fun h=>ha h.symm
    rw [this,BL]
   | true=>
    rw [ha,BC] at h1;have hb:(b==46)=false:=by simpa using h1
    have:((46:UInt8)==b)=false:=by rw [A4] at hb ⊢; exact fun h=>hb h.symm
    rw [this,vaf]
  have e2:(((b :: l).length:Int) == -1)=false:=by rw [A4]; simp only [AM]; omega
  rw [CT,Lib.index];rw [CT] at e;rw [e,ih,e2];simp
theorem Dr (u:Nat):K9 (IL u)=true:=by
 have hd:∀ c∈BU (u / 256),c≠46:=fun c hc e=>by
  subst e
  have:=W2 _ _ hc
  revert this;decide
 rw [gE];by_cases h:u % 256=0
 ·rw [BP h,DB];exact pZ hd
 ·rw [BD h];obtain ⟨_,h2,l,c,h3,_⟩:=i8 h (by omega:u % 256 < 256);have hp:∀ c∈KB (u % 256),c≠46:=fun c hc e=>by
   subst e
   have:=h2 _ hc
   revert this;decide
  cases hl:KB (u % 256) with
  | nil=>rw [h3] at hl; simp at hl
  | cons x r=>
   rw [hl] at hp;exact pY hd (hp x (AO ..)) (pZ hp)
theorem zeM (n:Int):K9 (KU n)=true:=by
 unfold KU;split
 ·obtain ⟨c,r,h,_⟩:=sI n.natAbs
  have:=Dr n.natAbs
  rw [h] at this ⊢;simp only [K9,AI];exact ⟨by rfl,this⟩
 ·exact Dr _
theorem Vi (w r:List UInt8) (h:K9 w=true):vaP (w++46 :: 46 :: r) [46,46]=(w,r,true):=by
 unfold vaP;rw [oY w r h,BP (by omega)];simp
theorem Ks (a b:Int):cutL (MZ a b) aG=DU a∧FQ (MZ a b) aG=DU b:=by
 have e:(MZ a b).data.toList=KU a++46 :: 46 :: KU b:=by
  unfold MZ;simp only [ByteArray.data_append,vai];show (KU a++[46,46])++KU b=_;simp
 unfold cutL FQ;rw [e]
 have:=Vi (KU a) (KU b) (zeM a)
 show (⟨(vaP _ [46,46]).1.toArray⟩:BA)=_∧(⟨(vaP _ [46,46]).2.1.toArray⟩:BA)=_;rw [this];exact ⟨rfl,rfl⟩
theorem Qy.eq_of {p q:Qy} (h:p.eq q=true):p=q:=by
 cases p; cases q;simp only [Qy.eq,AI,B8,B7] at h;simp only [Qy.mk.injEq];exact h
theorem Qy.eq_self (p:Qy):p.eq p=true:=by
 simp [Qy.eq]
theorem Q5 {n:Int} (h:ED n):FF (DP n)=n:=vF rfl h.1 h.2
theorem gB {n:Int} (h:ED n):F7 (DU n)=n:=(zfO h).2
theorem ZV (n:Int):∀ c∈(DU n).data.toList,45≤c.toNat∧c.toNat≤57:=q9 n
theorem OY (n:Int):∀ c∈(DP n).data.toList,45≤c.toNat∧c.toNat≤57:=zb8 n
theorem zfG (n:Int):(DU n).data.toList≠[]:=by
 obtain ⟨c,r,h,_⟩:=Gb n;rw [h];simp
theorem Kq (a b:Int):∀ c∈(MZ a b).data.toList,45≤c.toNat∧c.toNat≤57:=by
 intro c hc;unfold MZ at hc;simp only [ByteArray.data_append,vai,AX] at hc;rcases hc with (h | h) | h
 ·exact q9 a c h
 ·have h:c∈[(46:UInt8),46]:=h;simp only [AP,BX,CP,or_self] at h;subst h;decide
 ·exact q9 b c h
theorem zjs (q:Qy) (D:Nat):∀ w∈JG q D,(32:UInt8) ∉ w.data.toList:=by
 intro w hw;unfold JG at hw;have key:∀ x∈HW q,(32:UInt8) ∉ x.data.toList:=by
  intro x hx;unfold HW at hx;cases h1:(q.k==1) <;> rw [h1] at hx <;> simp only [BJ,A9] at hx
  ·cases h2:(q.k==2) <;> rw [h2] at hx <;> simp only [BJ,A9,AP,BX,CP] at hx
   ·rcases hx with rfl | rfl | rfl | rfl
    ·cases q.fl <;> decide
    ·exact S1 (OY _)
    ·decide
    ·exact S1 (OY _)
   ·rcases hx with rfl | rfl
    ·decide
    ·exact S1 (OY _)
  ·simp only [AP,BX,CP] at hx;rcases hx with rfl | rfl | rfl | rfl | rfl | rfl
   ·decide
   ·exact S1 (OY _)
   ·decide
   ·exact S1 (ZV _)
   ·decide
   ·exact S1 (ZV _)
 rcases AX.1 hw with h | h
 ·rcases AX.1 h with h | h
  ·exact key w h
  ·rcases AP.1 h with rfl | h
   ·decide
   ·obtain ⟨s,_,rfl⟩:=CI.1 h;exact S1 (Kq _ _)
 ·simp only [AP,BX,CP] at h;rcases h with rfl | rfl
  ·decide
  ·exact S1 (OY _)
theorem Bd (w:BA):∀ (l:LI) (r:LI) (k:Int),(∀ x∈l,(w.toList==x.toStr.toList)=false)→FY (l++.str w :: r) w k=k+(l.length:Int)
 | [],r,k,_=>by
  simp only [C4,FY,IV.toStr,T8,BJ,A6];omega
 | x :: l,r,k,h=>by
  rw [CT,FY,h x (AO ..),A9,Bd w l r (k+1) (fun y hy=>h y (AY _ hy))];simp only [AM];omega
theorem zbV (q:Qy):∀ x∈(HW q).map IV.str,(NQ.toList==x.toStr.toList)=false:=by
 intro y hy;obtain ⟨x,hx,rfl⟩:=CI.1 hy;simp only [IV.toStr];have li:∀ c∈NQ.data.toList,97≤c.toNat:=by decide
 have ni:=fun n=>Dl li (zb9 n) (OY n)
 have np:=fun n=>Dl li (zfG n) (ZV n)
 have dd:∀ {a b:BA},a.data.toList≠b.data.toList→(a.toList==b.toList)=false:=fun h=>dS (fun e=>h (by rw [e]))
 unfold HW at hx;cases h1:(q.k==1) <;> rw [h1] at hx <;> simp only [BJ,A9] at hx
 ·cases h2:(q.k==2) <;> rw [h2] at hx <;> simp only [BJ,A9,AP,BX,CP] at hx
  ·rcases hx with rfl | rfl | rfl | rfl
   ·cases q.fl <;> exact dd (by decide)
   ·exact ni _
   ·exact dd (by decide)
   ·exact ni _
  ·rcases hx with rfl | rfl
   ·exact dd (by decide)
   ·exact ni _
 ·simp only [AP,BX,CP] at hx;rcases hx with rfl | rfl | rfl | rfl | rfl | rfl
  ·exact dd (by decide)
  ·exact ni _
  ·exact dd (by decide)
  ·exact np _
  ·exact dd (by decide)
  ·exact np _
theorem zbW (q:Qy) (hc:ED q.c) (hlo:ED q.lo) (hhi:ED q.hi) (hft:ED q.ft) (hk:q.k=1∨q.k=2∨q.k=3) (n1:q.k≠1→q.lo=0∧q.hi=0) (n3:q.k≠3→q.ft=0∧q.fl=false) :
  EK ((HW q).map IV.str)=⟨q.k,q.c,0,0,0,0,0,0,0,0,0,0,q.lo,q.hi,q.ft,q.fl,0⟩:=by
 have dd:∀ {a b:BA},a.data.toList≠b.data.toList→(a.toList==b.toList)=false:=fun h=>dS (fun e=>h (by rw [e]))
 obtain ⟨k,c,a0,b0,a1,b1,a2,b2,a3,b3,a4,b4,lo,hi,ft,fl,bu⟩:=q;simp only at hc hlo hhi hft hk n1 n3 ⊢;rcases hk with rfl | rfl | rfl
 ·obtain ⟨rfl,rfl⟩:=n3 (by decide);show EK [IV.str M0,IV.str (DP c),IV.str VH,IV.str (DU lo),IV.str VK,IV.str (DU hi)]=_;unfold EK;rw [show DW [IV.str M0,IV.str (DP c),IV.str VH,IV.str (DU lo),IV.str VK,IV.str (DU hi)] 0=M0 from rfl,T8,BJ,
   show DW [IV.str M0,IV.str (DP c),IV.str VH,IV.str (DU lo),IV.str VK,IV.str (DU hi)] 1=DP c from rfl,show DW [IV.str M0,IV.str (DP c),IV.str VH,IV.str (DU lo),IV.str VK,IV.str (DU hi)] 3=DU lo from rfl,
   show DW [IV.str M0,IV.str (DP c),IV.str VH,IV.str (DU lo),IV.str VK,IV.str (DU hi)] 5=DU hi from rfl,Q5 hc,gB hlo,gB hhi]
 ·obtain ⟨rfl,rfl⟩:=n3 (by decide);obtain ⟨rfl,rfl⟩:=n1 (by decide);show EK [IV.str OF,IV.str (DP c)]=_;unfold EK;rw [show DW [IV.str OF,IV.str (DP c)] 0=OF from rfl,dd (show OF.data.toList≠M0.data.toList by decide),A9,T8,BJ,show DW [IV.str OF,IV.str (DP c)] 1=DP c from rfl,Q5 hc]
 ·obtain ⟨rfl,rfl⟩:=n1 (by decide);cases fl with
  | true=>
   show EK [IV.str MB,IV.str (DP c),IV.str OG,IV.str (DP ft)]=_;unfold EK;rw [show DW [IV.str MB,IV.str (DP c),IV.str OG,IV.str (DP ft)] 0=MB from rfl,dd (show MB.data.toList≠M0.data.toList by decide),A9,dd (show MB.data.toList≠OF.data.toList by decide),A9,dd (show MB.data.toList≠M1.data.toList by decide),T8,vaz,BJ,
    show DW [IV.str MB,IV.str (DP c),IV.str OG,IV.str (DP ft)] 1=DP c from rfl,show DW [IV.str MB,IV.str (DP c),IV.str OG,IV.str (DP ft)] 3=DP ft from rfl,Q5 hc,Q5 hft]
  | false=>
   show EK [IV.str M1,IV.str (DP c),IV.str OG,IV.str (DP ft)]=_;unfold EK;rw [show DW [IV.str M1,IV.str (DP c),IV.str OG,IV.str (DP ft)] 0=M1 from rfl,dd (show M1.data.toList≠M0.data.toList by decide),A9,dd (show M1.data.toList≠OF.data.toList by decide),A9,dd (show M1.data.toList≠MB.data.toList by decide),T8,Bool.or_false,BJ,
    show DW [IV.str M1,IV.str (DP c),IV.str OG,IV.str (DP ft)] 1=DP c from rfl,show DW [IV.str M1,IV.str (DP c),IV.str OG,IV.str (DP ft)] 3=DP ft from rfl,Q5 hc,Q5 hft]
theorem uC (A B:LI) (i:Nat):DW (A++B) (A.length+i)=DW B i:=by
 unfold DW;congr 1;rw [AH,vbu (by omega),Nat.add_sub_cancel_left];rfl
def KJ (q:Qy) (D:Nat):LI:=(NQ :: ((q.spans.take D).map fun s=>MZ s.1 s.2)++[VG,DP q.bu]).map IV.str
theorem Ow (q:Qy) (D:Nat):(JG q D).map IV.str=(HW q).map IV.str++KJ q D:=by
 unfold JG KJ;simp
theorem zf0 (q:Qy) (hc:ED q.c) (hlo:ED q.lo) (hhi:ED q.hi) (hft:ED q.ft) (hbu:ED q.bu) (hsp:∀ s∈q.spans,ED s.1∧ED s.2) (D:Nat) (h1:1≤D) (h4:D≤4) (hk:q.k=1∨q.k=2∨q.k=3) (ht:q=FU q D) :
  fX ((JG q D).map IV.str) (HW q).length D=q:=by
 rw [Ow];have ht':=ht;have n1:q.k≠1→q.lo=0∧q.hi=0:=fun hn=>by
  have e:(q.k==1)=false:=A4.2 hn;have a:=congrArg Qy.lo ht';have b:=congrArg Qy.hi ht';simp only [FU,e,A9] at a b;exact ⟨a,b⟩
 have n3:q.k≠3→q.ft=0∧q.fl=false:=fun hn=>by
  have e:(q.k==3)=false:=A4.2 hn;have a:=congrArg Qy.ft ht';have b:=congrArg Qy.fl ht';simp only [FU,e,A9] at a b;exact ⟨a,b⟩
 have hh:=zbW q hc hlo hhi hft hk n1 n3;have hlen:((HW q).map IV.str).length=(HW q).length:=BG ..
 generalize hA:(HW q).map IV.str=A at hh hlen;have htk:AK (HW q).length (A++KJ q D)=A:=by rw [← hlen]; exact List.take_left
 have spA_of:∀ (i:Nat) (a b:Int),ED a→DW (KJ q D) i=MZ a b→RT (A++KJ q D) ((HW q).length+i)=a:=fun i a b ha e=>by
  unfold RT;rw [← hlen,uC,e,(Ks a b).1];exact gB ha
 have spB_of:∀ (i:Nat) (a b:Int),ED b→DW (KJ q D) i=MZ a b→RU (A++KJ q D) ((HW q).length+i)=b:=fun i a b hb e=>by
  unfold RU;rw [← hlen,uC,e,(Ks a b).2];exact gB hb
 have hlast:(A++KJ q D).length - 1=(HW q).length+((KJ q D).length - 1):=by
  rw [AT,hlen]
  have:0 < (KJ q D).length:=by unfold KJ; simp
  omega
 unfold fX;rw [htk,hh,hlast,← hlen,uC,hlen];clear htk hh hlast;obtain ⟨k,c,a0,b0,a1,b1,a2,b2,a3,b3,a4,b4,lo,hi,ft,fl,bu⟩:=q;have s0:=hsp (a0,b0) (by simp [Qy.spans]);have s1:=hsp (a1,b1) (by simp [Qy.spans]);have s2:=hsp (a2,b2) (by simp [Qy.spans]);have s3:=hsp (a3,b3) (by simp [Qy.spans]);simp only [FU,Qy.mk.injEq,vaC] at ht;obtain ⟨t1,t2,t3,t4,t5,t6,t7,t8,t9,t10,_⟩:=ht;have hD:D=1∨D=2∨D=3∨D=4:=by omega
 have n45:a4=0∧b4=0:=by
  rw [AL (show ¬ (4:Int) < D by omega)] at t9 t10;exact ⟨t9,t10⟩
 obtain ⟨rfl,rfl⟩:=n45;have hbu:ED bu:=hbu;rcases hD with rfl | rfl | rfl | rfl
 ·simp only [show decide ((1:Int) < ((1:Nat):Int))=false from rfl,show decide ((2:Int) < ((1:Nat):Int))=false from rfl,show decide ((3:Int) < ((1:Nat):Int))=false from rfl,A9] at t3 t4 t5 t6 t7 t8;subst t3 t4 t5 t6 t7 t8;rw [spA_of 1 a0 b0 s0.1 rfl,spB_of 1 a0 b0 s0.2 rfl,show DW (KJ ⟨k,c,a0,b0,0,0,0,0,0,0,0,0,lo,hi,ft,fl,bu⟩ 1) ((KJ ⟨k,c,a0,b0,0,0,0,0,0,0,0,0,lo,hi,ft,fl,bu⟩ 1).length - 1)=DP bu from rfl,Q5 hbu];rfl
 ·simp only [show decide ((2:Int) < ((2:Nat):Int))=false from rfl,show decide ((3:Int) < ((2:Nat):Int))=false from rfl,A9] at t5 t6 t7 t8;subst t5 t6 t7 t8;rw [spA_of 1 a0 b0 s0.1 rfl,spB_of 1 a0 b0 s0.2 rfl,spA_of 2 a1 b1 s1.1 rfl,spB_of 2 a1 b1 s1.2 rfl,show DW (KJ ⟨k,c,a0,b0,a1,b1,0,0,0,0,0,0,lo,hi,ft,fl,bu⟩ 2) ((KJ ⟨k,c,a0,b0,a1,b1,0,0,0,0,0,0,lo,hi,ft,fl,bu⟩ 2).length - 1)=DP bu from rfl,Q5 hbu];rfl
 ·simp only [show decide ((3:Int) < ((3:Nat):Int))=false from rfl,A9] at t7 t8;subst t7 t8;rw [spA_of 1 a0 b0 s0.1 rfl,spB_of 1 a0 b0 s0.2 rfl,spA_of 2 a1 b1 s1.1 rfl,spB_of 2 a1 b1 s1.2 rfl,spA_of 3 a2 b2 s2.1 rfl,spB_of 3 a2 b2 s2.2 rfl,show DW (KJ ⟨k,c,a0,b0,a1,b1,a2,b2,0,0,0,0,lo,hi,ft,fl,bu⟩ 3) ((KJ ⟨k,c,a0,b0,a1,b1,a2,b2,0,0,0,0,lo,hi,ft,fl,bu⟩ 3).length - 1)=DP bu from rfl,Q5 hbu];rfl
 ·rw [spA_of 1 a0 b0 s0.1 rfl,spB_of 1 a0 b0 s0.2 rfl,spA_of 2 a1 b1 s1.1 rfl,spB_of 2 a1 b1 s1.2 rfl,spA_of 3 a2 b2 s2.1 rfl,spB_of 3 a2 b2 s2.2 rfl,spA_of 4 a3 b3 s3.1 rfl,spB_of 4 a3 b3 s3.2 rfl,show DW (KJ ⟨k,c,a0,b0,a1,b1,a2,b2,a3,b3,0,0,lo,hi,ft,fl,bu⟩ 4) ((KJ ⟨k,c,a0,b0,a1,b1,a2,b2,a3,b3,0,0,lo,hi,ft,fl,bu⟩ 4).length - 1)=DP bu from rfl,Q5 hbu];rfl
theorem Er {q:Qy} {d:Int} (h:N9 q d=true):1≤d∧d≤4∧q=FU q d∧J5 q.c=true∧J5 q.ft=true∧J5 q.bu=true∧(q.k=1∨q.k=2∨q.k=3):=by
 unfold N9 at h;simp only [AI,B3,BW,vap,B8] at h;obtain ⟨⟨h1,h2⟩,h3,h4,h5,h6,h7⟩:=h;exact ⟨by omega,by omega,Qy.eq_of h3,h4,h5,h6,h7⟩
theorem zjq (q:Qy) (D:Nat):JG q D≠[]:=by
 unfold JG;simp
theorem Tb {q:Qy} {d:Int} (hc:ED q.c) (hlo:ED q.lo) (hhi:ED q.hi) (hft:ED q.ft) (hbu:ED q.bu) (hsp:∀ s∈q.spans,ED s.1∧ED s.2) (h:N9 q d=true):OR (D9 q d)=true∧GU (D9 q d)=q∧PU (D9 q d)=d:=by
 obtain ⟨h1,h4,ht,_,_,_,hk⟩:=Er h;obtain ⟨D,rfl⟩:∃ D:Nat,d=D:=⟨d.toNat,by omega⟩;have hp:D9 q (D:Int)=GI (JG q D) G2:=by
  unfold D9;rw [h];rfl
 have hline:HH (D9 q (D:Int))=(JG q D).map IV.str:=by
  rw [hp];exact Co _ (zjq q D) (zjs q D)
 have hI:ND (D9 q (D:Int))=((HW q).length:Int):=by
  unfold ND;rw [hline,Ow];show FY ((HW q).map IV.str++IV.str NQ :: _) NQ 0=_;rw [Bd NQ _ _ 0 (zbV q),BG];omega
 have hD:N7 (D9 q (D:Int))=(D:Int):=by
  unfold N7;rw [hline,hI,BG]
  have:(JG q D).length=(HW q).length+1+D+2:=by
   unfold JG;simp only [AT,AM,BG,BB,A6,Qy.spans];omega
  rw [this];simp only [ic];omega
 have hQ:e9 (D9 q (D:Int))=q:=by
  unfold e9;rw [hline,hI,hD];exact zf0 q hc hlo hhi hft hbu hsp D (by omega) (by omega) hk ht
 have hok:OR (D9 q (D:Int))=true:=by
  unfold OR;rw [hI,hD,hQ,AL (show ¬ ((HW q).length:Int) < 0 by omega),AL (show ¬ (D:Int) < 1 by omega),AL (show ¬ (D:Int) > 4 by omega),T8];rfl
 refine ⟨hok,?_,?_⟩
 ·unfold GU;rw [hok,hQ];rfl
 ·unfold PU;rw [hok,hD];rfl
theorem Ga {q:Qy} {d:Int} (h:N9 q d=false):D9 q d=YA:=by
 unfold D9;rw [h];rfl
open Go
theorem jV (c:UInt8) (x y:List UInt8) (r:List (List UInt8)):Lib.join (x :: y :: r) [c]=x++c :: Lib.join (y :: r) [c]:=by
 rw [Lib.join_cons,Lib.join_cons];simp [Lib.joinTail]
theorem sZ (c:UInt8):∀ (x:List UInt8) (r:List (List UInt8)),(∀ w∈x :: r,c ∉ w)→vay (Lib.join (x :: r) [c]) [c]=x :: r
 | x,[],h=>by rw [Lib.join_one]; exact Kx x c (h x (AO ..))
 | x,y :: r,h=>by
  rw [jV,Ku x _ c (h x (AO ..)),sZ c y r (fun w hw=>h w (AY _ hw))]
theorem pR (c e:UInt8) (hne:e≠c):∀ (l:List (List UInt8)),(∀ w∈l,e ∉ w)→e ∉ Lib.join l [c]
 | [],_=>by rw [Lib.join_nil]; simp
 | [x],h=>by rw [Lib.join_one]; exact h x (AO ..)
 | x :: y :: r,h=>by
  rw [jV];intro hm;rcases AX.1 hm with hm | hm
  ·exact h x (AO ..) hm
  ·rcases AP.1 hm with hm | hm
   ·exact hne hm
   ·exact pR c e hne (y :: r) (fun w hw=>h w (AY _ hw)) hm
structure WsOK (ws:List BA):Prop where
 ne:ws≠[]
 sp:∀ w∈ws,(32:UInt8) ∉ w.data.toList
 lf:∀ w∈ws,(10:UInt8) ∉ w.data.toList
def FT (ws:List BA):IV:=.str (GI ws G2)
theorem Bo (ws:List BA):(GI ws G2).data.toList=Lib.join (ws.map (·.data.toList)) [32]:=rfl
theorem Cm (ws:List BA):(FO ws).data.toList=(GI ws G2).data.toList++[10]:=by
 unfold FO;simp
theorem tP:∀ (x:List BA) (r:List (List BA)),(F5 (x :: r)).data.toList=Lib.join ((x :: r).map fun ws=>(GI ws G2).data.toList) [10]++[10]
 | x,[]=>by
  have e:F5 [x]=FO x:=by
   show FO x++CK=_;rw [ByteArray.append_empty]
  rw [e,Cm,A0,CA,Lib.join_one]
 | x,y :: r=>by
  have e:(F5 (x :: y :: r)).data.toList=(FO x).data.toList++(F5 (y :: r)).data.toList:=by
   rw [F5];simp
  rw [e,tP y r,Cm];simp only [A0];rw [jV];simp
theorem Nu {s:BA} {l:List UInt8} (h:s.data.toList=l++[10]):(aD s).data.toList=l:=by
 have hz:s.size=l.length+1:=by rw [S8,h,AT]; rfl
 have hs:SW s PL=true:=by
  unfold SW;have e1:AG PL=1:=rfl;rw [e1,AD (show 1≤s.size by omega),BC,iQ];refine AD (T9 ?_);rw [vbe,Array.toList_extract,List.extract_eq_take_drop,h,hz];simp
 have e1:AG PL=1:=rfl;unfold aD GT;rw [hs,e1];show (s.extract 0 (s.size - 1)).data.toList=l;rw [vbe,Array.toList_extract,List.extract_eq_take_drop,h,hz];simp
theorem zcD (x:List BA) (r:List (List BA)) (h:∀ ws∈x :: r,WsOK ws):UT (F5 (x :: r))=(x :: r).map FT:=by
 unfold UT;have hd:(D2 (aD (F5 (x :: r))) PL)=(x :: r).map fun ws=>GI ws G2:=by
  apply kE;rw [Kt,Nu (tP x r)];show vay (Lib.join ((x :: r).map fun ws=>(GI ws G2).data.toList) [10]) [10]=_;rw [vaJ,A0,sZ]
  ·rfl
  ·intro w hw;rw [← A0 (f:=fun ws=>(GI ws G2).data.toList)] at hw;obtain ⟨ws,hws,rfl⟩:=CI.1 hw;rw [Bo];refine pR 32 10 (by decide) _ fun v hv=>?_
   obtain ⟨u,hu,rfl⟩:=CI.1 hv;exact (h ws hws).lf u hu
 rw [hd,vaJ];rfl
theorem kI {ws:List BA} (h:WsOK ws) (r:LI):EX (FT ws :: r)=ws.map IV.str:=Co ws h.ne h.sp
theorem qB {l:List UInt8} (h:∀ c∈l,45≤c.toNat∧c.toNat≤57):(32:UInt8) ∉ l∧(10:UInt8) ∉ l:=by
 refine ⟨S1 h,fun hc=>?_⟩
 have:=(h _ hc).1
 revert this;decide
theorem WZ {n most:Int} (h0:0≤n) (h1:n≤most) (h2:most≤1000):FK (DP n) most=n:=by
 have hv:FF (DP n)=n:=vF rfl (by omega) (by omega);have hn:KM (DP n)=true:=by
  unfold KM
  have:(DP n).data.toList=vam n:=rfl
  rw [this,vH n (by omega) (by omega)]
 unfold FK;rw [hn,hv,AL (show ¬ n < 0 by omega),AL (show ¬ n > most by omega)];rfl
theorem U8 {n:Int} (h : -2147483648≤n∧n≤2147483647):F7 (DU n)=n:=gB (by unfold ED; omega)
structure NdIn (x:Nd):Prop where
 v : -2147483648≤x.v∧x.v≤2147483647
 f:0≤x.f∧x.f < 4
 a : -2147483648≤x.a∧x.a≤2147483647
 l:0≤x.l∧x.l < 31
 r:0≤x.r∧x.r < 31
 lf:x.lf=true→x.f=0∧x.a=0∧x.l=0∧x.r=0
 fk:x.lf=false→x.v=0
theorem oL {n:Int} (h:E2 n=true) : -2147483648≤n∧n≤2147483647:=by
 unfold E2 at h
 rwa [AI,AQ,AQ] at h
theorem zgm {x:Nd} (h:MW x=true):NdIn x:=by
 obtain ⟨lf,v,f,a,l,r⟩:=x;unfold MW at h;cases lf with
 | true=>
  simp only [BJ,AI,Nd.eq,B8] at h;obtain ⟨⟨_,_,h1,h2,h3,h4,_⟩,hv⟩:=h;subst h1 h2 h3 h4;have z4:(0:Int)≤0∧(0:Int) < 4:=by decide
  have z31:(0:Int)≤0∧(0:Int) < 31:=by decide
  have zf:(-2147483648:Int)≤0∧(0:Int)≤2147483647:=by decide
  exact ⟨oL hv,z4,zf,z31,z31,fun _=>⟨rfl,rfl,rfl,rfl⟩,fun h=>Bool.noConfusion h⟩
 | false=>
  simp only [A9,AI,B8,AQ,Q4] at h;obtain ⟨hv,hf0,hf1,ha,⟨hl0,hl1⟩,hr0,hr1⟩:=h;subst hv;have zf:(-2147483648:Int)≤0∧(0:Int)≤2147483647:=by decide
  have l0:(0:Int)≤l:=by omega
  have r0:(0:Int)≤r:=by omega
  exact ⟨zf,⟨hf0,hf1⟩,oL ha,⟨l0,hl1⟩,⟨r0,hr1⟩,fun h=>Bool.noConfusion h,fun _=>rfl⟩
theorem VN (w:BA) (h:(w.data.toList.all fun c=>!(c==32)&&!(c==10))=true):(32:UInt8) ∉ w.data.toList∧(10:UInt8) ∉ w.data.toList:=by
 rw [CR] at h;refine ⟨fun hc=>?_,fun hc=>?_⟩
 ·have:=h _ hc
  revert this;decide
 ·have:=h _ hc
  revert this;decide
theorem gW {ws:List BA} (hne:ws≠[]) (h:∀ w∈ws,(32:UInt8) ∉ w.data.toList∧(10:UInt8) ∉ w.data.toList):WsOK ws:=⟨hne,fun w hw=>(h w hw).1,fun w hw=>(h w hw).2⟩
theorem XD (n:Int):(32:UInt8) ∉ (DP n).data.toList∧(10:UInt8) ∉ (DP n).data.toList:=qB (OY n)
theorem rC (n:Int):(32:UInt8) ∉ (DU n).data.toList∧(10:UInt8) ∉ (DU n).data.toList:=qB (ZV n)
theorem Dv (x:Nd):WsOK (L6 x):=by
 unfold L6;cases x.lf with
 | true=>
  refine gW (by simp) fun w hw=>?_
  simp only [BJ,AP,BX,CP] at hw;rcases hw with rfl | rfl
  ·exact VN _ (by decide)
  ·exact rC _
 | false=>
  refine gW (by simp) fun w hw=>?_
  simp only [A9,AP,BX,CP] at hw;rcases hw with rfl | rfl | rfl | rfl | rfl | rfl | rfl | rfl
  ·exact VN _ (by decide)
  ·exact XD _
  ·exact VN _ (by decide)
  ·exact rC _
  ·exact VN _ (by decide)
  ·exact XD _
  ·exact VN _ (by decide)
  ·exact XD _
theorem zf3 {x:Nd} (h:NdIn x):NJ ((L6 x).map IV.str)=x:=by
 obtain ⟨lf,v,f,a,l,r⟩:=x;obtain ⟨hv,hf,ha,hl,hr,h1,h2⟩:=h;simp only at hv hf ha hl hr h1 h2;cases lf with
 | true=>
  obtain ⟨rfl,rfl,rfl,rfl⟩:=h1 rfl;have e0:NJ ((L6 ⟨true,v,0,0,0,0⟩).map IV.str)=⟨true,F7 (DU v),0,0,0,0⟩:=by
   have:(AW (DW ((L6 ⟨true,v,0,0,0,0⟩).map IV.str) 0)==AW TH)=true:=T8 _
   unfold NJ;rw [this];rfl
  rw [e0,U8 hv]
 | false=>
  have h2:=h2 rfl;subst h2;have e0:NJ ((L6 ⟨false,0,f,a,l,r⟩).map IV.str)=⟨false,0,FK (DP f) 4,F7 (DU a),FK (DP l) 31,FK (DP r) 31⟩:=by
   have:(AW (DW ((L6 ⟨false,0,f,a,l,r⟩).map IV.str) 0)==AW TH)=false:=dS (x:=lZ) (y:=TH) (by decide)
   unfold NJ;rw [this];rfl
  rw [e0,WZ hf.1 (by omega) (by omega),U8 ha,WZ hl.1 (by omega) (by omega),WZ hr.1 (by omega) (by omega)]
def Oo (w:IV):Prop:=∃ n,w = .int n
def Oq (t:IV):Prop:=∃ k l,t = .agg [.int k,.list l]∧∀ w∈l,Oo w
def YD (m:Md):Prop:=∀ t∈m.ts,Oq t
theorem Dz {dim n:Int}:∀ {l:LI} {i:Nat},KF dim n i l=true→∀ w∈l,GC w.toInt=true
 | [],_,_,w,hw=>by cases hw
 | x :: l,i,h,w,hw=>by
  unfold KF at h;rw [AI,AI] at h;rcases AP.1 hw with rfl | hw
  ·exact h.1.1
  ·exact Dz h.2 w hw
theorem zi1 {d c:Int} {t:IV} (h:HM d c t=true):0≤(t.cell 0).toInt∧(t.cell 0).toInt < c∧1≤(t.cell 1).toList.length∧(t.cell 1).toList.length≤31∧∀ w∈(t.cell 1).toList,GC w.toInt=true:=by
 unfold HM GV at h;simp only [AI,B3,BW] at h;obtain ⟨h1,h2,⟨h3,h4⟩,h5,_⟩:=h;exact ⟨by omega,by omega,AN h3,AN h4,Dz h5⟩
theorem zf4 {l:LI} (hw:∀ w∈l,Oo w) (hn:∀ w∈l,GC w.toInt=true) (R:LI):MT ((HY l).map FT++R) l.length=l:=by
 apply List.ext_getElem?;intro i;unfold MT;by_cases hi:i < l.length
 ·rw [B9,List.getElem?_range hi];have hdr:AS i ((HY l).map FT++R)=FT (L6 (DL l[i].toInt)) :: (((HY l).map FT).drop (i+1)++R):=by
   have hl:((HY l).map FT).length=l.length:=by simp [HY]
   rw [List.drop_append_of_le_length (by omega),BE (by omega)];simp [HY]
  have hb:=hn l[i] (CX hi);obtain ⟨p1,p2⟩:=kK hb;obtain ⟨n,hn'⟩:=hw l[i] (CX hi);have e:(IV.int (IY (NJ (EX (AS i ((HY l).map FT++R))))))=l[i]:=by
   rw [hdr,kI (Dv _),zf3 (zgm p2),p1,hn'];rfl
  show some (IV.int (IY (NJ (EX (AS i ((HY l).map FT++R))))))=_;rw [e,A8 hi]
 ·rw [B1 (by simp; omega),B1 (by omega)]
theorem Nn (t:IV):∀ ws∈TE t,WsOK ws:=by
 intro ws hws;unfold TE at hws;rcases AP.1 hws with rfl | hws
 ·refine gW (by simp) fun w hw=>?_
  simp only [AP,BX,CP] at hw;rcases hw with rfl | rfl | rfl
  ·exact VN _ (by decide)
  ·exact XD _
  ·exact XD _
 ·unfold HY at hws;obtain ⟨w,_,rfl⟩:=CI.1 hws;exact Dv _
theorem Gv {d c:Int} (hc:c≤3):∀ (n:Nat) (ts:LI),ts.length≤n→(∀ t∈ts,Oq t)→ts.all (HM d c)=true→LG n ((GP ts).map FT)=ts
 | 0,[],_,_,_=>rfl
 | 0,_ :: _,h,_,_=>by simp at h
 | n+1,[],_,_,_=>rfl
 | n+1,t :: r,h,hw,ht=>by
  rw [vaA,AI] at ht;obtain ⟨k,l,rfl,hl⟩:=hw t (AO ..);obtain ⟨h1,h2,h3,h4,h5⟩:=zi1 ht.1;have h1:0≤k:=h1;have h2:k < c:=h2;have h3:1≤l.length:=h3;have h4:l.length≤31:=h4;have h5:∀ w∈l,GC w.toInt=true:=h5;have hws:=Nn (.agg [.int k,.list l]) [OH,DP k,DP (ic l.length)] (AO ..);have e:(GP (.agg [.int k,.list l] :: r)).map FT=FT [OH,DP k,DP (ic l.length)] :: ((HY l).map FT++(GP r).map FT):=by
   show (([OH,DP k,DP (ic l.length)] :: HY l)++GP r).map FT=_;rw [List.map_append,A0];rfl
  have hnx:=kI hws ((HY l).map FT++(GP r).map FT);have hk:MS (FT [OH,DP k,DP (ic l.length)] :: ((HY l).map FT++(GP r).map FT))=l.length:=by
   unfold MS;rw [hnx];show (FK (DP (ic l.length)) 31).toNat=_;rw [WZ (by simp only [ic]; omega) (by simp only [ic]; omega) (by omega)];simp only [ic];omega
  have hr:ZX (FT [OH,DP k,DP (ic l.length)] :: ((HY l).map FT++(GP r).map FT)) = .agg [.int k,.list l]:=by
   unfold ZX;rw [hk,hnx];show IV.agg [IV.int (FK (DP k) 3),IV.list (MT ((HY l).map FT++(GP r).map FT) l.length)]=_;rw [WZ h1 (by omega) (by omega),zf4 hl h5]
  have hdl:AS l.length ((HY l).map FT++(GP r).map FT)=(GP r).map FT:=by
   have:l.length=((HY l).map FT).length:=by simp [HY]
   rw [this,List.drop_left]
  rw [e,LG,hr,hk,hdl,Gv hc n r (by simp at h; omega) (fun t ht=>hw t (AY _ ht)) ht.2]
theorem zcM {m:Md} (h:EW m=true):(1≤m.d∧m.d≤4)∧(1≤m.c∧m.c≤3)∧m.ts.length≤8∧(HV m.c 0 m.b0=true∧HV m.c 1 m.b1=true∧HV m.c 2 m.b2=true)∧m.ts.all (HM m.d m.c)=true:=by
 unfold EW at h;simp only [AI,B3,BW] at h;obtain ⟨⟨h1,h2,h3,h4,h5⟩,⟨h6,h7,h8⟩,h9⟩:=h;exact ⟨⟨by omega,by omega⟩,⟨by omega,by omega⟩,AN h5,⟨h6,h7,h8⟩,h9⟩
theorem mV {c j b:Int} (h:HV c j b=true):(-2147483648≤b∧b≤2147483647)∧(c≤j→b=0):=by
 unfold HV at h;rw [AI] at h;refine ⟨oL h.1,fun hj=>?_⟩
 have:=h.2
 rw [AD (show j≥c from hj)] at this;simpa using this
theorem oQ (m:Md):∀ ws∈SX m,WsOK ws:=by
 intro ws hws;unfold SX at hws;simp only [AP,BX,CP] at hws;rcases hws with rfl | rfl
 ·refine gW (by simp) fun w hw=>?_
  simp only [AP,BX,CP] at hw;rcases hw with rfl | rfl | rfl
  ·exact VN _ (by decide)
  ·exact XD _
  ·exact XD _
 ·refine gW (by simp) fun w hw=>?_
  rcases AP.1 hw with rfl | hw
  ·exact VN _ (by decide)
  ·obtain ⟨b,_,rfl⟩:=CI.1 hw;exact rC _
theorem Np:∀ (ts:LI),∀ ws∈GP ts,WsOK ws
 | [],ws,h=>by cases h
 | t :: r,ws,h=>by
  rw [GP] at h;rcases AX.1 h with h | h
  ·exact Nn t ws h
  ·exact Np r ws h
theorem zf2 {m:Md} (h:EW m=true) (hw:YD m):rM ((L3 m).map FT)=m:=by
 obtain ⟨hd,hc,hl,⟨g0,g1,g2⟩,ht⟩:=zcM h;obtain ⟨d,c,b0,b1,b2,ts⟩:=m;simp only at hd hc hl g0 g1 g2 ht;obtain ⟨i0,_⟩:=mV g0;obtain ⟨i1,z1⟩:=mV g1;obtain ⟨i2,z2⟩:=mV g2;have hh1:=oQ ⟨d,c,b0,b1,b2,ts⟩ [NP,DP d,DP c] (AO ..);have hh2:=oQ ⟨d,c,b0,b1,b2,ts⟩ (I7 :: ([b0,b1,b2].take c.toNat).map DU) (AY _ (AO ..));have e:(L3 ⟨d,c,b0,b1,b2,ts⟩).map FT=FT [NP,DP d,DP c] :: FT (I7 :: ([b0,b1,b2].take c.toNat).map DU) :: (GP ts).map FT:=rfl;have hn1:=kI hh1 (FT (I7 :: ([b0,b1,b2].take c.toNat).map DU) :: (GP ts).map FT);have hn2:=kI hh2 ((GP ts).map FT);have hC:ZW ((L3 ⟨d,c,b0,b1,b2,ts⟩).map FT)=c:=by
  unfold ZW;rw [e,hn1];show FK (DP c) 3=c;exact WZ (by omega) (by omega) (by omega)
 have hT:LG 9 (AS 2 ((L3 ⟨d,c,b0,b1,b2,ts⟩).map FT))=ts:=by
  rw [e];show LG 9 ((GP ts).map FT)=ts;exact Gv (by omega) 9 ts (by omega) hw ht
 have hD:FK (DW (EX ((L3 ⟨d,c,b0,b1,b2,ts⟩).map FT)) 1) 4=d:=by
  rw [e,hn1];show FK (DP d) 4=d;exact WZ (by omega) (by omega) (by omega)
 have hB:∀ j,LF ((L3 ⟨d,c,b0,b1,b2,ts⟩).map FT) c j=cond (decide ((j:Int) < c)) (F7 (DW ((I7 :: ([b0,b1,b2].take c.toNat).map DU).map IV.str) (1+j))) 0:=fun j=>by
  unfold LF;rw [e];show cond _ (F7 (DW (EX (FT (I7 :: ([b0,b1,b2].take c.toNat).map DU) :: (GP ts).map FT)) (1+j))) 0=_;rw [hn2]
 unfold rM;rw [hC,hT,hD,hB,hB,hB];obtain ⟨C,rfl⟩:∃ C:Nat,c=(C:Int):=⟨c.toNat,by omega⟩;have w0:∀ l,DW ((I7 :: l).map IV.str) (1+0)=DW (l.map IV.str) 0:=fun l=>rfl
 have w1:∀ l,DW ((I7 :: l).map IV.str) (1+1)=DW (l.map IV.str) 1:=fun l=>rfl
 have w2:∀ l,DW ((I7 :: l).map IV.str) (1+2)=DW (l.map IV.str) 2:=fun l=>rfl
 have v0:∀ x l,DW ((x :: l).map IV.str) 0=x:=fun x l=>rfl
 have v1:∀ x y l,DW ((x :: y :: l).map IV.str) 1=y:=fun x y l=>rfl
 have v2:∀ x y z l,DW ((x :: y :: z :: l).map IV.str) 2=z:=fun x y z l=>rfl
 rw [w0,w1,w2,BF];rcases (show C=1∨C=2∨C=3 by omega) with rfl | rfl | rfl
 ·
  have y1:=z1 (by omega);have y2:=z2 (by omega);have t:([b0,b1,b2].take 1).map DU=[DU b0]:=rfl;rw [t,v0,U8 i0,AD (show ((0:Nat):Int) < ((1:Nat):Int) by omega),AL (show ¬ ((1:Nat):Int) < ((1:Nat):Int) by omega),AL (show ¬ ((2:Nat):Int) < ((1:Nat):Int) by omega),y1,y2];rfl
 ·
  have y2:=z2 (by omega);have t:([b0,b1,b2].take 2).map DU=[DU b0,DU b1]:=rfl;rw [t,v0,v1,U8 i0,U8 i1,AD (show ((0:Nat):Int) < ((2:Nat):Int) by omega),AD (show ((1:Nat):Int) < ((2:Nat):Int) by omega),AL (show ¬ ((2:Nat):Int) < ((2:Nat):Int) by omega),y2];rfl
 ·
  have t:([b0,b1,b2].take 3).map DU=[DU b0,DU b1,DU b2]:=rfl;rw [t,v0,v1,v2,U8 i0,U8 i1,U8 i2,AD (show ((0:Nat):Int) < ((3:Nat):Int) by omega),AD (show ((1:Nat):Int) < ((3:Nat):Int) by omega),AD (show ((2:Nat):Int) < ((3:Nat):Int) by omega)];rfl
theorem Nc {m:Md} (h:EW m=true) (hw:YD m):PI (FH m)=true∧IJ (FH m)=m:=by
 have hp:FH m=F5 (L3 m):=by unfold FH; rw [h]; rfl
 have hc:Y2 (FH m)=m:=by
  unfold Y2
  have:UT (FH m)=(L3 m).map FT:=by
   rw [hp];exact zcD _ _ (fun ws hws=>by
    have hws:ws∈SX m++GP m.ts:=hws;rcases AX.1 hws with hws | hws
    ·exact oQ m ws hws
    ·exact Np m.ts ws hws)
  rw [this,zf2 h hw]
 have hk:PI (FH m)=true:=by
  unfold PI;rw [hc,T8,B2]
  have:((FH m).toList==YA.toList)=false:=dS (fun e=>by
   have hd:=tP [NP,DP m.d,DP m.c] ((I7 :: ([m.b0,m.b1,m.b2].take m.c.toNat).map DU) :: GP m.ts);have e':F5 (L3 m)=YA:=by rw [← hp,e]
   have:F5 (L3 m)=F5 ([NP,DP m.d,DP m.c] :: ((I7 :: ([m.b0,m.b1,m.b2].take m.c.toNat).map DU) :: GP m.ts)):=rfl
   rw [← this,e'] at hd
   have:=congrArg AF hd
   rw [AT] at this;simp at this)
  rw [this];rfl
 refine ⟨hk,?_⟩;unfold IJ;rw [hk,hc];rfl
theorem Dg (d c:Int) (bias ts:LI):YD (kH d c bias ts):=by
 intro t ht;have ht:t∈RW d c ts:=ht;unfold RW at ht;obtain ⟨u,_,rfl⟩:=CI.1 ht;refine ⟨_,_,rfl,fun w hw=>?_⟩;unfold MP at hw;obtain ⟨x,_,rfl⟩:=CI.1 hw;exact ⟨_,rfl⟩
open Go
def HQ (L:List (List UInt8)):List UInt8:=L.flatMap fun l=>l++[10]
theorem OZ (l:List UInt8) (L:List (List UInt8)):HQ (l :: L)=l++10 :: HQ L:=by simp [HQ]
theorem Cq:∀ (L:List (List UInt8)) (pre r:List UInt8),(∀ l∈L,(10:UInt8) ∉ l)→O2 (pre++(HQ L++r)) L.length pre.length=some (pre.length+(HQ L).length)
 | [],pre,r,_=>by simp [O2,HQ]
 | l :: L,pre,r,h=>by
  have e1:pre++(HQ (l :: L)++r)=(pre++(l++[10]))++(HQ L++r):=by rw [OZ]; simp
  have e2:(pre++(HQ (l :: L)++r)).drop pre.length=l++10 :: (HQ L++r):=by rw [List.drop_left,OZ]; simp
  rw [AM,O2,e2,jO l _ 10 (h l (AO ..))];rw [AL (show ¬ ((l.length:Nat):Int) < 0 by omega),DJ,e1];have e3:pre.length+((l.length:Nat):Int).toNat+1=(pre++(l++[10])).length:=by simp; omega
  rw [e3,Cq L (pre++(l++[10])) r (fun x hx=>h x (AY _ hx)),OZ];simp;omega
theorem zG {s:BA} {L:List (List UInt8)} {r:List UInt8} (h:s.data.toList=HQ L++r) (hL:∀ l∈L,(10:UInt8) ∉ l) :
  K5 s (L.length:Int)=true∧(I9 s (L.length:Int)).data.toList=HQ L∧(SQ s (L.length:Int)).data.toList=r:=by
 have hk:O2 s.data.toList ((L.length:Nat):Int).toNat 0=some (HQ L).length:=by
  have:=Cq L [] r hL
  rw [C4,A6,BI] at this;rw [h,BF];exact this
 have ho:K5 s (L.length:Int)=true:=by unfold K5; rw [hk]; rfl
 have ha:dZ s (L.length:Int)=(HQ L).length:=by unfold dZ; rw [hk]; rfl
 have hz:s.size=(HQ L).length+r.length:=by rw [S9,h,AT]
 refine ⟨ho,?_,?_⟩
 ·unfold I9;rw [ho,DI,ha,vbe,Array.toList_extract,List.extract_eq_take_drop,h];simp
 ·unfold SQ;rw [ho,DI,ha,vbe,Array.toList_extract,List.extract_eq_take_drop,h,hz];simp
theorem Nx {s:BA} {l:List UInt8} (h:s.data.toList=l++[10]):(GT s EP).data.toList=l:=Nu h
def TF (v:Vd):List (List UInt8):=
 cond (v.kind==1) (HX I0.data.toList [v.spent,ic v.proof.length] :: v.proof.map VC)
  (cond (v.kind==2) [HX QK.data.toList [v.spent,v.w0,v.w1,v.w2,v.w3,v.twin]]
   (cond (v.kind==3) [HX QL.data.toList [v.spent]] [HX QM.data.toList [v.spent]]))
theorem Mr:∀ (l:LI),NO l=HQ (l.map VC)
 | []=>rfl
 | x :: l=>by rw [NO,Mr l,A0,OZ]
theorem Oj {v:Vd} (h:v.right=true):(EL v).data.toList=HQ (TF v):=by
 unfold EL TF;rw [h,DI];cases v.kind==1 with
 | true=>
  rw [DI,DI,rA,P4,Mr,OZ];simp [IV.toInt]
 | false=>
  rw [DJ,DJ];cases v.kind==2 with
  | true=>
   rw [DI,DI,P4,OZ];simp [IV.toInt,HQ]
  | false=>
   rw [DJ,DJ];cases v.kind==3 with
   | true=>
    rw [DI,DI,P4,OZ];simp [IV.toInt,HQ]
   | false=>
    rw [DJ,DJ,P4,OZ];simp [IV.toInt,HQ]
theorem zix (x:IV):(10:UInt8) ∉ VC x:=by
 unfold VC;cases GS x with
 | true=>exact XE 10 (by decide) (by decide) _
 | false=>exact XE 10 (by decide) (by decide) _
theorem zjf (v:Vd):∀ l∈TF v,(10:UInt8) ∉ l:=by
 intro l hl;unfold TF at hl;cases h1:v.kind==1 with
 | true=>
  rw [h1,DI] at hl;rcases AP.1 hl with rfl | hl
  ·exact XE 10 (by decide) (by decide) _
  ·obtain ⟨x,_,rfl⟩:=CI.1 hl;exact zix x
 | false=>
  rw [h1,DJ] at hl;cases h2:v.kind==2 with
  | true=>
   rw [h2,DI] at hl;obtain rfl:=BM.1 hl;exact XE 10 (by decide) (by decide) _
  | false=>
   rw [h2,DJ] at hl;cases h3:v.kind==3 with
   | true=>
    rw [h3,DI] at hl;obtain rfl:=BM.1 hl;exact XE 10 (by decide) (by decide) _
   | false=>
    rw [h3,DJ] at hl;obtain rfl:=BM.1 hl;exact XE 10 (by decide) (by decide) _
theorem Oi (v:Vd):∃ w ns L,TF v=HX w ns :: L∧(32:UInt8) ∉ w∧(10:UInt8) ∉ w ∧
  ((v.kind=1∧w=I0.data.toList∧ns=[v.spent,ic v.proof.length]∧L.length=v.proof.length)∨(w≠I0.data.toList∧L=[])):=by
 unfold TF;by_cases h1:v.kind=1
 ·refine ⟨I0.data.toList,[v.spent,ic v.proof.length],v.proof.map VC,by rw [h1]; rfl,by decide,by decide,.inl ⟨h1,rfl,rfl,by simp⟩⟩
 rw [A4.2 h1,DJ];cases h2:v.kind==2 with
 | true=>exact ⟨_,_,[],rfl,by decide,by decide,.inr ⟨by decide,rfl⟩⟩
 | false=>
  cases h3:v.kind==3 with
  | true=>exact ⟨_,_,[],rfl,by decide,by decide,.inr ⟨by decide,rfl⟩⟩
  | false=>exact ⟨_,_,[],rfl,by decide,by decide,.inr ⟨by decide,rfl⟩⟩
theorem uH {s:BA} {w:List UInt8} {l:List Int} (h:s.data.toList=HX w l++[10]) (h32:(32:UInt8) ∉ w):(NF s).map (fun x=>x.toStr.data.toList)=w :: l.map vam:=by
 unfold NF;rw [vaJ]
 have:((fun x=>x.toStr.data.toList) ∘ IV.str)=fun b:BA=>b.data.toList:=rfl
 rw [this,sY,Nx h];exact s7 l w h32
theorem zcG {s:BA} {w:List UInt8} {l:List Int} (h:s.data.toList=HX w l++[10]) (h32:(32:UInt8) ∉ w) (hw:w≠I0.data.toList):K7 s=1:=by
 unfold K7;rw [NR (uH h h32) I0,A4.2 hw];rfl
theorem Te {s:BA} {w:List UInt8} {a n:Int} (h:s.data.toList=HX w [a,n]++[10]) (h32:(32:UInt8) ∉ w) (hn:HG n):KM (DW (NF s) 2)=true∧FF (DW (NF s) 2)=n:=by
 have hm:=uH h h32;have hx:(DW (NF s) 2).data.toList=vam n:=by
  match hq:NF s,hm with
  | [x,y,z],hm=>
   simp only [A0,CA,vav] at hm;exact hm.2.2.1
  | [],hm=>cases hm
  | [_],hm=>simp at hm
  | [_,_],hm=>simp at hm
  | _ :: _ :: _ :: _ :: _,hm=>simp at hm
 refine ⟨?_,vG hx hn.1 hn.2⟩;unfold KM;rw [hx,vI n hn.1 hn.2]
theorem zcF {s:BA} {a:Int} {k:Nat} (h:s.data.toList=HX I0.data.toList [a,ic k]++[10]) (hk:k≤65536):K7 s=((k+1:Nat):Int):=by
 have hm:=uH h (by decide);have hlen:(NF s).length=3:=by
  have:=congrArg AF hm
  simpa using this
 have hat:=Te h (by decide) (Ci hk);unfold K7;rw [NR hm I0,hlen,hat.1,hat.2];rw [show ic k=((k:Nat):Int) from rfl];rw [AL (show ¬ ((k:Nat):Int) < 0 by omega),AL (show ¬ ((k:Nat):Int) > 65536 by omega)];simp only [DA,A3,Bool.or_false,DJ,show (ic 3==3)=true from rfl];rw [show FL (1+((k:Nat):Int))=1+((k:Nat):Int) from EH (by omega) (by omega)];omega
theorem zjg {v:Vd} (hr:v.right=true) {s:BA} {l:List UInt8} {L:List (List UInt8)} (hv:TF v=l :: L) (h:s.data.toList=l++[10]):K7 s=((TF v).length:Int):=by
 obtain ⟨w,ns,M,e,h32,h10,hc⟩:=Oi v;rw [e] at hv;obtain ⟨rfl,rfl⟩:=List.cons.inj hv;rcases hc with ⟨hk,rfl,rfl,hl⟩ | ⟨hw,rfl⟩
 ·have hp:=rX hr;rw [zcF h hp,e,AM,hl]
 ·rw [zcG h h32 hw,e];rfl
theorem zfE (s t:BA):N5 (s++t) s=true∧F9 (s++t) s=t:=by
 have h:Lib.hasPrefix (s++t).data.toList s.data.toList=true:=by
  unfold Lib.hasPrefix;rw [List.isPrefixOf_iff_prefix,W1];exact List.prefix_append _ _
 refine ⟨h,dT ?_⟩;unfold F9 Lib.trimPrefix;rw [BP h,W1];simp
theorem zgv {v:Vd} (hr:v.right=true) (hv:v.rng) (i:Nat) (t:BA) :
  kZ (G7 i++(EL v++t)) i=true∧QB (G7 i++(EL v++t)) i=EL v∧Z1 (G7 i++(EL v++t)) i=t:=by
 have hp:=zfE (G7 i) (EL v++t);have er:J3 (G7 i++(EL v++t)) i=EL v++t:=hp.2;have hd:(EL v++t).data.toList=HQ (TF v)++t.data.toList:=by rw [W1,Oj hr]
 have hno:=zjf v;obtain ⟨w,ns,M,e,h32,h10,hc⟩:=Oi v;have hd1:(EL v++t).data.toList=HQ [HX w ns]++(HQ M++t.data.toList):=by rw [hd,e,OZ]; simp [HQ]
 obtain ⟨a1,a2,a3⟩:=zG hd1 (fun l hl=>hno l (by rw [e]; obtain rfl:=BM.1 hl; exact AO ..));have hfirst:(I9 (EL v++t) 1).data.toList=HX w ns++[10]:=by
  refine a2.trans ?_;simp [HQ]
 have hcnt:=zjg hr e hfirst;obtain ⟨b1,b2,b3⟩:=zG hd hno;rw [← hcnt] at b1 b2 b3;have hown:QB (G7 i++(EL v++t)) i=EL v:=by
  unfold QB;rw [er];exact dT (b2.trans (Oj hr).symm)
 refine ⟨?_,hown,?_⟩
 ·unfold kZ;rw [hown,er,hp.1,b1,zfw hv,hr];rw [show K5 (EL v++t) 1=true from a1];rfl
 ·unfold Z1;rw [er];exact dT b3
def IZ:Nat→List Vd→BA
 | _,[]=>EB
 | i,v :: r=>G7 i++(EL v++IZ (i+1) r)
theorem oR (i:Nat):0 < (G7 i).size:=by
 unfold G7;rw [AU];show 0 < _+1;omega
theorem zji (i:Nat) (v:Vd) (r:List Vd):((IZ i (v :: r)).toList==EB.toList)=false:=by
 rw [YZ];refine AL fun h=>?_
 have:=congrArg AG h
 have hp:=oR i;unfold IZ at this;rw [AU] at this;have e:EB.size=0:=rfl;omega
theorem uA:∀ (i:Nat) (vs:List Vd),vs.length≤(IZ i vs).size
 | _,[]=>AZ _
 | i,v :: r=>by
  have:=uA (i+1) r
  have hp:=oR i;unfold IZ;rw [AU,AU,AM];omega
def Q1 (v:Vd):IV:=(J1 (EL v)).I
theorem Nj:∀ (vs:List Vd) (n i:Nat) (out:LI),vs.length < n→(∀ v∈vs,v.right=true∧v.rng)→TC n i (IZ i vs) out=some (out++vs.map Q1)
 | [],n+1,i,out,_,_=>by
  unfold TC;rw [show ((IZ i []).toList==EB.toList)=true by simp [IZ],DI];simp
 | v :: r,n+1,i,out,hn,h=>by
  have hv:=h v (AO ..);obtain ⟨h1,h2,h3⟩:=zgv hv.1 hv.2 i (IZ (i+1) r);have ih:=Nj r n (i+1) (out++[Q1 v]) (by simp only [AM] at hn; omega) (fun x hx=>h x (AY _ hx));unfold TC;rw [zji,DJ];rw [show IZ i (v :: r)=G7 i++(EL v++IZ (i+1) r) from rfl,h1,DI,h2,h3];show TC n (i+1) (IZ (i+1) r) (out++[Q1 v])=_;rw [ih,A0];simp
 | [],0,_,_,h,_=>by simp at h
 | _ :: _,0,_,_,h,_=>by simp at h
theorem ziY (vs:List Vd) (h:∀ v∈vs,v.right=true∧v.rng):RV (IZ 0 vs)=some (vs.map Q1):=by
 unfold RV;rw [Nj vs _ 0 [] (by have:=uA 0 vs; omega) h];rfl
open Go
theorem Gh:∀ {l:LI} {left out:LI} {most:Int} {st:Int × Int} {lo:LI × LI},(∀ y∈left,(D7 y).good)→(∀ y∈out,(D7 y).good)→KS l (ic left.length,most)=some st→JB l (left,out)=some lo→∀ x∈l,KI x=true∧PF x
 | [],_,_,_,_,_,_,_,_,_=>fun x hx=>by cases hx
 | x :: l,left,out,most,st,lo,hl,ho,hd,hp=>by
  rw [KS] at hd;rw [JB] at hp;cases h1:N3 (ic left.length,most) x with
  | none=>rw [h1] at hd; cases hd
  | some s1=>
   cases h2:OA (left,out) x with
   | none=>rw [h2] at hp; cases hp
   | some l1=>
    rw [h1] at hd;rw [h2] at hp;obtain ⟨g1,g2,g3⟩:=Gi hl ho h1 h2;have hx:KI x=true∧PF x:=by
     obtain ⟨hne,hr,hd'⟩:=nZ h1;refine ⟨hr,?_⟩;have hlen:0 < left.length:=by simp only [ic] at hne; omega
     have ht:(D0 left).good:=hl _ (VE hlen).1;unfold OA at h2;rcases hd' with ⟨hs,_⟩ | ⟨hs,_⟩
     ·unfold KI at hr;rw [hs,DI] at hr;simp only [AI,B8] at hr;unfold PF HG;omega
     ·have hpl:=rW hr hs;rw [hs] at h2;cases hc:(decide (FP x < ((D0 left).g (E9 x).toNat).lo)||decide (FP x≥((D0 left).g (E9 x).toNat).hi)) with
      | true=>simp only [hc,A9,BJ] at h2; cases h2
      | false=>
       simp only [vas,BW] at hc
       have:=ht (E9 x).toNat (by omega)
       unfold PF HG;omega
    obtain ⟨a,b⟩:=l1;obtain ⟨c,d⟩:=s1;obtain rfl:c=ic a.length:=g3;have ih:=Gh g1 g2 hd hp;intro y hy;rcases AP.1 hy with rfl | hy
    ·exact hx
    ·exact ih y hy
theorem zgp {x:IV} (h:KI x=true):PG x=true:=by
 unfold KI at h;unfold PG;cases hs:GS x with
 | true=>
  rw [hs,DI] at h;simp only [AI,B8] at h;simp [h.1,h.2]
 | false=>
  rw [hs,DJ] at h;simpa using h
theorem Tf {m:Md} {q:Qy} {s:Sr} (h:s.v.kind=2∨s.v.bare=true):(GE m q s).v.kind=2∨(GE m q s).v.bare=true:=by
 unfold GE;cases GQ m q (D0 s.left) with
 | true=>
  rw [DI];cases (ic (s.left.length - 1)==0) with
  | true=>exact .inr rfl
  | false=>exact h
 | false=>
  rw [DJ];cases HJ m q (D0 s.left).low (D0 s.left).s4.hi with
  | true=>exact .inl rfl
  | false=>
   rw [DJ];cases (EY m q (D0 s.left)).isSome with
   | true=>exact h
   | false=>exact .inr rfl
theorem vK {m:Md} {q:Qy}:∀ (d:Nat) (s:Sr),s.v.kind=2∨s.v.bare=true→(LJ m q d s).v.kind=2∨(LJ m q d s).v.bare=true
 | 0,_,h=>h
 | d+1,s,h=>by
  rw [LJ];cases JN q s with
  | true=>exact h
  | false=>exact vK d _ (Tf h)
theorem zgz (m:Md) (q:Qy):(E8 m q).kind=2∨(E8 m q).bare=true:=by
 have hn:(RI m q).v.kind=2∨(RI m q).v.bare=true:=by
  unfold RI;cases FG m q <;> exact .inr rfl
 have h:=vK (m:=m) (q:=q) (q.bu.toNat+1) _ hn;unfold E8;generalize LJ m q (q.bu.toNat+1) (RI m q)=s at h;rcases h with h | h
 ·exact .inl (by simp [GK,h])
 ·exact .inr h
theorem zbS {b:Bx} (hb:b.good) {p:Pt} {t:Int} (h:b.has p t=true):HG p.p0∧HG p.p1∧HG p.p2∧HG p.p3∧HG t:=by
 unfold Bx.has Sp.has at h;simp only [AI,AQ] at h;have h0 : -2147483648≤b.s0.lo∧b.s0.lo≤b.s0.hi∧b.s0.hi≤2147483647:=hb 0 (by omega);have h1 : -2147483648≤b.s1.lo∧b.s1.lo≤b.s1.hi∧b.s1.hi≤2147483647:=hb 1 (by omega);have h2 : -2147483648≤b.s2.lo∧b.s2.lo≤b.s2.hi∧b.s2.hi≤2147483647:=hb 2 (by omega);have h3 : -2147483648≤b.s3.lo∧b.s3.lo≤b.s3.hi∧b.s3.hi≤2147483647:=hb 3 (by omega);have h4 : -2147483648≤b.s4.lo∧b.s4.lo≤b.s4.hi∧b.s4.hi≤2147483647:=hb 4 (by omega);unfold HG;omega
open Go
theorem Hr {m:Md} {q:Qy} (hr:FG m q=true):(E8 m q).right=true∧(E8 m q).rng∧((E8 m q).kind=1∨(E8 m q).kind=2∨(E8 m q).kind=3)∧(E8 m q).spent≤q.bu ∧
  ((E8 m q).kind=3→(E8 m q).spent=q.bu)∧((E8 m q).kind≠3→1≤(E8 m q).spent):=by
 have h3:=(XT hr).2.2.1;have hb:=zgz m q;have hg:=tG hr;have hnew:RI m q=⟨[(GJ q).I],[],Vd.none,0⟩:=by unfold RI; rw [hr,DI]
 obtain ⟨hi,ho⟩:=rV hr (q.bu.toNat+1) _ (Hl hr) (by show q.bu < 0+_; omega);unfold E8 at hb ⊢;rw [hnew] at hb ⊢;generalize LJ m q (q.bu.toNat+1) _=s at hi ho hb;have hsp:=hi.sp;have r0:decide (0≤(GK s).spent)=true:=AD hsp.1;have r1:decide ((GK s).spent≤65536)=true:=AD (by show s.spent≤65536; omega);have hspI:HG (GK s).spent:=by show HG s.spent; unfold HG; omega
 have bare_rng:(GK s).bare=true→(∀ x∈(GK s).proof,PF x)→(GK s).rng:=fun hbare hst=>by
  obtain ⟨z0,z1,z2,z3,z4⟩:=mT hbare;exact { w0:=by rw [z0]; exact G5,w1:=by rw [z1]; exact G5,w2:=by rw [z2]; exact G5,w3:=by rw [z3]; exact G5,twin:=by rw [z4]; exact G5,spent:=hspI,proof:=hst }
 rcases hi.kinds with hk | hk | hk
 ·have ek:(GK s).kind=3:=by simp [GK,hk]
  have hnil:(GK s).proof=[]:=(hi.opn hk).2.2.2.1;have hbare:(GK s).bare=true:=by
   rcases hb with h | h
   ·omega
   ·exact h
  have heq:s.spent=q.bu:=by
   unfold JN at ho;rw [hk] at ho
   have:s.spent≥q.bu:=by simpa using ho
   omega
  refine ⟨?_,bare_rng hbare (fun x hx=>by rw [hnil] at hx; cases hx),.inr (.inr ek),hsp.2,fun _=>heq,fun h=>absurd ek h⟩;unfold Vd.right;rw [r0,r1,hnil,hbare,show ((GK s).kind==3)=true by rw [ek]; rfl];simp
 ·have ek:(GK s).kind=1:=by simp [GK,hk]
  have hbare:(GK s).bare=true:=by
   rcases hb with h | h
   ·omega
   ·exact h
  obtain ⟨hrp,hl,hlen,hvp⟩:=hi.holds hk;have epr:(GK s).proof=s.proof:=hvp;obtain ⟨outs,hps,_⟩:=hrp.ps;obtain ⟨most,hdp,_,_⟩:=hrp.dp;have hst:∀ x∈(GK s).proof,KI x=true∧PF x:=by
   rw [epr];refine Gh (left:=[(GJ q).I]) (out:=[]) (most:=1) (fun y hy=>?_) (fun y hy=>by cases hy) hdp hps;obtain rfl:=BM.1 hy;rw [IO]; exact hg
  have hl1:1≤s.proof.length:=by
   cases hp:s.proof with
   | nil=>
    rw [hp,hl] at hdp
    have:=congrArg Prod.fst (CS hdp)
    exact absurd (show (1:Int)=0 from this) (by decide)
   | cons x r=>simp
  have hsB:PH (GK s).proof=true:=by
   unfold PH;rw [epr,AD hl1,AD (show s.proof.length≤65536 by simp only [ic] at hlen; omega),BC,BC,CR];exact fun x hx=>zgp (hst x (by rw [epr]; exact hx)).1
  refine ⟨?_,bare_rng hbare (fun x hx=>(hst x hx).2),.inl ek,hsp.2,fun h=>by omega,fun _=>by show 1≤s.spent; simp only [ic] at hlen; omega⟩;unfold Vd.right;rw [r0,r1,hbare,hsB,show ((GK s).kind==1)=true by rw [ek]; rfl];rfl
 ·have ek:(GK s).kind=2:=by simp [GK,hk]
  obtain ⟨hvp,hs1,hh,_⟩:=hi.fails hk;have hnil:(GK s).proof=[]:=hvp;have hin:=zbS hg hh;refine ⟨?_,{ w0:=hin.1,w1:=hin.2.1,w2:=hin.2.2.1,w3:=hin.2.2.2.1,twin:=hin.2.2.2.2,spent:=hspI,proof:=fun x hx=>by rw [hnil] at hx; cases hx },.inr (.inl ek),hsp.2,fun h=>by omega,fun _=>hs1⟩;unfold Vd.right;rw [r0,r1,hnil,show ((GK s).kind==2)=true by rw [ek]; rfl];simp
theorem Ox:mD.right=true∧mD.rng:=⟨by decide,{ w0:=G5,w1:=G5,w2:=G5,w3:=G5,twin:=G5,spent:=G5,proof:=fun x hx=>by cases hx }⟩
theorem Sl {m:Md} {q:Qy} (hr:FG m q=true):(YR m q).right=true∧(YR m q).rng:=by
 unfold YR;cases ((E8 m q).kind==3||O9 m q (E8 m q)) with
 | true=>exact ⟨(Hr hr).1,(Hr hr).2.1⟩
 | false=>exact Ox
theorem Sk {m:Md} {l:BA} (h:WQ m l=true):FG m (GU l)=true:=by
 unfold WQ at h;simp only [AI] at h;exact h.2.2
theorem uX (m:Md) (l:BA):(HO m l).right=true∧(HO m l).rng:=by
 unfold HO;cases h:WQ m l with
 | true=>exact Sl (Sk h)
 | false=>exact Ox
theorem rQ (m:Md):∀ (ls:LI) (s:BA) (i:Nat),U4 m s i ls=s++IZ i (ls.map fun x=>HO m x.toStr)
 | [],s,i=>by
  show s=s++EB;exact (ByteArray.append_empty).symm
 | x :: l,s,i=>by
  rw [U4,rQ m l,A0,IZ,C7,C7]
def PS (m:Md) (ls:LI):List Vd:=ls.map fun x=>HO m x.toStr
theorem rZ {a:BA} (h:PI a=true) (b:BA):G1 a b=IZ 0 (PS (IJ a) (G9 b)):=by
 unfold G1 PS;rw [h,DI,rQ];exact ByteArray.empty_append
theorem uY (m:Md) (ls:LI):∀ v∈PS m ls,v.right=true∧v.rng:=by
 intro v hv;obtain ⟨x,_,rfl⟩:=CI.1 hv;exact uX m x.toStr
theorem ziX {a:BA} (h:PI a=true) (b:BA):RV (G1 a b)=some ((PS (IJ a) (G9 b)).map Q1):=by
 rw [rZ h,ziY _ (uY _ _)]
def Na (m:Md) (q:Qy):Bool:=(E8 m q).kind==3||O9 m q (E8 m q)
theorem ziJ {m:Md} {q:Qy} (hr:FG m q=true) (hp:LD m q (GJ q)≤199):Na m q=true:=by
 obtain ⟨s1,s2,_,hk,_,_⟩:=zgE hr hp;unfold Na;rcases hk with hk | hk | hk
 ·rw [(s1 hk).1]; simp
 ·rw [(s2 hk).1]; simp
 ·rw [hk]; rfl
open Go Go.Proofs
theorem Jl:DX PR B0 31 WB:=by
 refine D6 [(46,M5),(47,SF)] [] WB [[.list false [.str]]] Tryz.func31 zaZ ⟨Z8,sX,trivial⟩ ?_;intro vs r hwf h;unfold WB at h;split at h
 ·rename_i s;cases hg:(decide (s.size < 4294967281)) with
  | false=>rw [hg] at h; simp [R.get] at h
  | true=>
  rw [hg,R.get_br,DI,R.get_ok] at h;refine ⟨0,(zdN 0 s).trans ?_⟩;have hz:=A1 hg;have ht:=gP s EP;rw [show decide (1≤AG { data:=#[10] })=true from rfl,B2,AD (show (GT s { data:=#[10] }).size < 4294967281 by exact Nat.lt_of_le_of_lt ht hz),DI,← h];unfold G9;cases (s.toList==EB.toList) <;> rfl
 ·simp [R.get] at h
theorem Jk:DX PR B0 32 WA:=by
 refine D6 [(73,aT),(26,V5),(65,NV),(35,WH)] [] WA [[.z,.list true [.bool,.z,.z],.z,.z,.z,.z,.z,.z]] Tryz.func32 zaY ⟨zgS,Jf,gF,Ju,trivial⟩ ?_;intro vs r hwf h;unfold WA at h;split at h
 ·rename_i m l;replace h:=J7 h;obtain ⟨m,rfl,h⟩:=h;cases hg:(decide (l.size < 4294967281)) with
  | false=>rw [hg] at h; simp [R.get] at h
  | true=>
  rw [hg,R.get_br,DI,R.get_ok] at h;refine ⟨0,(zdM 0 m l).trans ?_⟩;rw [hg,DI,← h];unfold HO WQ YR;rw [show (PU l != m.d)=!(PU l==m.d) from rfl];cases OR l
  ·rfl
  cases (PU l==m.d)
  ·rfl
  cases FG m (GU l)
  ·rfl
  cases ((E8 m (GU l)).kind==3)
  ·cases O9 m (GU l) (E8 m (GU l)) <;> rfl
  ·rfl
 ·simp [R.get] at h
theorem He (m:Md) (s:BA) (i:Nat) (l:LI):s.size+l.length≤(U4 m s i l).size:=by
 rw [rQ,AU]
 have:=uA i (l.map fun x=>HO m x.toStr)
 rw [BG] at this;omega
theorem Ht (N:Nat) (a:BA) (ls:LI) (hs:∀ x∈ls,x.toStr.size < 4294967281) (hl:ls.length≤strMax) (K:Out→St→DO) (hx:∀ x y so,K (.exit 0) (VS a EB ls x y so)=some (.str so,[])) :
  ∀ (d i n:Nat) (so:BA),i+d=ls.length→d < n→(U4 (IJ a) so i (ls.drop i)).size≤strMax →
   DY (TY N) (DK WW [1,1,1,1,0,1,0,0]) ⟨[4,5,7,18,19,20],[5,7],[]⟩ n (VS a EB ls (ic ls.length) (i:Int) so) K=some (.str (U4 (IJ a) so i (ls.drop i)),[])
 | 0,i,n+1,so,hd,_,_=>by
  rw [D4,Lv,I2 (by omega),CD (by omega),DJ];exact hx _ _ _
 | d+1,i,n+1,so,hd,hn,hz=>by
  have hi:i < ls.length:=by omega
  rw [BE hi] at hz ⊢;rw [U4] at hz ⊢;have h1:=He (IJ a) (so++G7 i++EL (HO (IJ a) ls[i].toStr)) (i+1) (ls.drop (i+1));have h2:(so++G7 i++EL (HO (IJ a) ls[i].toStr)).size=so.size+(MC.size+(DP (i:Int)).size+EP.size)+(EL (HO (IJ a) ls[i].toStr)).size:=by
   unfold G7;simp only [AU]
  have e1:MC.size=6:=rfl;have e2:EP.size=1:=rfl;have h3:(so++G7 i).size=so.size+(MC.size+(DP (i:Int)).size+EP.size):=by
   unfold G7;simp only [AU]
  have h4:=hs ls[i] (CX hi);unfold strMax at hl;rw [D4,Lv,G8 hi,H7,HC (by omega),H6 hi];rw [AD (show AG { data:=#[113,117,101,114,121,32] }+(DP (i:Int)).size≤strMax by show MC.size+_≤_; omega)];rw [AD (show AG ({ data:=#[113,117,101,114,121,32] }++DP (i:Int))+AG { data:=#[10] }≤strMax by rw [AU]; show MC.size+_+EP.size≤_; omega)];rw [AD (show so.size+(UQ (i:Int)).size≤strMax by rw [← AU]; show (so++G7 i).size≤_; omega)];rw [AD h4,AD (show (EL (HO (IJ a) ls[i].toStr)).size≤strMax by omega)];rw [AD (show (so++UQ (i:Int)).size+(EL (HO (IJ a) ls[i].toStr)).size≤strMax by show (so++G7 i).size+_≤_; omega)];simp only [DI,B2];exact Ht N a ls hs (by unfold strMax; omega) K hx d (i+1) n _ (by omega) (by omega) hz
 | 0,_,0,_,_,h,_=>by omega
 | _+1,_,0,_,_,h,_=>by omega
theorem zik {s sep:BA} {n:Nat} (h:s.size < n):∀ x∈D2 s sep,x.size < n:=fun x hx=>by
 have:=(Z9 sep _ s).2 x hx
 omega
theorem zcC {s:BA} {n:Nat} (h:s.size < n):∀ x∈G9 s,x.toStr.size < n:=by
 intro x hx;unfold G9 at hx;cases he:(s.toList==EB.toList) with
 | true=>rw [he,DI] at hx; cases hx
 | false=>
  rw [he,DJ] at hx;obtain ⟨y,hy,rfl⟩:=CI.1 hx;have ht:=gP s EP;exact zik (Nat.lt_of_le_of_lt ht h) y hy
theorem lF:DX PR B0 22 PQ:=by
 refine D6 [(24,SC),(32,WA),(31,WB),(43,OO),(56,T2),(60,T3),(19,dH)] [(6,⟨[4,5,7,18,19,20],[5,7],[]⟩)] PQ [[.str]] Tryz.func22 za0 ⟨sR,Jk,Jl,gG,sU,sV,zia,trivial⟩ ?_;intro vs r hwf h;unfold PQ at h;split at h
 ·rename_i a b;cases hg:(decide (a.size < 4294967281)&&(decide (b.size < 4294967281)&&decide ((G1 a b).size≤strMax))) with
  | false=>rw [hg] at h; simp [R.get] at h
  | true=>
  rw [hg,R.get_br,DI,R.get_ok] at h;rw [AI,AI] at hg;have hz:=A1 hg.2.2;refine ⟨(G9 b).length+1,(zdO _ a b).trans ?_⟩;rw [hg.1,DI,← h];unfold G1 at hz ⊢;cases ht:PI a with
  | false=>rfl
  | true=>
   rw [ht,DI] at hz;simp only [A3,DJ,DI];rw [hg.2.1,DI];have hl:=He (IJ a) EB 0 (G9 b);have e0:EB.size=0:=rfl
   have:=Ht ((G9 b).length+1) a (G9 b) (zcC (A1 hg.2.1)) (by omega) _ (fun x y so=>Xr ((G9 b).length+1) a EB (G9 b) x y so) (G9 b).length 0 ((G9 b).length+1) EB (by omega) (by omega) (by rw [BY]; exact hz)
   rw [BY] at this;exact this
 ·simp [R.get] at h
theorem Yx (s:BA) (a:Nat):(s.extract a s.size).data.toList=s.data.toList.drop a:=by
 rw [vbe,Array.toList_extract,List.extract_eq_take_drop];exact CV (by rw [CY,S9]; omega)
def zF (s:BA):Option Nat→DO
 | some e=>some (.tup [.str (s.extract 0 e),.str (s.extract e s.size),.bool true],[])
 | none=>some (.tup [.str EB,.str EB,.bool false],[])
theorem zH (N:Nat) (s:BA) (n:Int) (hs:s.size < 4294967281) (K:Out→St→DO)
  (hx:∀ at_ x,K (.exit 0) (QO s EB EB false at_ n x)=cond (decide (0≤at_)&&decide (at_≤ic s.size)) (cond (decide (0≤at_)&&decide (at_≤ic s.size)) (some (.tup [.str (s.extract 0 at_.toNat),.str (s.extract at_.toNat s.size),.bool true],[])) none) none)
  (hr:∀ at_ x,K .ret (QO s EB EB false at_ n x)=some (.tup [.str EB,.str EB,.bool false],[])) :
  ∀ (f d at_ i:Nat),at_+d=s.size→d < f→i≤at_ →
   DY (QR N) (DK UB [1,1,0,1,0,0]) ⟨[0,4,5,6,7,9,10],[],[]⟩ f (QO s EB EB false (at_:Int) n (i:Int)) K=zF s (O2 s.data.toList (n - i).toNat at_)
 | f+1,d,at_,i,hd,hf,hi=>by
  have hin:(decide (0≤((at_:Nat):Int))&&decide (((at_:Nat):Int)≤ic s.size))=true:=by
   rw [AD (show 0≤((at_:Nat):Int) by omega),AD (show ((at_:Nat):Int)≤ic s.size by simp only [ic]; omega)];rfl
  rw [D4,ziq];by_cases hn:((i:Nat):Int) < n
  ·rw [AD hn,DI,hin,DI,BF,Yx];rw [show (Nat.toUInt8 (AE 10))=(10:UInt8) from rfl];have hb:=oT (s.data.toList.drop at_) 10;rw [CY,← S9] at hb;obtain ⟨k,hk⟩:∃ k,(n - i).toNat=k+1:=⟨(n - i).toNat - 1,by omega⟩;rw [hk,O2];cases hc:decide (DG (s.data.toList.drop at_) 10 < 0) with
   | true=>
    rw [DI,DI];exact hr _ _
   | false=>
    rw [DJ,DJ];have h0:=BH hc;obtain ⟨j,hj⟩:∃ j:Nat,DG (s.data.toList.drop at_) 10=(j:Int):=⟨(DG (s.data.toList.drop at_) 10).toNat,by omega⟩;rw [hj] at hb ⊢;have w1:AA AB ((j:Int)+1)=(j:Int)+1:=EH (by omega) (by omega);have w2:AA AB ((at_:Int)+((j:Int)+1))=((at_+j+1:Nat):Int):=by
     rw [show (at_:Int)+((j:Int)+1)=((at_+j+1:Nat):Int) by omega];exact EH (by omega) (by omega)
    have w3:AA AB ((i:Int)+1)=((i+1:Nat):Int):=by
     rw [show (i:Int)+1=((i+1:Nat):Int) by omega];exact EH (by omega) (by omega)
    rw [w1,w2,w3,BF];have ih:=zH N s n hs K hx hr f (s.size - (at_+j+1)) (at_+j+1) (i+1) (by omega) (by omega) (by omega);rw [ih]
    have:(n - ((i+1:Nat):Int)).toNat=k:=by omega
    rw [this]
  ·rw [AL hn,DJ,show (n - i).toNat=0 by omega,O2,hx,hin,DI,DI,BF];rfl
 | 0,d,at_,i,_,hf,_=>by omega
theorem Vk (s:BA) (n:Int):zF s (O2 s.data.toList n.toNat 0)=some (.tup [.str (I9 s n),.str (SQ s n),.bool (K5 s n)],[]):=by
 unfold I9 SQ K5 dZ;cases O2 s.data.toList n.toNat 0 <;> rfl
theorem zgX:DX PR B0 58 aY:=by
 refine D6 [(102,iC)] [(3,⟨[0,4,5,6,7,9,10],[],[]⟩)] aY [[.str],[.str],[.bool]] Tryz.func58 Zw ⟨zh8,trivial⟩ ?_;intro vs r hwf h;unfold aY at h;split at h
 ·rename_i s n;cases hg:(decide (s.size < 4294967281)) with
  | false=>rw [hg] at h; simp [R.get] at h
  | true=>
  rw [hg,R.get_br,DI,R.get_ok] at h;refine ⟨s.size+1,(zc0 _ s n).trans ?_⟩
  have:=zH (s.size+1) s n (A1 hg) _ (fun a x=>Wn (s.size+1) s EB EB false a n x) (fun a x=>Wo (s.size+1) s EB EB false a n x) (s.size+1) s.size 0 0 (by omega) (by omega) (by omega)
  refine this.trans ?_;rw [show (n - ((0:Nat):Int)).toNat=n.toNat by omega,Vk,← h]
 ·simp [R.get] at h
theorem zgY:DX PR B0 59 aZ:=by
 refine D6 [(90,Q0),(46,M5),(47,SF)] [] aZ [[.z]] Tryz.func59 Zx ⟨lG,Z8,sX,trivial⟩ ?_;intro vs r hwf h;unfold aZ at h;split at h
 ·rename_i s;cases hg:(decide (s.size < 4294967281)) with
  | false=>rw [hg] at h; simp [R.get] at h
  | true=>
  rw [hg,R.get_br,DI,R.get_ok] at h;refine ⟨0,(zc1 0 s).trans ?_⟩;have hz:=A1 hg;have ht:=gP s EP;rw [show decide (1≤AG { data:=#[32] })=true from rfl,B2,AD (show (GT s { data:=#[10] }).size < 4294967281 by exact Nat.lt_of_le_of_lt ht hz),DI];rw [s8,show (decide ((0:Nat)≤0)&&true)=true from rfl,DI,← h];show _=(some (V.int .i64 (K7 s),[]):DO);unfold K7 MD DW NF;rw [show AE 0=0 from rfl,show AE 2=2 from rfl];generalize hL:A2 IV.str (D2 (GT s EP) VJ)=L;cases ((L.getD 0 default).toStr.toList==I0.toList)
  ·rfl
  cases h3:(ic L.length==3) with
  | false=>
   rw [show (ic L.length != 3)=!(ic L.length==3) from rfl,h3];rfl
  | true=>
   rw [show (ic L.length != 3)=!(ic L.length==3) from rfl,h3];have e3:ic L.length=3:=by simpa using h3
   rw [e3,show (decide ((0:Nat)≤2)&&decide ((2:Int) < 3))=true from rfl];simp only [A3,Bool.or_self,DJ,DI];cases KM (L.getD 2 default).toStr
   ·rfl
   cases decide (FF (L.getD 2 default).toStr < 0)
   ·cases decide (FF (L.getD 2 default).toStr > 65536) <;> rfl
   ·rfl
 ·simp [R.get] at h
open Go Go.Proofs
def QQ (N:Nat):Env:=D5 [(58,aY),(59,aZ),(23,bH),(43,OO),(57,YO)] [(3,⟨[0,2,3,4,5],[56],[⟨.tmp 4,56,55,true,SY⟩]⟩)] 59 N
abbrev NS (s0:BA) (b3:Bool) (n4:Nat) (x5:Int) (lo56:LI):St:=⟨[(0,(.str s0)),(2,.zs),(3,(.bool b3)),(4,(.row 56 0 n4)),(5,(.i x5))],[(56,(some (.row true 55 true [.z,.list true EC,.z,.z,.z,.z,.z,.z] lo56)))]⟩
theorem zcZ (N:Nat) (u00:BA):DZ (QQ N) UA [.tmp 2,.tmp 3] [[.list true [.z,.list true [.bool,.z,.z],.z,.z,.z,.z,.z,.z]],[.bool]] [.str u00]=(DY (QQ N) (DK UA [1,1,0,1,0,0]) ⟨[0,2,3,4,5],[56],[⟨(.tmp 4),56,55,true,[.z,.list true EC,.z,.z,.z,.z,.z,.z]⟩]⟩ N (NS u00 false 0 0 []) (DQ 0 (DS (QQ N) (DK UA [1,1,1]) (DT (QQ N) none [.tmp 2,.tmp 3] [[.list true [.z,.list true EC,.z,.z,.z,.z,.z,.z]],[.bool]])))):=by kernel_rfl
theorem zip (N:Nat) (s0:BA) (b3:Bool) (n4:Nat) (x5:Int) (lo56:LI) (again:St→DO) (k:Out→St→DO):EZ (QQ N) (DK UA [1,1,0,1,0,0]) (NS s0 b3 n4 x5 lo56) (EN again ⟨[0,2,3,4,5],[56],[⟨(.tmp 4),56,55,true,[.z,.list true EC,.z,.z,.z,.z,.z,.z]⟩]⟩ k)=(cond (!AW s0==AW {data:=#[]}) (cond (decide (AG {data:=#[113,117,101,114,121,32]}+AG (DP x5)≤strMax)) (cond (decide (AG ({data:=#[113,117,101,114,121,32]}++DP x5)+AG {data:=#[10]}≤strMax)) (cond (!N5 s0 (UQ x5)) (k .ret (NS s0 false n4 x5 lo56)) (cond (decide (AG (QC s0 x5) < 4294967281)) (cond (!K5 (QC s0 x5) 1) (k .ret (NS s0 false n4 x5 lo56)) (cond (decide (AG (I9 (QC s0 x5) 1) < 4294967281)) (cond (decide (AG (QC s0 x5) < 4294967281)) (cond (!K5 (QC s0 x5) (K7 (I9 (QC s0 x5) 1))) (k .ret (NS s0 false n4 x5 lo56)) (cond (decide (AG (PA s0 x5) < 4294967281)) (cond (decide (AG (EL (II (PA s0 x5)))≤strMax)) (cond (!U1 (PA s0 x5)) (k .ret (NS s0 false n4 x5 lo56)) (cond (decide ((n4+1)*80≤EE)) (again (NS (Hp s0 x5) b3 (n4+1) (AA AB (x5+1)) (AK n4 lo56++[IV.agg [IV.int (Vd.kind (J1 (PA s0 x5))),IV.list (Vd.proof (J1 (PA s0 x5))),IV.int (Vd.w0 (J1 (PA s0 x5))),IV.int (Vd.w1 (J1 (PA s0 x5))),IV.int (Vd.w2 (J1 (PA s0 x5))),IV.int (Vd.w3 (J1 (PA s0 x5))),IV.int (Vd.twin (J1 (PA s0 x5))),IV.int (Vd.spent (J1 (PA s0 x5)))]]))) none)) none) none)) none) none)) none)) none) none) (k (.exit 0) (NS s0 b3 n4 x5 lo56))):=by kernel_rfl
theorem Wl (N:Nat) (s0:BA) (b3:Bool) (n4:Nat) (x5:Int) (lo56:LI):(DQ 0 (DS (QQ N) (DK UA [1,1,1]) (DT (QQ N) none [.tmp 2,.tmp 3] [[.list true [.z,.list true EC,.z,.z,.z,.z,.z,.z]],[.bool]]))) (.exit 0) (NS s0 b3 n4 x5 lo56)=(some ((.tup [.list true [.z,.list true EC,.z,.z,.z,.z,.z,.z] (AS 0 (AK n4 lo56)),.bool true]),[])):=by kernel_rfl
theorem Wm (N:Nat) (s0:BA) (b3:Bool) (n4:Nat) (x5:Int) (lo56:LI):(DQ 0 (DS (QQ N) (DK UA [1,1,1]) (DT (QQ N) none [.tmp 2,.tmp 3] [[.list true [.z,.list true EC,.z,.z,.z,.z,.z,.z]],[.bool]]))) .ret (NS s0 b3 n4 x5 lo56)=(some ((.tup [.list true [.z,.list true EC,.z,.z,.z,.z,.z,.z] [],.bool b3]),[])):=by kernel_rfl
open Go Go.Proofs
theorem Fa (s:BA) (n:Int):(I9 s n).size≤s.size:=by
 unfold I9;cases K5 s n with
 | true=>rw [DI,vbf]; omega
 | false=>exact B5 _
theorem Tg (s:BA) (n:Int):(SQ s n).size≤s.size:=by
 unfold SQ;cases K5 s n with
 | true=>rw [DI,vbf]; omega
 | false=>exact B5 _
theorem zi7 {s p:BA} (h:N5 s p=true) (hp:0 < p.size):(F9 s p).size < s.size:=by
 have h1:Lib.hasPrefix s.data.toList p.data.toList=true:=h;have h2:p.data.toList.length≤s.data.toList.length:=by
  unfold Lib.hasPrefix at h1;rw [List.isPrefixOf_iff_prefix] at h1;exact h1.length_le
 have e:(F9 s p).size=s.data.toList.length - p.data.toList.length:=by
  unfold F9 Lib.trimPrefix;rw [BP h1];show (List.toArray _).size=_;rw [C8,CY]
 rw [S9] at hp ⊢;rw [← S9,e,S9];omega
def ziM:Option LI→DO
 | some l=>some (.tup [.list true SY l,.bool true],[])
 | none=>some (.tup [.list true SY [],.bool false],[])
theorem zca (i:Nat) (h:i≤9223372036854775807):(DP (i:Int)).size≤21:=ZI (by show -9223372036854775808≤_; omega) (by show _≤(9223372036854775807:Int); omega)
theorem Kw (N:Nat) (K:Out→St→DO)
  (hx:∀ s x O,K (.exit 0) (NS s false O.length x O)=some (.tup [.list true SY (AS 0 (AK O.length O)),.bool true],[]))
  (hr:∀ s x O n,K .ret (NS s false n x O)=some (.tup [.list true SY [],.bool false],[])) :
  ∀ (m n:Nat) (s:BA) (i:Nat) (O:LI),s.size < m→m≤n→s.size < 4294967281→i+s.size≤4294967281→O.length=i →
   DY (QQ N) (DK UA [1,1,0,1,0,0]) ⟨[0,2,3,4,5],[56],[⟨(.tmp 4),56,55,true,SY⟩]⟩ n (NS s false O.length (i:Int) O) K=ziM (TC m i s O)
 | m+1,n+1,s,i,O,hm,hn,hs,hi,hO=>by
  rw [D4,zip,TC];cases h0:(s.toList==EB.toList) with
  | true=>
   rw [A3,DJ,DI,hx,BY,BO];rfl
  | false=>
   have hit:=zca i (by omega);have e1:AG { data:=#[113,117,101,114,121,32] }=6:=rfl;have e2:AG { data:=#[10] }=1:=rfl;rw [A7,DI,DJ];rw [AD (show AG { data:=#[113,117,101,114,121,32] }+(DP (i:Int)).size≤strMax by unfold strMax; omega),DI];rw [AD (show AG ({ data:=#[113,117,101,114,121,32] }++DP (i:Int))+AG { data:=#[10] }≤strMax by rw [AU]; unfold strMax; omega),DI];unfold kZ;rw [show UQ (i:Int)=G7 i from rfl];cases hp:N5 s (G7 i) with
   | false=>
    rw [A7,DI,BL,DJ,hr];rfl
   | true=>
    have hlt:(J3 s i).size < s.size:=zi7 hp (oR i);have ho1:=Fa (J3 s i) 1;have ho2:=Fa (J3 s i) (K7 (I9 (J3 s i) 1));have hb2:=Tg (J3 s i) (K7 (I9 (J3 s i) 1));rw [A3,DJ,BC];rw [show QC s (i:Int)=J3 s i from rfl,show PA s (i:Int)=QB s i from rfl,show Hp s (i:Int)=Z1 s i from rfl];rw [AD (show (J3 s i).size < 4294967281 by omega),DI];cases hc1:K5 (J3 s i) 1 with
    | false=>
     rw [A7,DI,BL,DJ,hr];rfl
    | true=>
     rw [A3,DJ,BC,AD (show (I9 (J3 s i) 1).size < 4294967281 by omega),DI,DI];cases hc2:K5 (J3 s i) (K7 (I9 (J3 s i) 1)) with
     | false=>
      rw [A7,DI,BL,DJ,hr];rfl
     | true=>
      have hpz:=qZ (zf6 (QB s i));rw [A3,DJ,BC,AD (show (QB s i).size < 4294967281 by show (I9 _ _).size < _; omega),DI,AD (show (EL (II (QB s i))).size≤strMax by unfold strMax; omega),DI];cases hc3:U1 (QB s i) with
      | false=>
       rw [A7,DI,DJ,hr];rfl
      | true=>
       rw [A3,DJ,DI,AD (show (O.length+1)*80≤EE by unfold EE; omega),DI,BO,HC (by omega)];have hsz:(Z1 s i).size < s.size:=Nat.lt_of_le_of_lt hb2 hlt;have ih:=Kw N K hx hr m n (Z1 s i) (i+1) (O++[(J1 (QB s i)).I]) (by omega) (by omega) (by omega) (by omega) (by rw [AT]; simp; omega);rw [← ih,AT];rfl
 | 0,_,_,_,_,h,_,_,_,_=>by omega
 | _+1,0,_,_,_,_,h,_,_,_=>by omega
theorem zgW:DX PR B0 21 aX:=by
 refine D6 [(58,aY),(59,aZ),(23,bH),(43,OO),(57,YO)] [(3,⟨[0,2,3,4,5],[56],[⟨.tmp 4,56,55,true,SY⟩]⟩)] aX [[.list true [.z,.list true [.bool,.z,.z],.z,.z,.z,.z,.z,.z]],[.bool]] Tryz.func21 Zv ⟨zgX,zgY,zg6,gG,Jz,trivial⟩ ?_;intro vs r hwf h;unfold aX at h;split at h
 ·rename_i s;rw [R.get_br] at h;cases hg:decide (s.size < 4294967281) with
  | false=>rw [hg] at h; simp [R.get] at h
  | true=>
   have hs:=A1 hg;refine ⟨s.size+1,(zcZ _ s).trans ?_⟩
   have:=Kw (s.size+1) _ (fun s' x O=>Wl (s.size+1) s' false O.length x O) (fun s' x O n=>Wm (s.size+1) s' false n x O) (s.size+1) (s.size+1) s 0 [] (by omega) (by omega) hs (by omega) rfl
   refine this.trans ?_;rw [hg,DI,R.get_br] at h;rw [← h];unfold RV;cases TC (s.size+1) 0 s [] <;> rfl
 ·simp [R.get] at h
open Go
theorem Cl:∀ (x:List UInt8) (L:List (List UInt8)),HQ (x :: L)=Lib.join (x :: L) [10]++[10]
 | x,[]=>by rw [OZ,Lib.join_one]; rfl
 | x,y :: L=>by rw [OZ,Cl y L,jV]; simp
theorem zcw (s:BA) (hs:s.data.toList≠[]):(G9 s).map (fun y=>y.toStr.data.toList)=vay (GT s EP).data.toList [10]:=by
 unfold G9;have e:(s.toList==EB.toList)=false:=by
  rw [YZ];exact AL fun h=>hs (by rw [h])
 rw [e,DJ,vaJ]
 have:((fun x=>x.toStr.data.toList) ∘ IV.str)=fun b:BA=>b.data.toList:=rfl
 rw [this,sY]
theorem zcz {s:BA} {x:List UInt8} {L:List (List UInt8)} (h:s.data.toList=HQ (x :: L)) (hno:∀ l∈x :: L,(10:UInt8) ∉ l):(G9 s).map (fun y=>y.toStr.data.toList)=x :: L:=by
 rw [Cl] at h;rw [zcw s (by rw [h]; simp),Nx h,sZ 10 x L hno]
theorem zcx (s:BA):∃ l:List BA,G9 s=l.map IV.str:=by
 unfold G9;cases (s.toList==EB.toList) with
 | true=>exact ⟨[],rfl⟩
 | false=>exact ⟨_,rfl⟩
theorem zcy {s:BA} {L:List BA} (h:(G9 s).map (fun y=>y.toStr.data.toList)=L.map (·.data.toList)):G9 s=L.map IV.str:=by
 obtain ⟨l,hl⟩:=zcx s;rw [hl] at h ⊢;rw [vaJ] at h
 have:((fun x=>x.toStr.data.toList) ∘ IV.str)=fun b:BA=>b.data.toList:=rfl
 rw [this] at h;rw [kE h]
theorem zcA:G9 EB=[]:=by simp [G9]
open Go
theorem zfJ {q:Qy} (hq:q.In) (d:Int):(D9 q d).size≤2000:=by
 cases h:N9 q d with
 | false=>rw [Ga h]; decide
 | true=>
  obtain ⟨h1,h4,_,_,_,_,hk⟩:=Er h;have hp:D9 q d=GI (JG q d.toNat) G2:=by
   unfold D9;rw [h];rfl
  have zi:∀ {n:Int},ED n→(DP n).size≤100:=fun h=>by have:=o7 h; omega
  have zp:∀ {n:Int},ED n→(DU n).size≤100:=fun h=>by have:=(XP _ h).2; omega
  have hl:(JG q d.toNat).length≤15:=by
   unfold JG HW;simp only [AT,AM,BG,BB,A6,Qy.spans];cases (q.k==1) <;> cases (q.k==2) <;> simp only [BJ,A9,AM,A6] <;> omega
  have hz:=Bp (JG q d.toNat) (fun w hw=>by
   unfold JG at hw;rcases AX.1 hw with hw | hw
   ·rcases AX.1 hw with hw | hw
    ·unfold HW at hw;cases h1:(q.k==1) <;> rw [h1] at hw <;> simp only [BJ,A9] at hw
     ·cases h2:(q.k==2) <;> rw [h2] at hw <;> simp only [BJ,A9,AP,BX,CP] at hw
      ·rcases hw with rfl | rfl | rfl | rfl
       ·cases q.fl <;> decide
       ·exact zi hq.c
       ·decide
       ·exact zi hq.ft
      ·rcases hw with rfl | rfl
       ·decide
       ·exact zi hq.c
     ·simp only [AP,BX,CP] at hw;rcases hw with rfl | rfl | rfl | rfl | rfl | rfl
      ·decide
      ·exact zi hq.c
      ·decide
      ·exact zp hq.lo
      ·decide
      ·exact zp hq.hi
    ·rcases AP.1 hw with rfl | hw
     ·decide
     ·obtain ⟨s,hs,rfl⟩:=CI.1 hw;have hs:=vaK hs;have hin:ED s.1∧ED s.2:=by
       simp only [Qy.spans,AP,BX,CP] at hs;rcases hs with rfl | rfl | rfl | rfl | rfl
       ·exact ⟨hq.a0,hq.b0⟩
       ·exact ⟨hq.a1,hq.b1⟩
       ·exact ⟨hq.a2,hq.b2⟩
       ·exact ⟨hq.a3,hq.b3⟩
       ·exact ⟨hq.a4,hq.b4⟩
      have:=Kr hin.1 hin.2
      omega
   ·simp only [AP,BX,CP] at hw;rcases hw with rfl | rfl
    ·decide
    ·exact zi hq.bu)
  rw [hp];omega
theorem Qy.In.sp {q:Qy} (hq:q.In):∀ s∈q.spans,ED s.1∧ED s.2:=by
 intro s hs;simp only [Qy.spans,AP,BX,CP] at hs;rcases hs with rfl | rfl | rfl | rfl | rfl
 ·exact ⟨hq.a0,hq.b0⟩
 ·exact ⟨hq.a1,hq.b1⟩
 ·exact ⟨hq.a2,hq.b2⟩
 ·exact ⟨hq.a3,hq.b3⟩
 ·exact ⟨hq.a4,hq.b4⟩
theorem zeX {q:Qy} {d:Int} (h1:1≤d) (h4:d≤4) (hc:J5 q.c=true) (hf:J5 q.ft=true) (hb:J5 q.bu=true)
  (hk:(q.k=1∧q.ft=0∧q.fl=false)∨(q.k=2∧q.lo=0∧q.hi=0∧q.ft=0∧q.fl=false)∨(q.k=3∧q.lo=0∧q.hi=0))
  (z0:(0:Int) < d∨(q.a0=0∧q.b0=0)) (z1:(1:Int) < d∨(q.a1=0∧q.b1=0)) (z2:(2:Int) < d∨(q.a2=0∧q.b2=0)) (z3:(3:Int) < d∨(q.a3=0∧q.b3=0)) (z4:(4:Int) < d∨(q.a4=0∧q.b4=0)):N9 q d=true:=by
 have cz:∀ (x:Int) (j:Int),(j < d∨x=0)→cond (decide (j < d)) x 0=x:=fun x j h=>by
  rcases h with h | h
  ·rw [AD h]; rfl
  ·subst h; cases decide (j < d) <;> rfl
 have ht:FU q d=q:=by
  obtain ⟨k,c,a0,b0,a1,b1,a2,b2,a3,b3,a4,b4,lo,hi,ft,fl,bu⟩:=q;simp only at hk z0 z1 z2 z3 z4;simp only [FU,Qy.mk.injEq,vaC];refine ⟨cz _ _ (z0.imp_right (·.1)),cz _ _ (z0.imp_right (·.2)),cz _ _ (z1.imp_right (·.1)),cz _ _ (z1.imp_right (·.2)),cz _ _ (z2.imp_right (·.1)),cz _ _ (z2.imp_right (·.2)),cz _ _ (z3.imp_right (·.1)),cz _ _ (z3.imp_right (·.2)),cz _ _ (z4.imp_right (·.1)),cz _ _ (z4.imp_right (·.2)),?_⟩;rcases hk with ⟨rfl,rfl,rfl⟩ | ⟨rfl,rfl,rfl,rfl,rfl⟩ | ⟨rfl,rfl,rfl⟩ <;> exact ⟨rfl,rfl,rfl,rfl,trivial⟩
 have hk3:(q.k==1||(q.k==2||q.k==3))=true:=by
  rcases hk with ⟨h,_⟩ | ⟨h,_⟩ | ⟨h,_⟩ <;> rw [h] <;> rfl
 unfold N9;rw [ht,Qy.eq_self,hc,hf,hb,hk3,AL (show ¬ d < 1 by omega),AL (show ¬ d > 4 by omega)];rfl
theorem zge (d:Int) (l:LI) (i:Int) : -2≤FV d l i∧FV d l i≤9:=by
 unfold FV
 have:=(HE (n:=EI l (2*i)) (lo := -2) (hi:=9) (by omega) (by omega) (by omega)).2
 cases decide (i < d) <;> simp only [BJ,A9] <;> omega
theorem zgf (d:Int) (l:LI) (i:Int) : -2≤FW d l i∧FW d l i≤20:=by
 unfold FW
 have:=(HE (n:=EI l (2*i)) (lo := -2) (hi:=9) (by omega) (by omega) (by omega)).2
 have:=(HE (n:=EI l (2*i+1)) (lo:=0) (hi:=11) (by omega) (by omega) (by omega)).2
 cases decide (i < d) <;> simp only [BJ,A9] <;> omega
theorem rO {d:Int} (l:LI) {i:Int} (h:d≤i):FV d l i=0∧FW d l i=0:=by
 unfold FV FW;rw [AL (show ¬ i < d by omega)];exact ⟨rfl,rfl⟩
theorem Bt (a:Ak) (cls:Int):FN a cls=1∨FN a cls=2∨FN a cls=3:=by
 unfold FN
 have:=(HE (n:=a.k) (lo:=1) (hi:=3) (by omega) (by omega) (by omega)).2
 cases (DM a.k 1 3==2&&decide (cls < 2)) with
 | true=>exact .inl rfl
 | false=>
  rw [DJ];omega
theorem sJ {n:Int} (h0:0≤n) (h1:n≤1073741824):J5 n=true:=by
 unfold J5;rw [AD h0,AD h1];rfl
theorem zfY (a:Ak) {dim cls:Int} (hd:1≤dim∧dim≤4) (hc:1≤cls∧cls≤3):N9 (JD a dim cls) dim=true:=by
 have c1:=(HE (n:=a.c) (lo:=0) (hi:=cls - 1) (by omega) (by omega) (by omega)).2;have f1:=(HE (n:=a.ft) (lo:=0) (hi:=dim - 1) (by omega) (by omega) (by omega)).2;have b1:=(HE (n:=a.bu) (lo:=0) (hi:=65536) (by omega) (by omega) (by omega)).2;refine zeX hd.1 hd.2 (sJ (by show 0≤DM a.c 0 (cls - 1); omega) (by show DM a.c 0 (cls - 1)≤_; omega)) ?_ (sJ b1.1 (by show DM a.bu 0 65536≤_; omega)) ?_ ?_ ?_ ?_ ?_ ?_
 ·show J5 (cond (FN a cls==3) (DM a.ft 0 (dim - 1)) 0)=true;cases (FN a cls==3) with
  | true=>exact sJ (n:=DM a.ft 0 (dim - 1)) f1.1 (by omega)
  | false=>rfl
 ·show (FN a cls=1∧cond (FN a cls==3) (DM a.ft 0 (dim - 1)) 0=0∧cond (FN a cls==3) a.fl false=false) ∨
   (FN a cls=2∧cond (FN a cls==1) (KD a) 0=0∧cond (FN a cls==1) (KD a+DM a.size 0 18000) 0=0∧cond (FN a cls==3) (DM a.ft 0 (dim - 1)) 0=0∧cond (FN a cls==3) a.fl false=false) ∨
   (FN a cls=3∧cond (FN a cls==1) (KD a) 0=0∧cond (FN a cls==1) (KD a+DM a.size 0 18000) 0=0)
  rcases Bt a cls with h | h | h <;> rw [h]
  ·exact .inl ⟨rfl,rfl,rfl⟩
  ·exact .inr (.inl ⟨rfl,rfl,rfl,rfl,rfl⟩)
  ·exact .inr (.inr ⟨rfl,rfl,rfl⟩)
 ·exact .inl (by omega)
 ·rcases Int.lt_or_le 1 dim with h | h
  ·exact .inl h
  ·exact .inr (rO a.sp h)
 ·rcases Int.lt_or_le 2 dim with h | h
  ·exact .inl h
  ·exact .inr (rO a.sp h)
 ·rcases Int.lt_or_le 3 dim with h | h
  ·exact .inl h
  ·exact .inr (rO a.sp h)
 ·exact .inr ⟨rfl,rfl⟩
theorem zfX (a:Ak) {dim cls:Int} (hd:1≤dim∧dim≤4) (hc:1≤cls∧cls≤3):(JD a dim cls).In:=by
 have c1:=(HE (n:=a.c) (lo:=0) (hi:=cls - 1) (by omega) (by omega) (by omega)).2;have f1:=(HE (n:=a.ft) (lo:=0) (hi:=dim - 1) (by omega) (by omega) (by omega)).2;have b1:=(HE (n:=a.bu) (lo:=0) (hi:=65536) (by omega) (by omega) (by omega)).2;have l1:=(HE (n:=a.lo) (lo := -9000) (hi:=9000) (by omega) (by omega) (by omega)).2;have s1:=(HE (n:=a.size) (lo:=0) (hi:=18000) (by omega) (by omega) (by omega)).2;have k1:=Bt a cls;have A:=fun i=>zge dim a.sp i
 have B:=fun i=>zgf dim a.sp i
 have zA:∀ i,ED (FV dim a.sp i):=fun i=>by have:=A i; unfold ED; omega
 have zB:∀ i,ED (FW dim a.sp i):=fun i=>by have:=B i; unfold ED; omega
 refine ⟨?_,?_,zA 0,zB 0,zA 1,zB 1,zA 2,zB 2,zA 3,zB 3,?_,?_,?_,?_,?_,?_⟩
 ·show ED (FN a cls); unfold ED; omega
 ·show ED (DM a.c 0 (cls - 1)); unfold ED; omega
 ·show ED 0; unfold ED; omega
 ·show ED 0; unfold ED; omega
 ·show ED (cond (FN a cls==1) (KD a) 0);unfold KD ED;cases (FN a cls==1) <;> simp only [BJ,A9] <;> omega
 ·show ED (cond (FN a cls==1) (KD a+DM a.size 0 18000) 0);unfold KD ED;cases (FN a cls==1) <;> simp only [BJ,A9] <;> omega
 ·show ED (cond (FN a cls==3) (DM a.ft 0 (dim - 1)) 0);unfold ED;cases (FN a cls==3) <;> simp only [BJ,A9] <;> omega
 ·show ED (DM a.bu 0 65536); unfold ED; omega
theorem UV {l:List UInt8} (h:∀ c∈l,45≤c.toNat∧c.toNat≤57):(10:UInt8) ∉ l:=(qB h).2
theorem zjr (q:Qy) (D:Nat):∀ w∈JG q D,(10:UInt8) ∉ w.data.toList:=by
 intro w hw;unfold JG at hw;have key:∀ x∈HW q,(10:UInt8) ∉ x.data.toList:=by
  intro x hx;unfold HW at hx;cases h1:(q.k==1) <;> rw [h1] at hx <;> simp only [BJ,A9] at hx
  ·cases h2:(q.k==2) <;> rw [h2] at hx <;> simp only [BJ,A9,AP,BX,CP] at hx
   ·rcases hx with rfl | rfl | rfl | rfl
    ·cases q.fl <;> decide
    ·exact UV (OY _)
    ·decide
    ·exact UV (OY _)
   ·rcases hx with rfl | rfl
    ·decide
    ·exact UV (OY _)
  ·simp only [AP,BX,CP] at hx;rcases hx with rfl | rfl | rfl | rfl | rfl | rfl
   ·decide
   ·exact UV (OY _)
   ·decide
   ·exact UV (ZV _)
   ·decide
   ·exact UV (ZV _)
 rcases AX.1 hw with h | h
 ·rcases AX.1 h with h | h
  ·exact key w h
  ·rcases AP.1 h with rfl | h
   ·decide
   ·obtain ⟨s,_,rfl⟩:=CI.1 h;exact UV (Kq _ _)
 ·simp only [AP,BX,CP] at h;rcases h with rfl | rfl
  ·decide
  ·exact UV (OY _)
theorem Fx (q:Qy) (d:Int):(10:UInt8) ∉ (D9 q d).data.toList:=by
 cases h:N9 q d with
 | false=>
  rw [Ga h];decide
 | true=>
  have:D9 q d=GI (JG q d.toNat) G2:=by
   unfold D9;rw [h];rfl
  rw [this,Bo];refine pR 32 10 (by decide) _ fun v hv=>?_
  obtain ⟨u,hu,rfl⟩:=CI.1 hv;exact zjr q d.toNat u hu
theorem zjn {n lo hi:Int} (h0:lo≤n) (h1:n≤hi) (h2:lo=0) (h3:hi≤1000000):DM n lo hi=n:=by
 subst h2;have hm:=(HE (n:=n) (lo:=0) (hi:=hi) (by omega) (by omega) (by omega)).1;unfold DM;rw [hm];have e:Int.tmod n (hi - 0+1)=n:=Int.tmod_eq_of_lt h0 (by omega);rw [e,AL (show ¬ n < 0 by omega),DJ,Int.zero_add];exact EH (by omega) (by omega)
theorem Ta (a:Ak) (m:Md) {w:Int} (h0:0≤w) (h1:w≤65536):(FB a m).bud w=FB ⟨a.k,a.c,a.lo,a.size,a.ft,w,a.fl,a.sp⟩ m:=by
 unfold FB JD Qy.bud;simp only [zjn h0 h1 rfl (by omega)];rfl
theorem vD (a:Ak) {m:Md} (hd:1≤m.d∧m.d≤4) (hc:1≤m.c∧m.c≤3) {w:Int} (h0:0≤w) (h1:w≤65536) :
  N9 ((FB a m).bud w) m.d=true∧((FB a m).bud w).In∧OR (D9 ((FB a m).bud w) m.d)=true∧GU (D9 ((FB a m).bud w) m.d)=(FB a m).bud w∧PU (D9 ((FB a m).bud w) m.d)=m.d:=by
 rw [Ta a m h0 h1];have ho:=zfY ⟨a.k,a.c,a.lo,a.size,a.ft,w,a.fl,a.sp⟩ hd hc;have hi:=zfX ⟨a.k,a.c,a.lo,a.size,a.ft,w,a.fl,a.sp⟩ hd hc;have hp:=Tb hi.c hi.lo hi.hi hi.ft hi.bu hi.sp ho;exact ⟨ho,hi,hp.1,hp.2.1,hp.2.2⟩
open Go
structure Sits (m:Md) (q:Qy):Prop where
 right:FG m q=true
 few:LD m q (GJ q)≤199
 ok:N9 q m.d=true
 ask:OR (D9 q m.d)=true
 qq:GU (D9 q m.d)=q
 dd:PU (D9 q m.d)=m.d
theorem Za {m:Md} (h:RH m.ts≤99) (q:Qy):LD m q (GJ q)≤199:=by
 have:=zfD m q (GJ q)
 omega
theorem zgP (f:Ft) (a:Ak) {w:Int} (h0:0≤w) (h1:w≤65536):Sits f.M ((FB a f.M).bud w)∧((FB a f.M).bud w).In:=by
 have hd:1≤f.M.d∧f.M.d≤3:=Y8 f.d;have hc:1≤f.M.c∧f.M.c≤3:=dY f.c;obtain ⟨l1,l2,l3,l4,l5⟩:=vD a (m:=f.M) ⟨hd.1,by omega⟩ hc h0 h1;exact ⟨⟨Tc f a h0 h1,Za (by have:=Zi f; omega) _,l1,l3,l4,l5⟩,l2⟩
theorem uW {m:Md} {q:Qy} (h:Sits m q):HO m (D9 q m.d)=E8 m q:=by
 have hs:=ziJ h.right h.few;have ho:WQ m (D9 q m.d)=true:=by
  unfold WQ;rw [h.ask,h.qq,h.dd,h.right];simp
 unfold HO;rw [ho,DI,h.qq];unfold YR;rw [show ((E8 m q).kind==3||O9 m q (E8 m q))=true from hs,DI]
def G0 (d:Int):BA→List Qy→BA
 | s,[]=>s
 | s,q :: l=>G0 d (s++D9 q d++EP) l
theorem Gn (d:Int):∀ (l:List Qy) (s:BA),(G0 d s l).data.toList=s.data.toList++HQ (l.map fun q=>(D9 q d).data.toList)
 | [],s=>by simp [G0,HQ]
 | q :: l,s=>by
  rw [G0,Gn d l,A0,OZ,W1,W1];simp
theorem Gp (d:Int) (l:List Qy):G9 (G0 d EB l)=l.map fun q=>IV.str (D9 q d):=by
 cases l with
 | nil=>exact zcA
 | cons q l=>
  have h:=zcz (s:=G0 d EB (q :: l)) (x:=(D9 q d).data.toList) (L:=l.map fun q=>(D9 q d).data.toList) (by rw [Gn]; rfl) (by
   intro y hy;rcases AP.1 hy with rfl | hy
   ·exact Fx q d
   ·obtain ⟨r,_,rfl⟩:=CI.1 hy;exact Fx r d)
  have h2:=zcy (s:=G0 d EB (q :: l)) (L:=(q :: l).map fun q=>D9 q d) (by rw [h]; simp);rw [h2,vaJ];rfl
theorem uV {m:Md} {l:List Qy} (h:∀ q∈l,Sits m q):PS m (G9 (G0 m.d EB l))=l.map (E8 m):=by
 unfold PS;rw [Gp,vaJ];refine List.map_congr_left fun q hq=>?_
 exact uW (h q hq)
theorem Hs {m:Md} (hm:EW m=true) (hw:YD m) {l:List Qy} (h:∀ q∈l,Sits m q):G1 (FH m) (G0 m.d EB l)=IZ 0 (l.map (E8 m)):=by
 obtain ⟨t1,t2⟩:=Nc hm hw;rw [rZ t1,t2,uV h]
theorem ziW {m:Md} (hm:EW m=true) (hw:YD m) (b:BA):RV (G1 (FH m) b)=some ((PS m (G9 b)).map Q1):=by
 obtain ⟨t1,t2⟩:=Nc hm hw;rw [ziX t1,t2]
open Go
def N1 (x:Int):BA:=strOfNums (A2 IV.toInt [IV.int (AA IntKind.u8 (AA AB (48+x)))])
def Qy.I (q:Qy):IV:=.agg [.int q.k,.int q.c,.int q.a0,.int q.b0,.int q.a1,.int q.b1,.int q.a2,.int q.b2,.int q.a3,.int q.b3,.int q.a4,.int q.b4,.int q.lo,.int q.hi,.int q.ft,.bool q.fl,.int q.bu]
def GA (x:IV):Ak:=⟨cI x 0,cI x 1,cI x 2,cI x 3,cI x 4,cI x 5,(x.cell 6).toBool,(x.cell 7).toList⟩
def J2 (m:Md) (xs:LI) (w:Int):List Qy:=xs.map fun x=>(FB (GA x) m).bud w
def RR:LI→LI→Bool
 | [],[]=>true
 | x :: l,y :: m=>(x.toStr.toList==y.toStr.toList)&&RR l m
 | _,_=>false
def bR:DV
 | [.list false [.str] l,.list false [.str] m]=>.ok (.bool (RR l m)) []
 | _=>.no
def bV:DV
 | []=>.ok (.bool true) []
 | _=>.no
def bZ:DV
 | []=>.ok (.bool true) []
 | _=>.no
def bW:DV
 | [m,.list true [.z,.z,.z,.z,.z,.z,.bool,.list false [.z]] xs,.int .i64 bud,.int .i64 at_,.int .u8 _]=>JT m fun m=>
  .br (NI m&&at_ == -1) (.ok (.list false [.str] ((J2 m (xs.take 5) (DM bud 0 200)).map fun q=>.str (D9 q m.d))) []) .no
 | _=>.no
def mL:DV
 | [f,.list true [.z,.z,.z,.z,.z,.z,.bool,.list false [.z]] _,.int .i64 _]=>gU f fun _=>.ok (.bool true) []
 | _=>.no
def mM:DV
 | [f,g,.list true [.z,.z,.z,.z,.z,.z,.bool,.list false [.z]] _,.list true [.z,.z,.z,.z,.z,.z,.bool,.list false [.z]] _,.int .i64 _]=>gU f fun _=>gU g fun _=>.ok (.bool true) []
 | _=>.no
open Go
open Go
open Go Go.Proofs
theorem rD {m:Md} (h:EW m=true):1≤(FH m).size∧(FH m).size≤300000:=by
 obtain ⟨hd,hc,hl,_,ht⟩:=pT h;have hp:FH m=F5 (L3 m):=by unfold FH; rw [h]; rfl
 have hall:∀ (ts:LI),ts.all (HM m.d m.c)=true→(∀ l∈GP ts,l.length≤8∧∀ w∈l,w.size≤100)∧(GP ts).length≤32*ts.length:=fun ts=>by
  induction ts with
  | nil=>exact fun _=>⟨fun l hl=>(by cases hl),AZ _⟩
  | cons t r ih=>
   intro h;rw [vaA,AI] at h;obtain ⟨i1,i2⟩:=ih h.2;obtain ⟨j1,j2⟩:=Nm hc.2 h.1;rw [GP];refine ⟨fun l hl=>?_,?_⟩
   ·rcases AX.1 hl with hl | hl
    ·exact j1 l hl
    ·exact i1 l hl
   ·rw [AT,AM];omega
 obtain ⟨a1,a2⟩:=hall m.ts ht;have hz:=tQ (L3 m) (fun l hl=>by
  have hl:l∈SX m++GP m.ts:=hl;rcases AX.1 hl with hl | hl
  ·exact Ba h l hl
  ·exact a1 l hl)
 have hn:(L3 m).length=2+(GP m.ts).length:=by
  show (SX m++GP m.ts).length=_;rw [AT];rfl
 rw [hp];refine ⟨?_,by omega⟩;have e:F5 (L3 m)=FO [NP,DP m.d,DP m.c]++F5 (([I7 :: ([m.b0,m.b1,m.b2].take m.c.toNat).map DU])++GP m.ts):=rfl;rw [e,AU]
 have:1≤(FO [NP,DP m.d,DP m.c]).size:=by
  unfold FO;rw [AU];have e1:AG PL=1:=rfl;omega
 omega
open Go
theorem zb5 (i:Nat) (h:i≤9223372036854775807):(DP (i:Int)).size≤21:=ZI (by show -9223372036854775808≤_; omega) (by show _≤(9223372036854775807:Int); omega)
theorem Bb (i:Nat) (h:i≤1000000000):(G7 i).size≤28:=by
 have:=zb5 i (by omega)
 unfold G7;rw [AU,AU];show 6+_+1≤28;omega
theorem Ol:∀ (vs:List Vd) (i:Nat),i+vs.length≤1000000000→(∀ v∈vs,v.rng)→(IZ i vs).size≤4000028*vs.length
 | [],_,_,_=>B5 _
 | v :: r,i,hi,h=>by
  have h1:=qZ (h v (AO ..));have h2:=Ol r (i+1) (by simp only [AM] at hi; omega) fun x hx=>h x (AY _ hx)
  have h3:=Bb i (by simp only [AM] at hi; omega);unfold IZ;rw [AU,AU,AM];omega
theorem k7 (a b:BA) (h:(G9 b).length≤1000):(G1 a b).size≤4000028*1000:=by
 cases ht:PI a with
 | false=>
  unfold G1;rw [ht,DJ];show 6≤_;omega
 | true=>
  rw [rZ ht]
  have:=Ol (PS (IJ a) (G9 b)) 0 (by unfold PS; rw [BG]; omega) fun v hv=>(uY _ _ v hv).2
  unfold PS at this;rw [BG] at this;unfold PS;omega
def aF:BA→Nat→List Vd→BA
 | s,_,[]=>s
 | s,i,v :: r=>aF (s++G7 i++EL v) (i+1) r
theorem Ok:∀ (vs:List Vd) (s:BA) (i:Nat),aF s i vs=s++IZ i vs
 | [],s,i=>by
  show s=s++EB;exact (ByteArray.append_empty).symm
 | v :: r,s,i=>by
  rw [aF,Ok r,IZ,C7,C7]
theorem zjh (vs:List Vd) (i:Nat):aF EB i vs=IZ i vs:=by
 rw [Ok];exact ByteArray.empty_append
def zP (i:Nat):Bool:=(N1 (i:Int)).toList==(DP (i:Int)).toList
theorem Vu:(vau 10).all zP=true:=by kernel_rfl
theorem Vw {i:Nat} (h:i < 10):N1 (i:Int)=DP (i:Int):=by
 have:=CR.1 Vu i (vaR.2 h)
 unfold zP at this;rw [YZ] at this;exact A1 this
theorem Vv {i:Nat} (h:i < 10) (s:BA):s++MC++N1 (i:Int)++EP=s++G7 i:=by
 rw [Vw h];unfold G7;simp only [C7]
theorem rJ (m:Md) (x:IV) (xs:LI) (w:Int):J2 m (x :: xs) w=(FB (GA x) m).bud w :: J2 m xs w:=rfl
theorem tN {l:LI} {k i:Nat} (h:i < l.length) (hk:i < k):(l.take k).drop i=l[i] :: (l.take k).drop (i+1):=by
 rw [BE (by rw [BB]; omega),List.getElem_take]
theorem aA {l:LI} {k i:Nat} (h:¬ (i < l.length∧i < k)):(l.take k).drop i=[]:=CD (by rw [BB]; omega)
theorem zeW {m:Md} (h:NI m=true):(1≤m.d∧m.d≤4)∧(1≤m.c∧m.c≤3):=by
 unfold NI at h;simp only [AI,AQ] at h;exact ⟨⟨h.1.1,h.1.2⟩,⟨h.2.1,h.2.2⟩⟩
theorem mS {m:Md} (h:NI m=true) (a:Ak) {w:Int} (h0:0≤w) (h1:w≤65536):(D9 ((FB a m).bud w) m.d).size≤2000:=by
 obtain ⟨hd,hc⟩:=zeW h;exact zfJ (vD a hd hc h0 h1).2.1 _
theorem Gq (f:Ft) (xs:LI) {w:Int} (h0:0≤w) (h1:w≤65536):∀ q∈J2 f.M xs w,Sits f.M q:=by
 intro q hq;obtain ⟨x,_,rfl⟩:=CI.1 hq;exact (zgP f (GA x) h0 h1).1
theorem rK (m:Md) (xs:LI) (w:Int):(J2 m xs w).length=xs.length:=BG ..
theorem fW (d:Int):∀ (l:List Qy) (s:BA),(∀ q∈l,(D9 q d).size≤2000)→(G0 d s l).size≤s.size+2001*l.length
 | [],s,_=>AZ _
 | q :: l,s,h=>by
  have h1:=h q (AO ..);have h2:=fW d l (s++D9 q d++EP) fun x hx=>h x (AY _ hx)
  rw [AU,AU] at h2;have e:EP.size=1:=rfl;rw [G0,AM];omega
theorem rL {m:Md} (h:NI m=true) (xs:LI) {w:Int} (h0:0≤w) (h1:w≤65536):∀ q∈J2 m xs w,(D9 q m.d).size≤2000:=by
 intro q hq;obtain ⟨x,_,rfl⟩:=CI.1 hq;exact mS h (GA x) h0 h1
theorem kU (d:Int) (l:List Qy):(G9 (G0 d EB l)).length=l.length:=by rw [Gp,BG]
open Go Go.Proofs
def HU (N:Nat):Env:=D5 [(17,MG),(38,SD),(71,V7)] [(4,⟨[1,2,4,5,6,7],[2,500,501],[⟨.tmp 5,500,111,true,[.bool,.z,.z,.z,.z,.z]⟩,⟨.tmp 6,501,3,false,[.z]⟩]⟩),(14,⟨[4,11,100,101,102],[500,502],[⟨.tmp 11,502,103,false,[.int .u64]⟩]⟩)] 113 N
abbrev YH (x1:Int) (n5 n6:Nat) (x7 u06:Int) (u00 u01 u02 u03 u04 u05:LI):St:=⟨[(1,(.i x1)),(2,(.ptr 2 0 0)),(4,.zs),(5,(.row 500 0 n5)),(6,(.row 501 0 n6)),(7,(.i x7))],[(2,(some (.box [.i u06,.list false [.z] u00,.list false [.z] u01,.list false [.z] u02,.list false [.z] u03]))),(500,(some (.row true 111 true [.bool,.z,.z,.z,.z,.z] u04))),(501,(some (.row true 3 false [.z] u05)))]⟩
abbrev aN (n11 n100:Nat) (x101 x102:Int) (u00 u01:LI):St:=⟨[(4,.zs),(11,(.row 502 0 n11)),(100,(.row 500 0 n100)),(101,(.i x101)),(102,(.i x102))],[(500,(some (.row true 111 true [.bool,.z,.z,.z,.z,.z] u00))),(502,(some (.row true 103 false [.int .u64] u01)))]⟩
theorem zdt (N:Nat) (u00:Int) (u01 t_By t_At u02:LI) (a1:Int):DZ (HU N) MJ [.tmp 4] [[.list false [.int .u64]]] [.agg [.i u00,.list false [.z] u01,.list false [.z] t_By,.list false [.z] t_At,.list false [.z] u02],.i a1]=(DY (HU N) (DK MJ [1,1,1,0,1,0,0]) ⟨[1,2,4,5,6,7],[2,500,501],[⟨(.tmp 5),500,111,true,[.bool,.z,.z,.z,.z,.z]⟩,⟨(.tmp 6),501,3,false,[.z]⟩]⟩ N (YH a1 1 1 0 u00 u01 t_By t_At u02 [(IV.agg [IV.bool true,IV.int (DM (EI u02 0) (-3000) 3000),IV.int 0,IV.int 0,IV.int 0,IV.int 0])] [(IV.int 0)]) (DQ 0 (DS (HU N) (DK MJ [1,1,1,1]) (DT (HU N) none [.tmp 4] [[.list false [.int .u64]]])))):=by kernel_rfl
theorem Lr (N:Nat) (x1:Int) (n5 n6:Nat) (x7 u06:Int) (u00 u01 u02 u03 u04 u05:LI) (again:St→DO) (k:Out→St→DO):EZ (HU N) (DK MJ [1,1,1,0,1,0,0]) (YH x1 n5 n6 x7 u06 u00 u01 u02 u03 u04 u05) (EN again ⟨[1,2,4,5,6,7],[2,500,501],[⟨(.tmp 5),500,111,true,[.bool,.z,.z,.z,.z,.z]⟩,⟨(.tmp 6),501,3,false,[.z]⟩]⟩ k)=(cond (decide (x7 < ic (AF u00))) (cond (decide (x7 < 7)) (cond (decide (0≤x7)&&decide (x7 < ic (AF u00))) (cond (decide (M2 0 (AA AB (ic (n6 - 0) - 1))=0)) none (cond (decide (0≤DM (IV.toInt (AH u00 (AE x7) default)) 0 (AA AB (ic (n6 - 0) - 1)))&&decide (DM (IV.toInt (AH u00 (AE x7) default)) 0 (AA AB (ic (n6 - 0) - 1)) < ic (n6 - 0))) (cond (decide (0≤x7)) (cond (decide (M2 0 (AA AB (x1 - 1))=0)) none (cond (decide (0≤x7)) (cond (decide (0≤IV.toInt (AH u05 (0+AE (DM (IV.toInt (AH u00 (AE x7) default)) 0 (AA AB (ic (n6 - 0) - 1)))) default))&&decide (IV.toInt (AH u05 (0+AE (DM (IV.toInt (AH u00 (AE x7) default)) 0 (AA AB (ic (n6 - 0) - 1)))) default) < ic (n5 - 0))) (cond (decide (0≤AA AB (AA AB (2*x7)+1))) (cond (decide (0≤AA AB (AA AB (2*x7)+2))) (cond (decide ((n5+AF (AS 0 (AK 2 [IV.agg [IV.bool true,IV.int (DM (EI u03 (AA AB (AA AB (2*x7)+1))) (-3000) 3000),IV.int 0,IV.int 0,IV.int 0,IV.int 0],IV.agg [IV.bool true,IV.int (DM (EI u03 (AA AB (AA AB (2*x7)+2))) (-3000) 3000),IV.int 0,IV.int 0,IV.int 0,IV.int 0]])))*TI.bytes (Env.tyd (HU N) 111)≤EE)) (cond (decide (0≤DM (IV.toInt (AH u00 (AE x7) default)) 0 (AA AB (ic (n6 - 0) - 1)))&&decide (DM (IV.toInt (AH u00 (AE x7) default)) 0 (AA AB (ic (n6 - 0) - 1))≤ic (n6 - 0))) (cond (decide ((0+AF (AS 0 (AK (0+AE (DM (IV.toInt (AH u00 (AE x7) default)) 0 (AA AB (ic (n6 - 0) - 1)))) u05)))*TI.bytes (Env.tyd (HU N) 3)≤EE)) (cond (decide (0≤AA AB (DM (IV.toInt (AH u00 (AE x7) default)) 0 (AA AB (ic (n6 - 0) - 1))+1))&&decide (AA AB (DM (IV.toInt (AH u00 (AE x7) default)) 0 (AA AB (ic (n6 - 0) - 1))+1)≤ic (n6 - 0))) (cond (decide ((0+AF (AS 0 (AK (0+AE (DM (IV.toInt (AH u00 (AE x7) default)) 0 (AA AB (ic (n6 - 0) - 1)))) u05))+AF (AS (0+AE (AA AB (DM (IV.toInt (AH u00 (AE x7) default)) 0 (AA AB (ic (n6 - 0) - 1))+1))) (AK (0+(n6 - 0)) u05)))*TI.bytes (Env.tyd (HU N) 3)≤EE)) (cond (decide ((0+AF (AS 0 (AK (0+AE (DM (IV.toInt (AH u00 (AE x7) default)) 0 (AA AB (ic (n6 - 0) - 1)))) u05))+AF (AS (0+AE (AA AB (DM (IV.toInt (AH u00 (AE x7) default)) 0 (AA AB (ic (n6 - 0) - 1))+1))) (AK (0+(n6 - 0)) u05))+AF (AS 0 (AK 2 [IV.int (ic (n5 - 0)),IV.int (AA AB (ic (n5 - 0)+1))])))*TI.bytes (Env.tyd (HU N) 3)≤EE)) (again (YH x1 (n5+AF (AS 0 (AK 2 [IV.agg [IV.bool true,IV.int (DM (EI u03 (AA AB (AA AB (2*x7)+1))) (-3000) 3000),IV.int 0,IV.int 0,IV.int 0,IV.int 0],IV.agg [IV.bool true,IV.int (DM (EI u03 (AA AB (AA AB (2*x7)+2))) (-3000) 3000),IV.int 0,IV.int 0,IV.int 0,IV.int 0]]))) (0+AF (AS 0 (AK (0+AE (DM (IV.toInt (AH u00 (AE x7) default)) 0 (AA AB (ic (n6 - 0) - 1)))) u05))+AF (AS (0+AE (AA AB (DM (IV.toInt (AH u00 (AE x7) default)) 0 (AA AB (ic (n6 - 0) - 1))+1))) (AK (0+(n6 - 0)) u05))+AF (AS 0 (AK 2 [IV.int (ic (n5 - 0)),IV.int (AA AB (ic (n5 - 0)+1))]))) (AA AB (x7+1)) u06 u00 u01 u02 u03 (AK n5 (List.set u04 (0+AE (IV.toInt (AH u05 (0+AE (DM (IV.toInt (AH u00 (AE x7) default)) 0 (AA AB (ic (n6 - 0) - 1)))) default))) (OB true [Kd.bool,Kd.int AB,Kd.int AB,Kd.int AB,Kd.int AB,Kd.int AB] (AH u04 (0+AE (IV.toInt (AH u05 (0+AE (DM (IV.toInt (AH u00 (AE x7) default)) 0 (AA AB (ic (n6 - 0) - 1)))) default))) default) 0 [IV.bool false,IV.int 0,IV.int (DM (EI u01 x7) 0 (AA AB (x1 - 1))),IV.int (DM (EI u02 x7) 0 9),IV.int (ic (n5 - 0)),IV.int (AA AB (ic (n5 - 0)+1))]))++AS 0 (AK 2 [IV.agg [IV.bool true,IV.int (DM (EI u03 (AA AB (AA AB (2*x7)+1))) (-3000) 3000),IV.int 0,IV.int 0,IV.int 0,IV.int 0],IV.agg [IV.bool true,IV.int (DM (EI u03 (AA AB (AA AB (2*x7)+2))) (-3000) 3000),IV.int 0,IV.int 0,IV.int 0,IV.int 0]])) (AK (0+AF (AS 0 (AK (0+AE (DM (IV.toInt (AH u00 (AE x7) default)) 0 (AA AB (ic (n6 - 0) - 1)))) u05))+AF (AS (0+AE (AA AB (DM (IV.toInt (AH u00 (AE x7) default)) 0 (AA AB (ic (n6 - 0) - 1))+1))) (AK (0+(n6 - 0)) u05))) (AK (0+AF (AS 0 (AK (0+AE (DM (IV.toInt (AH u00 (AE x7) default)) 0 (AA AB (ic (n6 - 0) - 1)))) u05))) (AK 0 []++AS 0 (AK (0+AE (DM (IV.toInt (AH u00 (AE x7) default)) 0 (AA AB (ic (n6 - 0) - 1)))) u05))++AS (0+AE (AA AB (DM (IV.toInt (AH u00 (AE x7) default)) 0 (AA AB (ic (n6 - 0) - 1))+1))) (AK (0+(n6 - 0)) u05))++AS 0 (AK 2 [IV.int (ic (n5 - 0)),IV.int (AA AB (ic (n5 - 0)+1))])))) none) none) none) none) none) none) none) none) none) none)) none) none)) none) (k (.exit 0) (YH x1 n5 n6 x7 u06 u00 u01 u02 u03 u04 u05))) (k (.exit 0) (YH x1 n5 n6 x7 u06 u00 u01 u02 u03 u04 u05))):=by kernel_rfl
theorem Xj (N:Nat) (x1:Int) (n5 n6:Nat) (x7 u06:Int) (u00 u01 u02 u03 u04 u05:LI):(DQ 0 (DS (HU N) (DK MJ [1,1,1,1]) (DT (HU N) none [.tmp 4] [[.list false [.int .u64]]]))) (.exit 0) (YH x1 n5 n6 x7 u06 u00 u01 u02 u03 u04 u05)=(DY (HU N) (DK MJ [1,1,1,1,1,0,1,0,0]) ⟨[4,11,100,101,102],[500,502],[⟨(.tmp 11),502,103,false,[.int .u64]⟩]⟩ N (aN 0 n5 (ic (n5 - 0)) 0 u04 []) (DQ 2 (DS (HU N) (DK MJ [1,1,1,1,1,1]) (DT (HU N) none [.tmp 4] [[.list false [.int .u64]]])))):=by kernel_rfl
theorem Ls (N n11 n100:Nat) (x101 x102:Int) (u00 u01:LI) (again:St→DO) (k:Out→St→DO):EZ (HU N) (DK MJ [1,1,1,1,1,0,1,0,0]) (aN n11 n100 x101 x102 u00 u01) (EN again ⟨[4,11,100,101,102],[500,502],[⟨(.tmp 11),502,103,false,[.int .u64]⟩]⟩ k)=(cond (decide (x102 < x101)) (cond (decide (0≤x102)&&decide (x102 < ic (n100 - 0))) (cond (decide ((n11+AF (AS 0 (AK 1 [IV.int (IH (IV.toBool (IV.cell (AH u00 (0+AE x102) default) 0)) (IV.toInt (IV.cell (AH u00 (0+AE x102) default) 1)) (IV.toInt (IV.cell (AH u00 (0+AE x102) default) 2)) (IV.toInt (IV.cell (AH u00 (0+AE x102) default) 3)) (IV.toInt (IV.cell (AH u00 (0+AE x102) default) 4)) (IV.toInt (IV.cell (AH u00 (0+AE x102) default) 5)))])))*TI.bytes (Env.tyd (HU N) 103)≤EE)) (again (aN (n11+AF (AS 0 (AK 1 [IV.int (IH (IV.toBool (IV.cell (AH u00 (0+AE x102) default) 0)) (IV.toInt (IV.cell (AH u00 (0+AE x102) default) 1)) (IV.toInt (IV.cell (AH u00 (0+AE x102) default) 2)) (IV.toInt (IV.cell (AH u00 (0+AE x102) default) 3)) (IV.toInt (IV.cell (AH u00 (0+AE x102) default) 4)) (IV.toInt (IV.cell (AH u00 (0+AE x102) default) 5)))]))) n100 x101 (AA AB (x102+1)) u00 (AK n11 u01++AS 0 (AK 1 [IV.int (IH (IV.toBool (IV.cell (AH u00 (0+AE x102) default) 0)) (IV.toInt (IV.cell (AH u00 (0+AE x102) default) 1)) (IV.toInt (IV.cell (AH u00 (0+AE x102) default) 2)) (IV.toInt (IV.cell (AH u00 (0+AE x102) default) 3)) (IV.toInt (IV.cell (AH u00 (0+AE x102) default) 4)) (IV.toInt (IV.cell (AH u00 (0+AE x102) default) 5)))])))) none) none) (k (.exit 2) (aN n11 n100 x101 x102 u00 u01))):=by kernel_rfl
theorem Xk (N n11 n100:Nat) (x101 x102:Int) (u00 u01:LI):(DQ 2 (DS (HU N) (DK MJ [1,1,1,1,1,1]) (DT (HU N) none [.tmp 4] [[.list false [.int .u64]]]))) (.exit 2) (aN n11 n100 x101 x102 u00 u01)=(some ((.list false [.int .u64] (AS 0 (AK n11 u01))),[])):=by kernel_rfl
open Go Go.Proofs
structure Ns.At (i:Nat) (s:Ns):Prop where
 nl:s.nodes.length=2*i+1
 ll:s.leaves.length=i+1
 lt:∀ x∈s.leaves,0≤x.toInt∧x.toInt < (2*i+1:Nat)
theorem p8 {part:LI} {i:Nat} {s:Ns} (h:s.At i) (hi:i≤100):0≤H9 part i s∧H9 part i s < ((i+1:Nat):Int)∧M2 0 (ic s.leaves.length - 1)=((i+1:Nat):Int):=by
 have e:ic s.leaves.length=((i+1:Nat):Int):=by rw [h.ll]
 obtain ⟨m,a,b⟩:=HE (n:=(part.getD i default).toInt) (lo:=0) (hi:=ic s.leaves.length - 1) (by rw [e]; omega) (by omega) (by rw [e]; omega);unfold H9;rw [e] at a b m ⊢;exact ⟨a,by omega,by rw [m]; omega⟩
theorem zeS {part:LI} {i:Nat} {s:Ns} (h:s.At i) (hi:i≤100):0≤RJ part i s∧RJ part i s < (2*i+1:Nat):=by
 obtain ⟨k0,k1,_⟩:=p8 (part:=part) h hi;have hk:(H9 part i s).toNat < s.leaves.length:=by rw [h.ll]; omega
 have e:s.leaves.getD (H9 part i s).toNat default=s.leaves[(H9 part i s).toNat]:=by simp [hk]
 unfold RJ;rw [e];exact h.lt _ (CX hk)
theorem Ns.At.step {part byl atl val:LI} {dim:Int} {i:Nat} {s:Ns} (h:s.At i) (hi:i≤100):(KG part byl atl val dim i s).At (i+1):=by
 obtain ⟨k0,k1,_⟩:=p8 (part:=part) h hi;refine ⟨?_,?_,?_⟩
 ·simp only [KG,AT,vaG,AM,A6,h.nl];omega
 ·simp only [KG,AT,BB,CY,AM,A6,h.ll];omega
 ·intro x hx;simp only [KG,AX] at hx;rcases hx with (hx | hx) | hx
  ·have:=h.lt x (vaK hx)
   omega
  ·have:=h.lt x (va8 hx)
   omega
  ·simp only [AP,BX,CP] at hx;rcases hx with rfl | rfl
   ·simp only [IV.toInt,ic,h.nl]; omega
   ·simp only [IV.toInt,ic,h.nl]; omega
abbrev kN:List Kd:=[.bool,.z,.z,.z,.z,.z]
abbrev pC:KP:=⟨[1,2,4,5,6,7],[2,500,501],[⟨(.tmp 5),500,111,true,[.bool,.z,.z,.z,.z,.z]⟩,⟨(.tmp 6),501,3,false,[.z]⟩]⟩
abbrev gJ (cl:Int) (part byl atl val:LI) (dim:Int) (s:Ns) (i:Int):St:=
 ⟨[(1,(.int .i64 dim)),(2,(.ptr 2 0 0)),(4,.zs),(5,(.row 500 0 s.nodes.length)),(6,(.row 501 0 s.leaves.length)),(7,(.int .i64 i))],[(2,(some (.box [(.int .i64 cl),(.list false [.z] part),(.list false [.z] byl),(.list false [.z] atl),(.list false [.z] val)]))),(500,(some (.row true 111 true kN s.nodes))),(501,(some (.row true 3 false [.z] s.leaves)))]⟩
theorem zeN (N:Nat):TI.bytes (Env.tyd (HU N) 111)=48:=by rfl
theorem zb0 (N:Nat):TI.bytes (Env.tyd (HU N) 3)=8:=by rfl
theorem zfV (x a b c d e f:IV):OB true kN x 0 [a,b,c,d,e,f] = .agg [a,b,c,d,e,f]:=rfl
set_option maxHeartbeats 4000000 in
theorem zeO (N:Nat) (cl:Int) (part byl atl val:LI) (dim:Int) (h1:1≤dim) (h4:dim≤4) (s:Ns) (i:Nat) (hs:s.At i) (hi:i < part.length) (h7:i < 7) (again:St→DO) (k:Out→St→DO) :
  EZ (HU N) (DK MJ [1,1,1,0,1,0,0]) (gJ cl part byl atl val dim s (i:Int)) (EN again pC k)=again (gJ cl part byl atl val dim (KG part byl atl val dim i s) ((i+1:Nat):Int)):=by
 refine (Lr N dim s.nodes.length s.leaves.length i cl part byl atl val s.nodes s.leaves again k).trans ?_;obtain ⟨k0,k1,km⟩:=p8 (part:=part) hs (by omega);obtain ⟨a0,a1⟩:=zeS (part:=part) hs (by omega);obtain ⟨dm,_,_⟩:=HE (n:=0) (lo:=0) (hi:=dim - 1) (by omega) (by omega) (by omega);have eL:ic (s.leaves.length - 0)=ic s.leaves.length:=rfl;have eN:ic (s.nodes.length - 0)=ic s.nodes.length:=rfl;have hL:ic s.leaves.length=((i+1:Nat):Int):=by rw [hs.ll]
 have hN:ic s.nodes.length=((2*i+1:Nat):Int):=by rw [hs.nl]
 have w1:IntKind.wrap IntKind.i64 (ic s.leaves.length - 1)=ic s.leaves.length - 1:=EH (by rw [hL]; omega) (by rw [hL]; omega);have w2:IntKind.wrap IntKind.i64 (dim - 1)=dim - 1:=EH (by omega) (by omega);have w3:IntKind.wrap IntKind.i64 (2*(i:Int))=2*(i:Int):=EH (by omega) (by omega);have w4:IntKind.wrap IntKind.i64 (2*(i:Int)+1)=2*(i:Int)+1:=EH (by omega) (by omega);have w5:IntKind.wrap IntKind.i64 (2*(i:Int)+2)=2*(i:Int)+2:=EH (by omega) (by omega);have w6:IntKind.wrap IntKind.i64 (ic s.nodes.length+1)=ic s.nodes.length+1:=EH (by rw [hN]; omega) (by rw [hN]; omega);rw [eL,eN,w1,w2,w3,w4,w5,w6,Int.toNat_natCast];have eK:DM (IV.toInt (List.getD part i default)) 0 (ic s.leaves.length - 1)=H9 part i s:=rfl;rw [eK];have w7:IntKind.wrap IntKind.i64 (H9 part i s+1)=H9 part i s+1:=EH (by omega) (by omega);rw [w7];have e0:∀ n:Nat,0+n=n:=Nat.zero_add;simp only [e0];have eA:IV.toInt (List.getD s.leaves (H9 part i s).toNat default)=RJ part i s:=rfl;rw [eA,zeN,zb0];obtain ⟨q,hq⟩:∃ q:Nat,H9 part i s=q:=⟨(H9 part i s).toNat,by omega⟩;have eq1:(H9 part i s+1).toNat=q+1:=by omega
 have eq0:(H9 part i s).toNat=q:=by omega
 have hq1:q < i+1:=by omega
 have lt2:∀ x y:IV,(List.drop 0 (List.take 2 [x,y]))=[x,y]:=fun _ _=>rfl
 have lk:List.drop 0 (List.take q s.leaves)=List.take q s.leaves:=List.drop_zero;have lk2:List.drop (q+1) (List.take (s.leaves.length - 0) s.leaves)=List.drop (q+1) s.leaves:=by rw [Nat.sub_zero,List.take_length]
 rw [eq1,eq0,lt2,lt2,lk,lk2];have zA:(List.take q s.leaves).length=q:=by rw [List.length_take,hs.ll]; omega
 have zB:(List.drop (q+1) s.leaves).length=i - q:=by rw [List.length_drop,hs.ll]; omega
 rw [zA,zB];simp only [List.length_cons,List.length_nil];rw [decide_eq_true (show (i:Int) < ic part.length by simp only [ic]; omega),decide_eq_true (show (i:Int) < 7 by omega),decide_eq_true (show 0≤(i:Int) by omega),km,decide_eq_false (show ¬ ((i+1:Nat):Int)=0 by omega),
  decide_eq_true k0,decide_eq_true (show H9 part i s < ic s.leaves.length by rw [hL]; exact k1),dm,decide_eq_false (show ¬ (dim - 1 - 0+1=0) by omega),decide_eq_true a0,decide_eq_true (show RJ part i s < ic s.nodes.length by rw [hN]; exact a1),
  decide_eq_true (show 0≤2*(i:Int)+1 by omega),decide_eq_true (show 0≤2*(i:Int)+2 by omega),decide_eq_true (show (s.nodes.length+(0+1+1))*48≤EE by rw [hs.nl]; unfold EE; omega),
  decide_eq_true (show H9 part i s≤ic s.leaves.length by rw [hL]; omega),decide_eq_true (show q*8≤EE by unfold EE; omega),decide_eq_true (show 0≤H9 part i s+1 by omega),decide_eq_true (show H9 part i s+1≤ic s.leaves.length by rw [hL]; omega),
  decide_eq_true (show (q+(i - q))*8≤EE by unfold EE; omega),decide_eq_true (show (q+(i - q)+(0+1+1))*8≤EE by unfold EE; omega)]
 simp only [Bool.and_true,DI,DJ];have g1:(KG part byl atl val dim i s).nodes.length=s.nodes.length+(0+1+1):=by rw [(hs.step (by omega)).nl,hs.nl]; omega
 have g2:(KG part byl atl val dim i s).leaves.length=q+(i - q)+(0+1+1):=by rw [(hs.step (by omega)).ll]; omega
 have g3:(KG part byl atl val dim i s).nodes=List.take s.nodes.length (List.set s.nodes (RJ part i s).toNat (OB true kN (List.getD s.nodes (RJ part i s).toNat default) 0 [IV.bool false,IV.int 0,IV.int (DM (EI byl (i:Int)) 0 (dim - 1)),IV.int (DM (EI atl (i:Int)) 0 9),IV.int (ic s.nodes.length),IV.int (ic s.nodes.length+1)])) ++
   [IV.agg [IV.bool true,IV.int (DM (EI val (2*(i:Int)+1)) (-3000) 3000),IV.int 0,IV.int 0,IV.int 0,IV.int 0],IV.agg [IV.bool true,IV.int (DM (EI val (2*(i:Int)+2)) (-3000) 3000),IV.int 0,IV.int 0,IV.int 0,IV.int 0]]:=by
  rw [zfV,List.take_of_length_le (by rw [List.length_set]; exact Nat.le_refl _)];rfl
 have g4:(KG part byl atl val dim i s).leaves=List.take (q+(i - q)) (List.take q (List.take 0 []++List.take q s.leaves)++List.drop (q+1) s.leaves)++[IV.int (ic s.nodes.length),IV.int (ic s.nodes.length+1)]:=by
  rw [List.take_zero,List.nil_append,List.take_take,Nat.min_self,List.take_of_length_le (by rw [List.length_append,zA,zB]; exact Nat.le_refl _)];show List.take (H9 part i s).toNat s.leaves++List.drop ((H9 part i s).toNat+1) s.leaves++_=_;rw [eq0]
 rw [show gJ cl part byl atl val dim (KG part byl atl val dim i s) ((i+1:Nat):Int)=⟨[(1,(.int .i64 dim)),(2,(.ptr 2 0 0)),(4,.zs),(5,(.row 500 0 (KG part byl atl val dim i s).nodes.length)),(6,(.row 501 0 (KG part byl atl val dim i s).leaves.length)),(7,(.int .i64 ((i+1:Nat):Int)))],[(2,(some (.box [(.int .i64 cl),(.list false [.z] part),(.list false [.z] byl),(.list false [.z] atl),(.list false [.z] val)]))),(500,(some (.row true 111 true kN (KG part byl atl val dim i s).nodes))),(501,(some (.row true 3 false [.z] (KG part byl atl val dim i s).leaves)))]⟩ from rfl,g1,g2,g3,g4,HC (by omega)]
theorem Ef (N:Nat) (cl:Int) (part byl atl val:LI) (dim:Int) (h1:1≤dim) (h4:dim≤4) (K:Out→St→DO):∀ (d i n:Nat) (s:Ns),i+d=min part.length 7→d < n→s.At i →
  (∃ j,DY (HU N) (DK MJ [1,1,1,0,1,0,0]) pC n (gJ cl part byl atl val dim s (i:Int)) K=K (.exit 0) (gJ cl part byl atl val dim (ZO part byl atl val dim d i s) j))∧(ZO part byl atl val dim d i s).At (i+d)
 | 0,i,n+1,s,hd,hn,hs=>by
  refine ⟨⟨(i:Int),?_⟩,hs⟩;rw [D4];refine (Lr N dim s.nodes.length s.leaves.length i cl part byl atl val s.nodes s.leaves _ _).trans ?_;by_cases hp:i < part.length
  ·rw [AD (show (i:Int) < ic part.length by simp only [ic]; omega),DI,AL (show ¬ (i:Int) < 7 by omega),DJ];rfl
  ·rw [AL (show ¬ (i:Int) < ic part.length by simp only [ic]; omega),DJ];rfl
 | d+1,i,n+1,s,hd,hn,hs=>by
  obtain ⟨⟨j,ih⟩,ih2⟩:=Ef N cl part byl atl val dim h1 h4 K d (i+1) n (KG part byl atl val dim i s) (by omega) (by omega) (hs.step (by omega));refine ⟨⟨j,?_⟩,by rw [show i+(d+1)=i+1+d by omega]; exact ih2⟩;rw [D4,zeO N cl part byl atl val dim h1 h4 s i hs (by omega) (by omega)];exact ih
 | _,_,0,_,_,h,_=>by omega
theorem zi9 (N:Nat):TI.bytes (Env.tyd (HU N) 103)=8:=by rfl
abbrev Bw:KP:=⟨[4,11,100,101,102],[500,502],[⟨(.tmp 11),502,103,false,[(.int .u64)]⟩]⟩
theorem Ez (N:Nat) (L:LI) (hL:L.length≤1000):∀ (d i n:Nat) (O:LI),i+d=L.length→d < n→O.length=i →
  DY (HU N) (DK MJ [1,1,1,1,1,0,1,0,0]) Bw n ⟨[(4,.zs),(11,(.row 502 0 O.length)),(100,(.row 500 0 L.length)),(101,(.int .i64 (ic (L.length - 0)))),(102,(.int .i64 (i:Int)))],[(500,(some (.row true 111 true kN L))),(502,(some (.row true 103 false [(.int .u64)] O)))]⟩
   (DQ 2 (DS (HU N) (DK MJ [1,1,1,1,1,1]) (DT (HU N) none [(CF 4)] [[(.list false [(.int .u64)])]])))=some (.list false [.int .u64] (O++(L.drop i).map S4),[])
 | 0,i,n+1,O,hd,hn,hO=>by
  rw [D4];refine (Ls N O.length L.length (ic (L.length - 0)) i L O _ _).trans ?_;rw [AL (show ¬ (i:Int) < ic (L.length - 0) by simp only [ic]; omega),DJ];refine (Xk N O.length L.length (ic (L.length - 0)) i L O).trans ?_;rw [BY,BO,CD (by omega),CA,DB]
 | d+1,i,n+1,O,hd,hn,hO=>by
  have hi:i < L.length:=by omega
  rw [D4];refine (Ls N O.length L.length (ic (L.length - 0)) i L O _ _).trans ?_;have ih:=Ez N L hL d (i+1) n (O++[S4 L[i]]) (by omega) (by omega) (by simp [hO]);have l1:∀ x:IV,AS 0 (AK 1 [x])=[x]:=fun _=>rfl
  have eg:AH L (0+AE (i:Int)) default=L[i]:=by rw [BI,BF]; simp [hi]
  rw [AD (show (i:Int) < ic (L.length - 0) by simp only [ic]; omega),AD (show 0≤(i:Int) by omega),B2,DI,DI,eg,l1,zi9,C2,AD (show (O.length+1)*8≤EE by rw [hO]; unfold EE; omega),DI,BO,HC (by omega)];rw [BE hi,A0];rw [AT,C2,vaI] at ih;exact ih
 | _,_,0,_,_,h,_=>by omega
theorem zhk:DX PR B0 39 bT:=by
 refine D6 [(17,MG),(38,SD),(71,V7)] [(4,pC),(14,Bw)] bT [[.list false [.int .u64]]] Tryz.func39 zaE
  ⟨Z5,sS,Jh,trivial⟩ ?_
 intro vs r hwf h;unfold bT at h;split at h
 ·rename_i cl part byl atl val dim;cases hc:(decide (1≤dim)&&decide (dim≤4)) with
  | false=>rw [hc] at h; simp [R.get] at h
  | true=>
   rw [hc,R.get_br,DI,R.get_ok] at h;simp only [AI,AQ] at hc;refine ⟨30,?_⟩;rw [← h];refine (zdt 30 cl part byl atl val dim).trans ?_;have h0:(⟨[L0 (DM (EI val 0) (-3000) 3000)],[.int 0]⟩:Ns).At 0:=⟨rfl,rfl,fun x hx=>by
    rw [BM] at hx;subst hx;exact ⟨by decide,by decide⟩⟩
   obtain ⟨⟨j,run⟩,hat⟩:=Ef 30 cl part byl atl val dim hc.1 hc.2 (DQ 0 (DS (HU 30) (DK MJ [1,1,1,1]) (DT (HU 30) none [(CF 4)] [[(.list false [(.int .u64)])]]))) (min part.length 7) 0 30 _ (by omega) (by omega) h0;refine run.trans ?_;have e:ZO part byl atl val dim (min part.length 7) 0 ⟨[L0 (DM (EI val 0) (-3000) 3000)],[.int 0]⟩=O7 part byl atl val dim:=rfl;rw [e] at hat ⊢;have hn:=hat.nl;refine (Xj 30 dim (O7 part byl atl val dim).nodes.length (O7 part byl atl val dim).leaves.length j cl part byl atl val (O7 part byl atl val dim).nodes (O7 part byl atl val dim).leaves).trans ?_
   have:=Ez 30 (O7 part byl atl val dim).nodes (by omega) (O7 part byl atl val dim).nodes.length 0 30 [] (by omega) (by omega) rfl
   rw [BY,C4] at this;exact this
 ·simp [R.get] at h
open Go Go.Proofs
def JH (N:Nat):Env:=D5 [(17,MG),(39,bT),(38,SD)] [(3,⟨[1,2,3,14,15],[1,2,3],[]⟩),(8,⟨[1,2,3,5],[1,2,3,500],[⟨.cell 3 5,500,88,true,[.z,.list false [.int .u64]]⟩]⟩)] 63 N
abbrev VQ (x14 x15 u02 u03:Int) (u00 u01:LI) (u04 u05 u06 u07 u08 u09 u0a u0b u0c u0d:Int):St:=⟨[(1,(.ptr 1 0 0)),(2,(.ptr 2 0 0)),(3,(.ptr 3 0 0)),(14,(.i x14)),(15,(.i x15))],[(1,(some (.box [.i u02,.i u03,.list false [.z] u00,.list true [.z,.list false [.z],.list false [.z],.list false [.z],.list false [.z]] u01]))),(2,(some (.box [.i u04,.i u05,.i u06,.i u07,.i u08,.zs]))),(3,(some (.box [.i u09,.i u0a,.i u0b,.i u0c,.i u0d,.zs])))]⟩
abbrev YG (x5 u04 u05:Int) (u00 u01:LI) (u06 u07 u08 u09 u0a u0b u0c u0d u0e u0f:Int) (u03:Nat) (u02:LI):St:=⟨[(1,(.ptr 1 0 0)),(2,(.ptr 2 0 0)),(3,(.ptr 3 0 0)),(5,(.i x5))],[(1,(some (.box [.i u04,.i u05,.list false [.z] u00,.list true [.z,.list false [.z],.list false [.z],.list false [.z],.list false [.z]] u01]))),(2,(some (.box [.i u06,.i u07,.i u08,.i u09,.i u0a,.zs]))),(3,(some (.box [.i u0b,.i u0c,.i u0d,.i u0e,.i u0f,.row 500 0 u03]))),(500,(some (.row true 88 true [.z,.list false [.int .u64]] u02)))]⟩
theorem zdq (N:Nat) (u02 u01:Int) (u00 u03:LI):DZ (JH N) M7 [.cell 2 30] [[.z,.z,.z,.z,.z,.list true [.z,.list false [.int .u64]]]] [.agg [.i u02,.i u01,.list false [.z] u00,.list true [.z,.list false [.z],.list false [.z],.list false [.z],.list false [.z]] u03]]=(DY (JH N) (DK M7 [1,1,0,1,0,0]) ⟨[1,2,3,14,15],[1,2,3],[]⟩ N (VQ (DM u01 1 3) 0 u02 u01 u00 u03 0 0 0 0 0 (DM u02 1 3) (DM u01 1 3) 0 0 0) (DQ 0 (DS (JH N) (DK M7 [1,1,1]) (DT (JH N) none [.cell 2 30] [[.z,.z,.z,.z,.z,.list true [.z,.list false [.int .u64]]]])))):=by kernel_rfl
theorem Ln (N:Nat) (x14 x15 u02 u03:Int) (u00 u01:LI) (u04 u05 u06 u07 u08 u09 u0a u0b u0c u0d:Int) (again:St→DO) (k:Out→St→DO):EZ (JH N) (DK M7 [1,1,0,1,0,0]) (VQ x14 x15 u02 u03 u00 u01 u04 u05 u06 u07 u08 u09 u0a u0b u0c u0d) (EN again ⟨[1,2,3,14,15],[1,2,3],[]⟩ k)=(cond (decide (x15 < x14)) (cond (decide (0≤x15)) (cond (decide (x15=ic 0)) (again (VQ x14 (AA AB (x15+1)) u02 u03 u00 u01 u04 u05 u06 u07 u08 u09 u0a (DM (EI u00 x15) (-500) 500) u0c u0d)) (cond (decide (x15=ic 1)) (again (VQ x14 (AA AB (x15+1)) u02 u03 u00 u01 u04 u05 u06 u07 u08 u09 u0a u0b (DM (EI u00 x15) (-500) 500) u0d)) (cond (decide (x15=ic 2)) (again (VQ x14 (AA AB (x15+1)) u02 u03 u00 u01 u04 u05 u06 u07 u08 u09 u0a u0b u0c (DM (EI u00 x15) (-500) 500))) none))) none) (k (.exit 0) (VQ x14 x15 u02 u03 u00 u01 u04 u05 u06 u07 u08 u09 u0a u0b u0c u0d))):=by kernel_rfl
theorem Xg (N:Nat) (x14 x15 u02 u03:Int) (u00 u01:LI) (u04 u05 u06 u07 u08 u09 u0a u0b u0c u0d:Int):(DQ 0 (DS (JH N) (DK M7 [1,1,1]) (DT (JH N) none [.cell 2 30] [[.z,.z,.z,.z,.z,.list true [.z,.list false [.int .u64]]]]))) (.exit 0) (VQ x14 x15 u02 u03 u00 u01 u04 u05 u06 u07 u08 u09 u0a u0b u0c u0d)=(DY (JH N) (DK M7 [1,1,1,0,1,0,0]) ⟨[1,2,3,5],[1,2,3,500],[⟨(.cell 3 5),500,88,true,[.z,.list false [.int .u64]]⟩]⟩ N (YG 0 u02 u03 u00 u01 u04 u05 u06 u07 u08 u09 u0a u0b u0c u0d 0 []) (DQ 2 (DS (JH N) (DK M7 [1,1,1,1]) (DT (JH N) none [.cell 2 30] [[.z,.z,.z,.z,.z,.list true [.z,.list false [.int .u64]]]])))):=by kernel_rfl
theorem Lo (N:Nat) (x5 u04 u05:Int) (u00 u01:LI) (u06 u07 u08 u09 u0a u0b u0c u0d u0e u0f:Int) (u03:Nat) (u02:LI) (again:St→DO) (k:Out→St→DO):EZ (JH N) (DK M7 [1,1,1,0,1,0,0]) (YG x5 u04 u05 u00 u01 u06 u07 u08 u09 u0a u0b u0c u0d u0e u0f u03 u02) (EN again ⟨[1,2,3,5],[1,2,3,500],[⟨(.cell 3 5),500,88,true,[.z,.list false [.int .u64]]⟩]⟩ k)=(cond (decide (x5 < ic (AF u01))) (cond (decide (x5 < 4)) (cond (decide (0≤x5)&&decide (x5 < ic (AF u01))) (cond (decide (M2 0 (AA AB (u0c - 1))=0)) none (cond (decide (0≤x5)&&decide (x5 < ic (AF u01))) (cond (decide (1≤u0b)&&decide (u0b≤4)) (cond (decide ((u03+AF (AS 0 (AK 1 [IV.agg [IV.int (DM (IV.toInt (IV.cell (AH u01 (AE x5) default) 0)) 0 (AA AB (u0c - 1))),IV.list (MP (IV.toList (IV.cell (AH u01 (AE x5) default) 1)) (IV.toList (IV.cell (AH u01 (AE x5) default) 2)) (IV.toList (IV.cell (AH u01 (AE x5) default) 3)) (IV.toList (IV.cell (AH u01 (AE x5) default) 4)) u0b)]])))*TI.bytes (Env.tyd (JH N) 88)≤EE)) (again (YG (AA AB (x5+1)) u04 u05 u00 u01 u06 u07 u08 u09 u0a u0b u0c u0d u0e u0f (u03+AF (AS 0 (AK 1 [IV.agg [IV.int (DM (IV.toInt (IV.cell (AH u01 (AE x5) default) 0)) 0 (AA AB (u0c - 1))),IV.list (MP (IV.toList (IV.cell (AH u01 (AE x5) default) 1)) (IV.toList (IV.cell (AH u01 (AE x5) default) 2)) (IV.toList (IV.cell (AH u01 (AE x5) default) 3)) (IV.toList (IV.cell (AH u01 (AE x5) default) 4)) u0b)]]))) (AK u03 u02++AS 0 (AK 1 [IV.agg [IV.int (DM (IV.toInt (IV.cell (AH u01 (AE x5) default) 0)) 0 (AA AB (u0c - 1))),IV.list (MP (IV.toList (IV.cell (AH u01 (AE x5) default) 1)) (IV.toList (IV.cell (AH u01 (AE x5) default) 2)) (IV.toList (IV.cell (AH u01 (AE x5) default) 3)) (IV.toList (IV.cell (AH u01 (AE x5) default) 4)) u0b)]])))) none) none) none)) none) (k (.exit 2) (YG x5 u04 u05 u00 u01 u06 u07 u08 u09 u0a u0b u0c u0d u0e u0f u03 u02))) (k (.exit 2) (YG x5 u04 u05 u00 u01 u06 u07 u08 u09 u0a u0b u0c u0d u0e u0f u03 u02))):=by kernel_rfl
theorem Xh (N:Nat) (x5 u04 u05:Int) (u00 u01:LI) (u06 u07 u08 u09 u0a u0b u0c u0d u0e u0f:Int) (u03:Nat) (u02:LI):(DQ 2 (DS (JH N) (DK M7 [1,1,1,1]) (DT (JH N) none [.cell 2 30] [[.z,.z,.z,.z,.z,.list true [.z,.list false [.int .u64]]]]))) (.exit 2) (YG x5 u04 u05 u00 u01 u06 u07 u08 u09 u0a u0b u0c u0d u0e u0f u03 u02)=(some ((.agg [.i u0b,.i u0c,.i u0d,.i u0e,.i u0f,.list true [.z,.list false [.int .u64]] (AS 0 (AK u03 u02))]),[])):=by kernel_rfl
open Go Go.Proofs
abbrev kT5:List Kd:=[.z,(.list false [.z]),(.list false [.z]),(.list false [.z]),(.list false [.z])]
def bF (bias:LI) (j:Int):Int:=DM (EI bias j) (-500) 500
abbrev m5 (d c:Int) (bias ts:LI):Ob:=.box [(.int .i64 d),(.int .i64 c),(.list false [.z] bias),(.list true kT5 ts)]
abbrev m7:Ob:=.box [(.int .i64 0),(.int .i64 0),(.int .i64 0),(.int .i64 0),(.int .i64 0),.zs]
abbrev La (d c:Int) (bias ts:LI) (D C:Int) (i:Nat) (x:Int):St:=
 ⟨[(1,(.ptr 1 0 0)),(2,(.ptr 2 0 0)),(3,(.ptr 3 0 0)),(14,(.int .i64 C)),(15,(.int .i64 x))],[(1,(some (m5 d c bias ts))),(2,(some m7)),(3,(some (.box [(.int .i64 D),(.int .i64 C),(.int .i64 (cond (BS 0 i) (bF bias 0) 0)),(.int .i64 (cond (BS 1 i) (bF bias 1) 0)),(.int .i64 (cond (BS 2 i) (bF bias 2) 0)),.zs])))]⟩
theorem vM (N:Nat) (d c:Int) (bias ts:LI) (D:Int) (C:Nat) (hC:C≤3) (K:Out→St→DO):∀ (m i n:Nat),i+m=C→m < n →
  DY (JH N) (DK M7 [1,1,0,1,0,0]) ⟨[1,2,3,14,15],[1,2,3],[]⟩ n (La d c bias ts D C i (i:Int)) K=K (.exit 0) (La d c bias ts D C C (C:Int))
 | 0,i,n+1,hd,hn=>by
  have hi:i=C:=by omega
  subst hi;rw [D4];refine (Ln N i i d c bias ts 0 0 0 0 0 D i (cond (BS 0 i) (bF bias 0) 0) (cond (BS 1 i) (bF bias 1) 0) (cond (BS 2 i) (bF bias 2) 0) _ _).trans ?_;rw [AL (show ¬ (i:Int) < (i:Int) by omega),DJ]
 | m+1,i,n+1,hd,hn=>by
  rw [D4];refine (Ln N C i d c bias ts 0 0 0 0 0 D C (cond (BS 0 i) (bF bias 0) 0) (cond (BS 1 i) (bF bias 1) 0) (cond (BS 2 i) (bF bias 2) 0) _ _).trans ?_;have ih:=vM N d c bias ts D C hC K m (i+1) n (by omega) (by omega);rw [AD (show (i:Int) < (C:Int) by omega),DI,AD (show 0≤(i:Int) by omega),DI,HC (by omega)];have hi4:i=0∨i=1∨i=2:=by omega
  rcases hi4 with rfl | rfl | rfl
  ·rw [show decide (((0:Nat):Int)=ic 0)=true from rfl,DI];exact ih
  ·rw [show decide (((1:Nat):Int)=ic 0)=false from rfl,show decide (((1:Nat):Int)=ic 1)=true from rfl,DJ,DI];exact ih
  ·rw [show decide (((2:Nat):Int)=ic 0)=false from rfl,show decide (((2:Nat):Int)=ic 1)=false from rfl,show decide (((2:Nat):Int)=ic 2)=true from rfl,DJ,DJ,DI];exact ih
 | _,_,0,_,h=>by omega
abbrev jW:List Kd:=[.z,(.list false [(.int .u64)])]
abbrev Bv:KP:=⟨[1,2,3,5],[1,2,3,500],[⟨(.cell 3 5),500,88,true,[.z,(.list false [(.int .u64)])]⟩]⟩
abbrev tC (d c:Int) (bias ts:LI) (D C b0 b1 b2:Int) (O:LI) (x:Int):St:=
 ⟨[(1,(.ptr 1 0 0)),(2,(.ptr 2 0 0)),(3,(.ptr 3 0 0)),(5,(.int .i64 x))],[(1,(some (m5 d c bias ts))),(2,(some m7)),(3,(some (.box [(.int .i64 D),(.int .i64 C),(.int .i64 b0),(.int .i64 b1),(.int .i64 b2),(.row 500 0 O.length)]))),(500,(some (.row true 88 true jW O)))]⟩
def X5 (D C:Int) (t:IV):IV:=.agg [.int (DM (t.cell 0).toInt 0 (C - 1)),.list (MP (t.cell 1).toList (t.cell 2).toList (t.cell 3).toList (t.cell 4).toList D)]
theorem zi2 (N:Nat):TI.bytes (Env.tyd (JH N) 88)=32:=by rfl
theorem Nt (N:Nat) (d c:Int) (bias ts:LI) (D C b0 b1 b2:Int) (hD:1≤D∧D≤4) (hC:1≤C∧C≤3):∀ (m i n:Nat) (O:LI),i+m=min ts.length 4→m < n→O.length=i →
  DY (JH N) (DK M7 [1,1,1,0,1,0,0]) Bv n (tC d c bias ts D C b0 b1 b2 O (i:Int)) (DQ 2 (DS (JH N) (DK M7 [1,1,1,1]) (DT (JH N) none [(va7 2 30)] [[.z,.z,.z,.z,.z,(.list true [.z,(.list false [(.int .u64)])])]]))) =
   some (.agg [.int .i64 D,.int .i64 C,.int .i64 b0,.int .i64 b1,.int .i64 b2,.list true jW (O++((ts.take 4).drop i).map (X5 D C))],[])
 | 0,i,n+1,O,hd,hn,hO=>by
  have fin:(DQ 2 (DS (JH N) (DK M7 [1,1,1,1]) (DT (JH N) none [(va7 2 30)] [[.z,.z,.z,.z,.z,(.list true [.z,(.list false [(.int .u64)])])]]))) (.exit 2) (tC d c bias ts D C b0 b1 b2 O (i:Int))=some (.agg [.int .i64 D,.int .i64 C,.int .i64 b0,.int .i64 b1,.int .i64 b2,.list true jW (O++((ts.take 4).drop i).map (X5 D C))],[]):=by
   refine (Xh N i d c bias ts 0 0 0 0 0 D C b0 b1 b2 O.length O).trans ?_;rw [BY,BO,CD (by rw [BB]; omega),CA,DB]
  rw [D4];refine (Lo N i d c bias ts 0 0 0 0 0 D C b0 b1 b2 O.length O _ _).trans ?_;by_cases hp:i < ts.length
  ·rw [AD (show (i:Int) < ic ts.length by simp only [ic]; omega),DI,AL (show ¬ (i:Int) < 4 by omega),DJ];exact fin
  ·rw [AL (show ¬ (i:Int) < ic ts.length by simp only [ic]; omega),DJ];exact fin
 | m+1,i,n+1,O,hd,hn,hO=>by
  have hi:i < ts.length:=by omega
  rw [D4];refine (Lo N i d c bias ts 0 0 0 0 0 D C b0 b1 b2 O.length O _ _).trans ?_;have l1:∀ x:IV,AS 0 (AK 1 [x])=[x]:=fun _=>rfl
  have eg:AH ts (AE (i:Int)) default=ts[i]:=by rw [BF]; simp [hi]
  have w1:AA AB (C - 1)=C - 1:=EH (by omega) (by omega);obtain ⟨m1,_,_⟩:=HE (n:=0) (lo:=0) (hi:=C - 1) (by omega) (by omega) (by omega);have ih:=Nt N d c bias ts D C b0 b1 b2 hD hC m (i+1) n (O++[X5 D C ts[i]]) (by omega) (by omega) (by simp [hO]);rw [AD (show (i:Int) < ic ts.length by simp only [ic]; omega),AD (show (i:Int) < 4 by omega),AD (show 0≤(i:Int) by omega),w1,m1,AL (show ¬ (C - 1 - 0+1=0) by omega),AD hD.1,AD hD.2,eg,l1,zi2,C2,
   AD (show (O.length+1)*32≤EE by rw [hO]; unfold EE; omega),BO,HC (by omega)]
  simp only [B2,DI,DJ];have ed:(ts.take 4).drop i=ts[i] :: (ts.take 4).drop (i+1):=by
   have h4:i < (ts.take 4).length:=by rw [BB]; omega
   rw [BE h4];congr 1;rw [List.getElem_take]
  rw [ed,A0];rw [vaI] at ih;have eL:(O++[X5 D C ts[i]]).length=O.length+1:=by simp
  rw [show tC d c bias ts D C b0 b1 b2 (O++[X5 D C ts[i]]) ((i+1:Nat):Int)=⟨[(1,(.ptr 1 0 0)),(2,(.ptr 2 0 0)),(3,(.ptr 3 0 0)),(5,(.int .i64 ((i+1:Nat):Int)))],[(1,(some (m5 d c bias ts))),(2,(some m7)),(3,(some (.box [(.int .i64 D),(.int .i64 C),(.int .i64 b0),(.int .i64 b1),(.int .i64 b2),(.row 500 0 (O++[X5 D C ts[i]]).length)]))),(500,(some (.row true 88 true jW (O++[X5 D C ts[i]]))))]⟩ from rfl,eL] at ih;exact ih
 | _,_,0,_,_,h,_=>by omega
theorem zhi:DX PR B0 15 g8:=by
 refine D6 [(17,MG),(39,bT),(38,SD)] [(3,⟨[1,2,3,14,15],[1,2,3],[]⟩),(8,Bv)] g8 [[.z,.z,.z,.z,.z,.list true [.z,.list false [.int .u64]]]] Tryz.func15 zaB
  ⟨Z5,zhk,sS,trivial⟩ ?_
 intro vs r hwf h;unfold g8 at h;split at h
 ·rename_i d c bias ts;refine ⟨20,?_⟩;rw [R.get_ok] at h;rw [← h];refine (zdq 20 d c bias ts).trans ?_;obtain ⟨_,d1,d2⟩:=HE (n:=d) (lo:=1) (hi:=3) (by omega) (by omega) (by omega);obtain ⟨_,c1,c2⟩:=HE (n:=c) (lo:=1) (hi:=3) (by omega) (by omega) (by omega);unfold RW aB SJ KQ N2;generalize DM d 1 3=D at d1 d2;generalize DM c 1 3=C' at c1 c2;obtain ⟨C,rfl⟩:∃ C:Nat,C'=C:=⟨C'.toNat,by omega⟩;refine (vM 20 d c bias ts D C (by omega) _ C 0 20 (by omega) (by omega)).trans ?_;refine (Xg 20 C C d c bias ts 0 0 0 0 0 D C (cond (BS 0 C) (bF bias 0) 0) (cond (BS 1 C) (bF bias 1) 0) (cond (BS 2 C) (bF bias 2) 0)).trans ?_;refine (Nt 20 d c bias ts D C _ _ _ ⟨d1,by omega⟩ ⟨c1,by omega⟩ (min ts.length 4) 0 20 [] (by omega) (by omega) rfl).trans ?_;rw [BY,C4];have hC:C=1∨C=2∨C=3:=by omega
  rcases hC with rfl | rfl | rfl <;> rfl
 ·simp [R.get] at h
open Go Go.Proofs
def QW (N:Nat):Env:=D5 [] [(4,⟨[0,1,4,5],[],[]⟩)] 26 N
abbrev QP (l0 l1:LI) (b4:Bool) (x5:Int):St:=⟨[(0,(.list false [.str] l0)),(1,(.list false [.str] l1)),(4,(.bool b4)),(5,(.i x5))],[]⟩
theorem zdn (N:Nat) (a b:LI):DZ (QW N) UG [.tmp 4] [[.bool]] [.list false [.str] a,.list false [.str] b]=(cond (ic (AF a) != ic (AF b)) (some ((.bool false),[])) (DY (QW N) (DK UG [1,1,0,1,0,0]) ⟨[0,1,4,5],[],[]⟩ N (QP a b false 0) (DQ 0 (DS (QW N) (DK UG [1,1,1]) (DT (QW N) none [.tmp 4] [[.bool]]))))):=by kernel_rfl
theorem Lm (N:Nat) (l0 l1:LI) (b4:Bool) (x5:Int) (again:St→DO) (k:Out→St→DO):EZ (QW N) (DK UG [1,1,0,1,0,0]) (QP l0 l1 b4 x5) (EN again ⟨[0,1,4,5],[],[]⟩ k)=(cond (decide (x5 < ic (AF l0))) (cond (decide (0≤x5)&&decide (x5 < ic (AF l0))) (cond (decide (0≤x5)&&decide (x5 < ic (AF l1))) (cond (!AW (IV.toStr (AH l0 (AE x5) default))==AW (IV.toStr (AH l1 (AE x5) default))) (k .ret (QP l0 l1 false x5)) (again (QP l0 l1 b4 (AA AB (x5+1))))) none) none) (k (.exit 0) (QP l0 l1 b4 x5))):=by kernel_rfl
theorem Xe (N:Nat) (l0 l1:LI) (b4:Bool) (x5:Int):(DQ 0 (DS (QW N) (DK UG [1,1,1]) (DT (QW N) none [.tmp 4] [[.bool]]))) (.exit 0) (QP l0 l1 b4 x5)=(some ((.bool true),[])):=by kernel_rfl
theorem Xf (N:Nat) (l0 l1:LI) (b4:Bool) (x5:Int):(DQ 0 (DS (QW N) (DK UG [1,1,1]) (DT (QW N) none [.tmp 4] [[.bool]]))) .ret (QP l0 l1 b4 x5)=(some ((.bool b4),[])):=by kernel_rfl
def Qb (N:Nat):Env:=D5 [(30,bR),(28,V6),(31,WB),(22,PQ),(20,NW)] [] 16 N
theorem zdx (N:Nat):DZ (Qb N) wR [.tmp 0] [[.bool]] []=(some ((.bool true),[])):=by kernel_rfl
def Qf (N:Nat):Env:=D5 [(26,V5),(28,V6),(22,PQ),(35,WH),(20,NW)] [] 31 N
theorem zdD (N:Nat):DZ (Qf N) wV [.tmp 0] [[.bool]] []=(some ((.bool true),[])):=by kernel_rfl
open Go Go.Proofs
def Py (N:Nat):Env:=D5 [(71,V7)] [] 14 N
theorem zds (N:Nat):DZ (Py N) wO [.cell 0 30] [[.z,.z,.z,.z,.z,.list true [.z,.list false [.int .u64]]]] []=(some ((.agg [.i 1,.i 1,.i 3,.i 0,.i 0,.list true MO [(IV.agg [IV.int 0,IV.list [IV.int (IH false 0 0 5 1 2),IV.int (IH true 10 0 0 0 0),IV.int (IH true 20 0 0 0 0)]])]]),[])):=by kernel_rfl
def QV (N:Nat):Env:=D5 [] [(4,⟨[0,1,4,5],[],[]⟩)] 26 N
abbrev VP (l0 l1:LI) (b4:Bool) (x5:Int):St:=⟨[(0,(.list true EC l0)),(1,(.list true EC l1)),(4,(.bool b4)),(5,(.i x5))],[]⟩
theorem zdm (N:Nat) (a b:LI):DZ (QV N) UF [.tmp 4] [[.bool]] [.list true [.bool,.z,.z] a,.list true [.bool,.z,.z] b]=(cond (ic (AF a) != ic (AF b)) (some ((.bool false),[])) (DY (QV N) (DK UF [1,1,0,1,0,0]) ⟨[0,1,4,5],[],[]⟩ N (VP a b false 0) (DQ 0 (DS (QV N) (DK UF [1,1,1]) (DT (QV N) none [.tmp 4] [[.bool]]))))):=by kernel_rfl
theorem Ll (N:Nat) (l0 l1:LI) (b4:Bool) (x5:Int) (again:St→DO) (k:Out→St→DO):EZ (QV N) (DK UF [1,1,0,1,0,0]) (VP l0 l1 b4 x5) (EN again ⟨[0,1,4,5],[],[]⟩ k)=(cond (decide (x5 < ic (AF l0))) (cond (decide (0≤x5)&&decide (x5 < ic (AF l0))) (cond (decide (0≤x5)&&decide (x5 < ic (AF l1))) (cond (! (IV.toBool (IV.cell (AH l0 (AE x5) default) 0)==IV.toBool (IV.cell (AH l1 (AE x5) default) 0)&&(IV.toInt (IV.cell (AH l0 (AE x5) default) 1)==IV.toInt (IV.cell (AH l1 (AE x5) default) 1)&&(IV.toInt (IV.cell (AH l0 (AE x5) default) 2)==IV.toInt (IV.cell (AH l1 (AE x5) default) 2)&&true)))) (k .ret (VP l0 l1 false x5)) (again (VP l0 l1 b4 (AA AB (x5+1))))) none) none) (k (.exit 0) (VP l0 l1 b4 x5))):=by kernel_rfl
theorem Xc (N:Nat) (l0 l1:LI) (b4:Bool) (x5:Int):(DQ 0 (DS (QV N) (DK UF [1,1,1]) (DT (QV N) none [.tmp 4] [[.bool]]))) (.exit 0) (VP l0 l1 b4 x5)=(some ((.bool true),[])):=by kernel_rfl
theorem Xd (N:Nat) (l0 l1:LI) (b4:Bool) (x5:Int):(DQ 0 (DS (QV N) (DK UF [1,1,1]) (DT (QV N) none [.tmp 4] [[.bool]]))) .ret (VP l0 l1 b4 x5)=(some ((.bool b4),[])):=by kernel_rfl
def Pz (N:Nat):Env:=D5 [(64,bQ)] [] 38 N
theorem zdu (N:Nat) (a b:Vd):DZ (Pz N) wP [.tmp 4] [[.bool]] [(Vd.V a),(Vd.V b)]=(cond (Vd.kind a==Vd.kind b) (cond (FR (Vd.proof a) (Vd.proof b)) (cond (Vd.w0 a==Vd.w0 b&&(Vd.w1 a==Vd.w1 b&&(Vd.w2 a==Vd.w2 b&&(Vd.w3 a==Vd.w3 b&&true)))) (cond (Vd.twin a==Vd.twin b) (some ((.bool (Vd.spent a==Vd.spent b)),[])) (some ((.bool false),[]))) (some ((.bool false),[]))) (some ((.bool false),[]))) (some ((.bool false),[]))):=by kernel_rfl
open Go Go.Proofs
theorem Ig:∀ {l m:LI},RR l m=true→l.length=m.length
 | [],[],_=>rfl
 | [],_ :: _,h=>by simp [RR] at h
 | _ :: _,[],h=>by simp [RR] at h
 | x :: l,y :: m,h=>by
  simp only [RR,AI] at h;simp [Ig h.2]
theorem Ih (N:Nat) (l m:LI) (K:Out→St→DO) (hlm:l.length=m.length) (hl:l.length≤strMax)
  (hx:∀ x,K (.exit 0) (QP l m false x)=some (.bool true,[])) (hr:∀ x,K .ret (QP l m false x)=some (.bool false,[])) :
  ∀ (d i n:Nat),i+d=l.length→d < n→DY (QW N) (DK UG [1,1,0,1,0,0]) ⟨[0,1,4,5],[],[]⟩ n (QP l m false (i:Int)) K=some (.bool (RR (l.drop i) (m.drop i)),[])
 | 0,i,n+1,hd,_=>by
  rw [D4,Lm,I2 (by omega),CD (by omega),CD (by omega),DJ];exact hx _
 | d+1,i,n+1,hd,hn=>by
  have hi:i < l.length:=by omega
  have hm:i < m.length:=by omega
  have hl':=hl;unfold strMax at hl';rw [D4,Lm,G8 hi,G8 hm,H7,HC (by omega),H6 hi,H6 hm,BE hi,BE hm];simp only [DI,B2,RR];cases (l[i].toStr.toList==m[i].toStr.toList) with
  | false=>
   rw [A7,DI,BL];exact hr _
  | true=>
   rw [A3,DJ,BC];exact Ih N l m K hlm hl hx hr d (i+1) n (by omega) (by omega)
 | 0,_,0,_,h=>by omega
 | _+1,_,0,_,h=>by omega
theorem zhg:DX PR B0 30 bR:=by
 refine D6 [] [(4,⟨[0,1,4,5],[],[]⟩)] bR [[.bool]] Tryz.func30 zay trivial ?_;intro vs r hwf h;unfold bR at h;split at h
 ·rename_i l m;rw [R.get_ok] at h;refine ⟨l.length+1,(zdn _ l m).trans ?_⟩;rw [← h];have hl:=(hwf (by simp [LB])).1;simp only [QN,wfL] at hl;by_cases hlm:l.length=m.length
  ·have e:(ic l.length != ic m.length)=false:=by simp [ic,hlm]
   rw [e,DJ]
   have:=Ih (l.length+1) l m _ hlm hl.1 (fun x=>Xe (l.length+1) l m false x) (fun x=>Xf (l.length+1) l m false x) l.length 0 (l.length+1) (by omega) (by omega)
   rw [BY,BY] at this;exact this
  ·have e:(ic l.length != ic m.length)=true:=by simp [ic]; omega
   rw [e]
   have:RR l m=false:=by
    cases hs:RR l m with
    | false=>rfl
    | true=>exact absurd (Ig hs) hlm
   rw [this];rfl
 ·simp [R.get] at h
theorem Jg:DX PR B0 28 V6:=by
 refine D6 [(71,V7)] [] V6 [[.z,.z,.z,.z,.z,.list true [.z,.list false [.int .u64]]]] Tryz.func28 zaD ⟨Jh,trivial⟩ ?_;intro vs r hwf h;unfold V6 at h;split at h
 ·skip
  rw [R.get_ok] at h;refine ⟨0,(zds 0).trans ?_⟩;rw [← h];rfl
 ·simp [R.get] at h
theorem zhn:DX PR B0 6 bV:=by
 refine D6 [(30,bR),(28,V6),(31,WB),(22,PQ),(20,NW)] [] bV [[.bool]] Tryz.func6 zaI ⟨zhg,Jg,Jl,lF,gH,trivial⟩ ?_;intro vs r hwf h;unfold bV at h;split at h
 ·skip
  rw [R.get_ok] at h;refine ⟨0,(zdx 0).trans ?_⟩;rw [← h]
 ·simp [R.get] at h
theorem zhs:DX PR B0 27 bZ:=by
 refine D6 [(26,V5),(28,V6),(22,PQ),(35,WH),(20,NW)] [] bZ [[.bool]] Tryz.func27 zaO ⟨Jf,Jg,lF,Ju,gH,trivial⟩ ?_;intro vs r hwf h;unfold bZ at h;split at h
 ·skip
  rw [R.get_ok] at h;refine ⟨0,(zdD 0).trans ?_⟩;rw [← h]
 ·simp [R.get] at h
open Go Go.Proofs
open Go Go.Proofs
theorem sL:DX PR B0 15 SH:=Snd.mono zhi fun _ _ h=>Sh h
theorem sK:DX PR B0 16 SG:=Snd.mono zhh fun _ _ h=>Si h
open Go Go.Proofs
def I8 (N:Nat):Env:=D5 [(18,R8),(21,aX),(17,MG),(25,bU),(27,bZ),(22,PQ),(20,NW),(16,SG),(15,SH)] [(4,⟨[2,3,4,10,11,12,13,14,15],[11,12],[]⟩),(11,⟨[2,3,10,11,12,13,14,18],[11,12],[]⟩),(23,⟨[10,22,24],[],[]⟩)] 134 N
abbrev R4 (f a1:Ft) (l2 l3:LI) (x4:Int) (b10:Bool) (s13 s14:BA) (x15:Int):St:=⟨[(2,(.list true [.z,.z,.z,.z,.z,.z,.bool,.list false [.z]] l2)),(3,(.list true [.z,.z,.z,.z,.z,.z,.bool,.list false [.z]] l3)),(4,(.i x4)),(10,(.bool b10)),(11,(.ptr 11 0 0)),(12,(.ptr 12 0 0)),(13,(.str s13)),(14,(.str s14)),(15,(.i x15))],[(11,(some (.box (Md.cs (Ft.M f))))),(12,(some (.box (Md.cs (Ft.M a1)))))]⟩
abbrev TQ (f a1:Ft) (l2 l3:LI) (b10:Bool) (s13 s14:BA) (x18:Int):St:=⟨[(2,(.list true [.z,.z,.z,.z,.z,.z,.bool,.list false [.z]] l2)),(3,(.list true [.z,.z,.z,.z,.z,.z,.bool,.list false [.z]] l3)),(10,(.bool b10)),(11,(.ptr 11 0 0)),(12,(.ptr 12 0 0)),(13,(.str s13)),(14,(.str s14)),(18,(.i x18))],[(11,(some (.box (Md.cs (Ft.M f))))),(12,(some (.box (Md.cs (Ft.M a1)))))]⟩
abbrev TR (b10:Bool) (l22:LI) (x24:Int):St:=⟨[(10,(.bool b10)),(22,(.list true [.z,.list true EC,.z,.z,.z,.z,.z,.z] l22)),(24,(.i x24))],[]⟩
theorem zdC (N:Nat) (f a1:Ft) (a2 a3:LI) (a4:Int):DZ (I8 N) K3 [.tmp 10] [[.bool]] [(Ft.V f),(Ft.V a1),.list true [.z,.z,.z,.z,.z,.z,.bool,.list false [.z]] a2,.list true [.z,.z,.z,.z,.z,.z,.bool,.list false [.z]] a3,.i a4]=(DY (I8 N) (DK K3 [1,1,1,0,1,0,0]) ⟨[2,3,4,10,11,12,13,14,15],[11,12],[]⟩ N (R4 f a1 a2 a3 a4 false ({data:=#[]}) ({data:=#[]}) 0) (DQ 0 (DS (I8 N) (DK K3 [1,1,1,1]) (DT (I8 N) none [.tmp 10] [[.bool]])))):=by kernel_rfl
theorem zit (N:Nat) (f a1:Ft) (l2 l3:LI) (x4:Int) (b10:Bool) (s13 s14:BA) (x15:Int) (again:St→DO) (k:Out→St→DO):EZ (I8 N) (DK K3 [1,1,1,0,1,0,0]) (R4 f a1 l2 l3 x4 b10 s13 s14 x15) (EN again ⟨[2,3,4,10,11,12,13,14,15],[11,12],[]⟩ k)=(cond (decide (x15 < ic (AF l2))) (cond (decide (x15 < 3)) (cond (decide (0≤x15)&&decide (x15 < ic (AF l2))) (cond (NI (Ft.M f)) (cond (decide (AG (D9 (Qy.bud (FB (GA (AH l2 (AE x15) default)) (Ft.M f)) (DM x4 0 300)) (Md.d (Ft.M f)))+AG {data:=#[10]}≤strMax)) (cond (decide (AG s13+AG (D9 (Qy.bud (FB (GA (AH l2 (AE x15) default)) (Ft.M f)) (DM x4 0 300)) (Md.d (Ft.M f))++{data:=#[10]})≤strMax)) (cond (decide (AG (s13++(D9 (Qy.bud (FB (GA (AH l2 (AE x15) default)) (Ft.M f)) (DM x4 0 300)) (Md.d (Ft.M f))++{data:=#[10]}))+AG (D9 (Qy.bud (FB (GA (AH l2 (AE x15) default)) (Ft.M f)) (DM x4 0 300)) (Md.d (Ft.M f))++{data:=#[10]})≤strMax)) (again (R4 f a1 l2 l3 x4 b10 (s13++(D9 (Qy.bud (FB (GA (AH l2 (AE x15) default)) (Ft.M f)) (DM x4 0 300)) (Md.d (Ft.M f))++{data:=#[10]})++(D9 (Qy.bud (FB (GA (AH l2 (AE x15) default)) (Ft.M f)) (DM x4 0 300)) (Md.d (Ft.M f))++{data:=#[10]})) s14 (AA AB (x15+1)))) none) none) none) none) none) (k (.exit 0) (R4 f a1 l2 l3 x4 b10 s13 s14 x15))) (k (.exit 0) (R4 f a1 l2 l3 x4 b10 s13 s14 x15))):=by kernel_rfl
theorem Xo (N:Nat) (f a1:Ft) (l2 l3:LI) (x4:Int) (b10:Bool) (s13 s14:BA) (x15:Int):(DQ 0 (DS (I8 N) (DK K3 [1,1,1,1]) (DT (I8 N) none [.tmp 10] [[.bool]]))) (.exit 0) (R4 f a1 l2 l3 x4 b10 s13 s14 x15)=(DY (I8 N) (DK K3 [1,1,1,1,0,1,0,0]) ⟨[2,3,10,11,12,13,14,18],[11,12],[]⟩ N (TQ f a1 l2 l3 b10 s13 s14 0) (DQ 2 (DS (I8 N) (DK K3 [1,1,1,1,1]) (DT (I8 N) none [.tmp 10] [[.bool]])))):=by kernel_rfl
theorem ziu (N:Nat) (f a1:Ft) (l2 l3:LI) (b10:Bool) (s13 s14:BA) (x18:Int) (again:St→DO) (k:Out→St→DO):EZ (I8 N) (DK K3 [1,1,1,1,0,1,0,0]) (TQ f a1 l2 l3 b10 s13 s14 x18) (EN again ⟨[2,3,10,11,12,13,14,18],[11,12],[]⟩ k)=(cond (decide (x18 < ic (AF l3))) (cond (decide (x18 < 3)) (cond (decide (0≤x18)&&decide (x18 < ic (AF l3))) (cond (NI (Ft.M a1)) (cond (decide (AG s14+AG (D9 (Qy.bud (FB (GA (AH l3 (AE x18) default)) (Ft.M a1)) 100) (Md.d (Ft.M a1)))≤strMax)) (cond (decide (AG (s14++D9 (Qy.bud (FB (GA (AH l3 (AE x18) default)) (Ft.M a1)) 100) (Md.d (Ft.M a1)))+AG {data:=#[10]}≤strMax)) (again (TQ f a1 l2 l3 b10 s13 (s14++D9 (Qy.bud (FB (GA (AH l3 (AE x18) default)) (Ft.M a1)) 100) (Md.d (Ft.M a1))++{data:=#[10]}) (AA AB (x18+1)))) none) none) none) none) (k (.exit 2) (TQ f a1 l2 l3 b10 s13 s14 x18))) (k (.exit 2) (TQ f a1 l2 l3 b10 s13 s14 x18))):=by kernel_rfl
theorem Xp (N:Nat) (f a1:Ft) (l2 l3:LI) (b10:Bool) (s13 s14:BA) (x18:Int):(DQ 2 (DS (I8 N) (DK K3 [1,1,1,1,1]) (DT (I8 N) none [.tmp 10] [[.bool]]))) (.exit 2) (TQ f a1 l2 l3 b10 s13 s14 x18)=(cond (decide (AG (FH (Ft.M f)) < 4294967281)&&(decide (AG s13 < 4294967281)&&decide (AG (G1 (FH (Ft.M f)) s13)≤strMax))) (cond (decide (AG (FH (Ft.M a1)) < 4294967281)&&(decide (AG s14 < 4294967281)&&decide (AG (G1 (FH (Ft.M a1)) s14)≤strMax))) (cond (decide (AG (FH (Ft.M f)) < 4294967281)&&(decide (AG s13 < 4294967281)&&decide (AG (G1 (FH (Ft.M f)) s13)≤strMax))) (cond (decide (AG (G1 (FH (Ft.M f)) s13) < 4294967281)) (cond (Option.isSome (RV (G1 (FH (Ft.M f)) s13))) (cond (!AW (G1 (FH (Ft.M f)) s13)==AW (G1 (FH (Ft.M f)) s13)) (some ((.bool false),[])) (cond (ic (AF (Option.getD (RV (G1 (FH (Ft.M f)) s13)) [])) != AA AB (2*min (ic (AF l2)) 3)) (some ((.bool false),[])) (DY (I8 N) (DK K3 [1,1,1,1,1,1,1,1,1,1,0,1,0,0]) ⟨[10,22,24],[],[]⟩ N (TR b10 (Option.getD (RV (G1 (FH (Ft.M f)) s13)) []) 0) (DQ 4 (DS (I8 N) (DK K3 [1,1,1,1,1,1,1,1,1,1,1]) (DT (I8 N) none [.tmp 10] [[.bool]])))))) (cond (!AW (G1 (FH (Ft.M f)) s13)==AW (G1 (FH (Ft.M f)) s13)) (some ((.bool false),[])) (some ((.bool false),[])))) none) none) none) none):=by kernel_rfl
theorem ziv (N:Nat) (b10:Bool) (l22:LI) (x24:Int) (again:St→DO) (k:Out→St→DO):EZ (I8 N) (DK K3 [1,1,1,1,1,1,1,1,1,1,0,1,0,0]) (TR b10 l22 x24) (EN again ⟨[10,22,24],[],[]⟩ k)=(cond (decide (AA AB (x24+1) < ic (AF l22))) (cond (decide (0≤x24)&&decide (x24 < ic (AF l22))) (cond (decide (0≤AA AB (x24+1))&&decide (AA AB (x24+1) < ic (AF l22))) (cond (!gS (Oh (AH l22 (AE x24) default)) (Oh (AH l22 (AE (AA AB (x24+1))) default))) (k .ret (TR false l22 x24)) (again (TR b10 l22 (AA AB (x24+2))))) none) none) (k (.exit 4) (TR b10 l22 x24))):=by kernel_rfl
theorem Xq (N:Nat) (b10:Bool) (l22:LI) (x24:Int):(DQ 4 (DS (I8 N) (DK K3 [1,1,1,1,1,1,1,1,1,1,1]) (DT (I8 N) none [.tmp 10] [[.bool]]))) (.exit 4) (TR b10 l22 x24)=(some ((.bool true),[])):=by kernel_rfl
open Go Go.Proofs
theorem Ii (N:Nat) (l m:LI) (K:Out→St→DO) (hlm:l.length=m.length) (hl:l.length≤strMax)
  (hx:∀ b4 x5,K (.exit 0) ⟨[(0,(.list true EC l)),(1,(.list true EC m)),(4,(.bool b4)),(5,(.int .i64 x5))],[]⟩=some (.bool true,[]))
  (hr:∀ b4 x5,K .ret ⟨[(0,(.list true EC l)),(1,(.list true EC m)),(4,(.bool b4)),(5,(.int .i64 x5))],[]⟩=some (.bool b4,[])) :
  ∀ (d i n:Nat),i+d=l.length→d < n→DY (QV N) (DK UF [1,1,0,1,0,0]) ⟨[0,1,4,5],[],[]⟩ n ⟨[(0,(.list true EC l)),(1,(.list true EC m)),(4,(.bool false)),(5,(.int .i64 (i:Int)))],[]⟩ K=some (.bool (FR (l.drop i) (m.drop i)),[])
 | 0,i,n+1,hd,_=>by
  rw [D4,Ll,I2 (by omega),CD (by omega),CD (by omega)];simp only [A9,FR];exact hx ..
 | d+1,i,n+1,hd,hn=>by
  have hi:i < l.length:=by omega
  have hm:i < m.length:=by omega
  unfold strMax at hl;rw [D4,Ll,G8 hi,G8 hm,H7,HC (by omega),H6 hi,H6 hm,BE hi,BE hm];generalize l[i]=x;generalize m[i]=y;have ih:=Ii N l m K hlm (by unfold strMax; omega) hx hr d (i+1) n (by omega) (by omega);rw [ih];simp only [FR];generalize FR (AS (i+1) l) (AS (i+1) m)=rest;unfold VB GS E9 FP;simp only [BJ,B2];cases IV.toBool (IV.cell x 0)==IV.toBool (IV.cell y 0) <;> cases IV.toInt (IV.cell x 1)==IV.toInt (IV.cell y 1) <;> cases IV.toInt (IV.cell x 2)==IV.toInt (IV.cell y 2) <;>
   (simp only [BJ,A9,A3,A7,B2,vaf,BC,BL,hr]
    try rfl)
 | 0,_,0,_,h=>by omega
 | _+1,_,0,_,h=>by omega
theorem Ia:∀ {l m:LI},FR l m=true→l.length=m.length
 | [],[],_=>rfl
 | [],_ :: _,h=>by simp [FR] at h
 | _ :: _,[],h=>by simp [FR] at h
 | x :: l,y :: m,h=>by
  simp only [FR,AI] at h;simp [Ia h.2]
theorem zhf:DX PR B0 64 bQ:=by
 refine D6 [] [(4,⟨[0,1,4,5],[],[]⟩)] bQ [[.bool]] Tryz.func64 zax trivial ?_;intro vs r hwf h;unfold bQ at h;split at h
 ·rename_i l m;rw [R.get_ok] at h;refine ⟨l.length+1,?_⟩;rw [← h];refine (zdm (l.length+1) l m).trans ?_;have hl:=(hwf (by simp [LB])).1;simp only [QN,wfL] at hl;by_cases hlm:l.length=m.length
  ·have e:(ic l.length != ic m.length)=false:=by simp [ic,hlm]
   rw [e];simp only [A9]
   have:=Ii (l.length+1) l m _ hlm hl.1 (fun b4 x5=>Xc (l.length+1) l m b4 x5) (fun b4 x5=>Xd (l.length+1) l m b4 x5) l.length 0 (l.length+1) (by omega) (by omega)
   rw [BY,BY] at this;exact this
  ·have e:(ic l.length != ic m.length)=true:=by simp [ic]; omega
   rw [e]
   have:FR l m=false:=by
    cases hs:FR l m with
    | false=>rfl
    | true=>exact absurd (Ia hs) hlm
   rw [this];rfl
 ·simp [R.get] at h
theorem zhl:DX PR B0 25 bU:=by
 refine D6 [(64,bQ)] [] bU [[.bool]] Tryz.func25 zaF ⟨zhf,trivial⟩ ?_;intro vs r hwf h;unfold bU at h;split at h
 ·rename_i k p a b c d t s k' p' a' b' c' d' t' s';rw [R.get_ok] at h;refine ⟨0,?_⟩;rw [← h];refine (zdu 0 ⟨k,p,a,b,c,d,t,s⟩ ⟨k',p',a',b',c',d',t',s'⟩).trans ?_;simp only [gS,B2];cases k==k'
  ·rfl
  cases FR p p'
  ·rfl
  cases a==a' <;> cases b==b' <;> cases c==c' <;> cases d==d' <;> cases t==t' <;> rfl
 ·simp [R.get] at h
open Go Go.Proofs
open Go Go.Proofs
def HK {α:Type} (l:List α):List α:=l.flatMap fun x=>[x,x]
theorem jA {α:Type}:∀ l:List α,(HK l).length=2*l.length
 | []=>rfl
 | x :: l=>by
  have:=jA l
  show (x :: x :: HK l).length=_;simp only [AM,this];omega
theorem zS {α:Type}:∀ (l:List α) (j:Nat),(HK l)[2*j]?=l[j]?∧(HK l)[2*j+1]?=l[j]?
 | [],_=>by simp [HK]
 | x :: l,0=>⟨rfl,rfl⟩
 | x :: l,j+1=>by
  have h:=zS l j;show (x :: x :: HK l)[2*(j+1)]?=_∧(x :: x :: HK l)[2*(j+1)+1]?=_;rw [show 2*(j+1)=2*j+1+1 by omega];simp only [C5];exact h
theorem n7 {α β:Type} (g:α→β):∀ l:List α,(HK l).map g=HK (l.map g)
 | []=>rfl
 | x :: l=>by
  have:=n7 g l
  show (x :: x :: HK l).map g=g x :: g x :: HK (l.map g);rw [A0,A0,this]
theorem zT {α:Type} {l:List α} {x:α} (h:x∈HK l):x∈l:=by
 obtain ⟨y,hy,hx⟩:=List.mem_flatMap.1 h;simp only [AP,BX,CP,or_self] at hx;rw [hx]; exact hy
theorem Hw (N:Nat) (f g:Ft) (l r:LI) (z:Int) (s14:BA) (T:BA→DO) (K:Out→St→DO) (hx:∀ s13 x,K (.exit 0) (R4 f g l r z false s13 s14 x)=T s13) :
  ∀ (d i n:Nat) (s13:BA),i+d=3→d < n→s13.size≤4002*i →
   DY (I8 N) (DK K3 [1,1,1,0,1,0,0]) ⟨[2,3,4,10,11,12,13,14,15],[11,12],[]⟩ n (R4 f g l r z false s13 s14 (i:Int)) K =
    T (G0 f.M.d s13 (HK (J2 f.M ((l.take 3).drop i) (DM z 0 300))))
 | d,i,n+1,s13,hd,hn,h8=>by
  have hw:=RY z 0 300 (by omega) (by omega) (by omega);rw [D4,zit];by_cases hi:i < l.length
  ·by_cases hk:i < 3
   ·obtain ⟨d,rfl⟩:∃ e,d=e+1:=⟨d - 1,by omega⟩;have hp:=mS (T1 f) (GA l[i]) hw.1 (show DM z 0 300≤65536 by omega);rw [G8 hi,H7,H6 hi,AD (show ((i:Nat):Int) < 3 by omega),T1,HC (by omega)];rw [tN hi hk,rJ];generalize (FB (GA l[i]) f.M).bud (DM z 0 300)=q at hp ⊢;have e1:EP.size=1:=rfl;have g1:(D9 q f.M.d++EP).size=(D9 q f.M.d).size+1:=AU;rw [AD (show (D9 q f.M.d).size+AG { data:=#[10] }≤strMax by unfold strMax; show _+EP.size≤_; omega)];rw [AD (show s13.size+(D9 q f.M.d++{ data:=#[10] }).size≤strMax by unfold strMax; show s13.size+(D9 q f.M.d++EP).size≤_; omega)];rw [AD (show (s13++(D9 q f.M.d++{ data:=#[10] })).size+(D9 q f.M.d++{ data:=#[10] }).size≤strMax by rw [AU]; unfold strMax; show s13.size+(D9 q f.M.d++EP).size+(D9 q f.M.d++EP).size≤_; omega)];simp only [DI,B2];have ih:=Hw N f g l r z s14 T K hx d (i+1) n (s13++D9 q f.M.d++EP++D9 q f.M.d++EP) (by omega) (by omega) (by simp only [AU]; omega);show _=T (G0 f.M.d (s13++D9 q f.M.d++EP++D9 q f.M.d++EP) (HK (J2 f.M ((l.take 3).drop (i+1)) (DM z 0 300))));rw [← ih];have es:s13++(D9 q f.M.d++EP)++(D9 q f.M.d++EP)=s13++D9 q f.M.d++EP++D9 q f.M.d++EP:=by simp only [C7]
    show DY _ _ _ n (R4 f g l r z false (s13++(D9 q f.M.d++EP)++(D9 q f.M.d++EP)) s14 _) K=_;rw [es]
   ·rw [G8 hi,AL (show ¬ ((i:Nat):Int) < 3 by omega),DI,DJ,aA (by omega)];exact hx _ _
  ·rw [I2 (by omega),DJ,aA (by omega)];exact hx _ _
 | _,_,0,_,_,h,_=>by omega
theorem Hx (N:Nat) (f g:Ft) (l r:LI) (s13:BA) (T:BA→DO) (K:Out→St→DO) (hx:∀ s14 x,K (.exit 2) (TQ f g l r false s13 s14 x)=T s14) :
  ∀ (d i n:Nat) (s14:BA),i+d=3→d < n→s14.size≤2001*i →
   DY (I8 N) (DK K3 [1,1,1,1,0,1,0,0]) ⟨[2,3,10,11,12,13,14,18],[11,12],[]⟩ n (TQ f g l r false s13 s14 (i:Int)) K =
    T (G0 g.M.d s14 (J2 g.M ((r.take 3).drop i) 100))
 | d,i,n+1,s14,hd,hn,h8=>by
  rw [D4,ziu];by_cases hi:i < r.length
  ·by_cases hk:i < 3
   ·obtain ⟨d,rfl⟩:∃ e,d=e+1:=⟨d - 1,by omega⟩;have hp:=mS (T1 g) (GA r[i]) (w:=100) (by omega) (by omega);rw [G8 hi,H7,H6 hi,AD (show ((i:Nat):Int) < 3 by omega),T1,HC (by omega)];rw [tN hi hk,rJ,G0];generalize (FB (GA r[i]) g.M).bud 100=q at hp ⊢;have e1:EP.size=1:=rfl;have g1:(s14++D9 q g.M.d).size=s14.size+(D9 q g.M.d).size:=AU;rw [AD (show s14.size+(D9 q g.M.d).size≤strMax by unfold strMax; omega)];rw [AD (show (s14++D9 q g.M.d).size+AG { data:=#[10] }≤strMax by rw [g1]; unfold strMax; show _+EP.size≤_; omega)];simp only [DI,B2];exact Hx N f g l r s13 T K hx d (i+1) n (s14++D9 q g.M.d++EP) (by omega) (by omega) (by rw [AU,AU]; omega)
   ·rw [G8 hi,AL (show ¬ ((i:Nat):Int) < 3 by omega),DI,DJ,aA (by omega)];exact hx _ _
  ·rw [I2 (by omega),DJ,aA (by omega)];exact hx _ _
 | _,_,0,_,_,h,_=>by omega
theorem Hy (N:Nat) (L:LI) (hL:L.length≤1000) (K:Out→St→DO) (hx:∀ x,K (.exit 4) (TR false (HK L) x)=some (.bool true,[])) :
  ∀ (d j n:Nat),j+d=L.length→d < n →
   DY (I8 N) (DK K3 [1,1,1,1,1,1,1,1,1,1,0,1,0,0]) ⟨[10,22,24],[],[]⟩ n (TR false (HK L) ((2*j:Nat):Int)) K=some (.bool true,[])
 | d,j,n+1,hd,hn=>by
  have hlen:=jA L;have w1:AA AB (((2*j:Nat):Int)+1)=((2*j+1:Nat):Int):=by
   rw [show ((2*j:Nat):Int)+1=((2*j+1:Nat):Int) by omega];exact EH (by omega) (by omega)
  have w2:AA AB (((2*j:Nat):Int)+2)=((2*(j+1):Nat):Int):=by
   rw [show ((2*j:Nat):Int)+2=((2*(j+1):Nat):Int) by omega];exact EH (by omega) (by omega)
  rw [D4,ziv,w1,w2];by_cases hj:j < L.length
  ·obtain ⟨d,rfl⟩:∃ e,d=e+1:=⟨d - 1,by omega⟩;have h0:2*j < (HK L).length:=by omega
   have h1:2*j+1 < (HK L).length:=by omega
   have hg:=zS L j;have e0:(HK L)[2*j]=L[j]:=by
    have:=hg.1
    rw [A8 h0,A8 hj] at this;exact CS this
   have e1:(HK L)[2*j+1]=L[j]:=by
    have:=hg.2
    rw [A8 h1,A8 hj] at this;exact CS this
   rw [G8 h0,G8 h1,H7,H7,H6 h0,H6 h1,e0,e1,zje.2 (VSame.rfl' _)];simp only [DI,DJ,B2,A3];exact Hy N L hL K hx d (j+1) n (by omega) (by omega)
  ·rw [I2 (l:=HK L) (by omega),DJ];exact hx _
 | _,_,0,_,h=>by omega
theorem zhr:DX PR B0 4 mM:=by
 refine D6 [(18,R8),(21,aX),(17,MG),(25,bU),(27,bZ),(22,PQ),(20,NW),(16,SG),(15,SH)] [(4,⟨[2,3,4,10,11,12,13,14,15],[11,12],[]⟩),(11,⟨[2,3,10,11,12,13,14,18],[11,12],[]⟩),(23,⟨[10,22,24],[],[]⟩)] mM [[.bool]] Tryz.func4 zaN ⟨sM,zgW,Z5,zhl,zhs,lF,gH,sK,sL,trivial⟩ ?_;intro vs r hwf h;unfold mM at h;split at h
 ·rename_i f g l r0 z;replace h:=l9 h;obtain ⟨f,rfl,h⟩:=h;replace h:=l9 h;obtain ⟨g,rfl,h⟩:=h;rw [R.get_ok] at h;refine ⟨1001,(zdC 1001 f g l r0 z).trans ?_⟩;rw [← h];have hw:=RY z 0 300 (by omega) (by omega) (by omega);refine (Hw 1001 f g l r0 z EB _ _ (fun s13 x=>Xo 1001 f g l r0 z false s13 EB x) 3 0 1001 EB rfl (by omega) (AZ _)).trans ?_;refine (Hx 1001 f g l r0 _ _ _ (fun s14 x=>Xp 1001 f g l r0 false _ s14 x) 3 0 1001 EB rfl (by omega) (AZ _)).trans ?_;rw [BY,BY];have hsit:=Gq f (l.take 3) hw.1 (show DM z 0 300≤65536 by omega);have hsm:=rL (T1 f) (l.take 3) hw.1 (show DM z 0 300≤65536 by omega);have hql:(J2 f.M (l.take 3) (DM z 0 300)).length=min l.length 3:=by rw [rK,BB]; omega
  have hsm2:=rL (T1 g) (r0.take 3) (w:=100) (by omega) (by omega);have hql2:(J2 g.M (r0.take 3) 100).length≤3:=by rw [rK,BB]; omega
  generalize J2 f.M (l.take 3) (DM z 0 300)=Q at hsit hsm hql ⊢;generalize J2 g.M (r0.take 3) 100=R at hsm2 hql2 ⊢;have hd:=jA Q;have hM:=g6 f;have hW:YD f.M:=Dg _ _ _ _;have hps:=rD hM;have hps2:=rD (g6 g);have hqz:=fW f.M.d (HK Q) EB (fun q hq=>hsm q (zT hq));have hqz2:=fW g.M.d R EB hsm2;have e0:EB.size=0:=rfl;have hz:=k7 (FH f.M) (G0 f.M.d EB (HK Q)) (by rw [kU]; omega);have hz2:=k7 (FH g.M) (G0 g.M.d EB R) (by rw [kU]; omega);have htold:=ziW hM hW (G0 f.M.d EB (HK Q));rw [uV (fun q hq=>hsit q (zT hq))] at htold;have hv:((HK Q).map (E8 f.M)).map Q1=HK ((Q.map (E8 f.M)).map Q1):=by rw [n7,n7]
  rw [hv] at htold;have hvl:=jA ((Q.map (E8 f.M)).map Q1);rw [BG,BG] at hvl;rw [AD (show (FH f.M).size < 4294967281 by omega),AD (show (G0 f.M.d EB (HK Q)).size < 4294967281 by omega),AD (show (G1 (FH f.M) (G0 f.M.d EB (HK Q))).size≤strMax by unfold strMax; omega),AD (show (G1 (FH f.M) (G0 f.M.d EB (HK Q))).size < 4294967281 by omega),
   AD (show (FH g.M).size < 4294967281 by omega),AD (show (G0 g.M.d EB R).size < 4294967281 by omega),AD (show (G1 (FH g.M) (G0 g.M.d EB R)).size≤strMax by unfold strMax; omega),htold]
  have hwr:AA AB (2*min (ic l.length) 3)=ic (HK ((Q.map (E8 f.M)).map Q1)).length:=by
   rw [hvl,hql,show 2*min (ic l.length) 3=ic (2*min l.length 3) by simp only [ic]; omega];exact EH (by simp only [ic]; omega) (by simp only [ic]; omega)
  simp only [B4,DI,Option.isSome_some,vak,DA,A3,DJ,hwr,bne_self_eq_false];exact Hy 1001 _ (by rw [BG,BG]; omega) _ (fun x=>Xq 1001 false _ x) _ 0 1001 (BI _) (by rw [BG,BG]; omega)
 ·simp [R.get] at h
open Go Go.Proofs Go.RowKit
theorem Bc {P:Program} {w:World} {name:String} {g:Nat} {cs:Array Value} (hn:P.globalNamed name=some g) (hv:w.var? P name=some cs):∃ T fr,w.heap[g]?=some (.cells cs T fr):=by
 unfold World.var? at hv;rw [hn] at hv;simp only [Option.bind_some] at hv;split at hv
 ·rename_i c T fr hh;simp only [AC] at hv;subst hv;exact ⟨T,fr,hh⟩
 ·cases hv
theorem z8 {w:World} {name:String} {g t:Nat} {ms:Array (String × TypeId)} {tn:String} {d:DataW Unit} (h:Lib.VarReads Tryz.prog w name (.iface tn d)) (hn:Tryz.prog.globalNamed name=some g)
  (ht:(Tryz.prog.globals[g]?).map (·.type)=some t) (hu:Tryz.prog.underlying t=some (.interface ms)):∃ c T fr te pe,w.heap[g]?=some (.cells c T fr)∧c[0]?=some (.iface te pe):=by
 obtain ⟨g',t',cs,fuel,p,h1,h2,h3,h4⟩:=h;obtain rfl:=CS (hn.symm.trans h1);obtain rfl:=CS (ht.symm.trans h2);obtain ⟨f',u,v,hcs,_,_⟩:=iface_of_trod hu h4;obtain ⟨T,fr,hh⟩:=Bc hn h3;refine ⟨cs,T,fr,u,v,hh,?_⟩
 have:cs = #[.iface u v]:=by
  apply Array.ext';rw [hcs]
 rw [this];rfl
theorem Zm {W:World} {l:List (String × DataW Unit)} (hL:laidMet Tryz.prog l W) (hsh:W.ShapedOpen Tryz.prog)
  (hp:("internal/strconv.uint64pow10", Lib.tabData .u64 Lib.pow10Tab)∈l)
  {n1:String} {d1:DataW Unit} (h1:("strconv.ErrRange", .iface n1 d1)∈l)
  {n2:String} {d2:DataW Unit} (h2:("strconv.ErrSyntax", .iface n2 d2)∈l)
  : Glob B0 W:=by
 have hz:∀ g,g < 4→g < Tryz.prog.globals.size→g < W.heap.size:=fun g _ hg=>by
  have hb:((vau Tryz.prog.globals.size).all fun g=>(((begin Tryz.prog (fun _ _=>0) default).world.heap[g]?).bind Obj.row?).isSome)=true:=by kernel_rfl
  have:=CR.1 hb g (vaR.2 hg)
  obtain ⟨⟨z,t⟩,hz⟩:=Option.isSome_iff_exists.1 this;obtain ⟨cs,hh,_⟩:=hsh.1 g z t hg hz;exact (DF.1 hh).1
 have hsize:4≤W.heap.size:=by
  first
  | exact B5 _
  | (
    have:=hz (4 - 1) (by decide) (A1 (by kernel_rfl))
    omega)
 have low:∀ {g:Nat},g < 4→(fun b=>if b < B0.ng then W.heap[b]? else none) g=W.heap[g]?:=fun h=>BP (show _ < B0.ng from h)
 refine ⟨hsize,?_⟩;show GF _;constructor
 first | exact trivial | skip
 case gm=>
  obtain ⟨m,hm⟩:=cell_of_shapedOpen_int (P:=Tryz.prog) (g:=1) (t:=3) (zero:=#[.int .i64 0]) hsh (A1 (by kernel_rfl)) (by kernel_rfl) rfl (by kernel_rfl) (by kernel_rfl) Tryz.underlying3;simp only [vaN] at hm;split at hm
  ·rename_i c T fr' hh;exact ⟨c,T,fr',m,(low (by decide)).trans hh,hm⟩
  ·cases hm
 case gp=>
  have gp:Tryz.prog.globalNamed "internal/strconv.uint64pow10" = some 0:=by kernel_rfl
  obtain ⟨g',t',cp,fuel,p,e1,e2,e3,e4⟩:=vbw hL hp;obtain rfl:=CS (gp.symm.trans e1);obtain ⟨T,fr',hh⟩:=Bc gp e3;refine ⟨T,fr',(low (by decide)).trans ?_⟩;rw [hh];have et:(Tryz.prog.globals[0]?).map (·.type)=some 262:=by kernel_rfl
  obtain rfl:=CS (et.symm.trans e2)
  have:=Lib.cells_of_tab (e:=103) (n:=20) (by kernel_rfl) (by kernel_rfl) (by kernel_rfl) (by kernel_rfl) e4
  congr 1;congr 1;apply Array.ext';exact this
 case gs=>
  obtain ⟨cs,Ts,fs,tes,pes,hs1,hs2⟩:=z8 (g:=2) (vbw hL h2) (by kernel_rfl) (show _=some 120 by kernel_rfl) Tryz.underlying120;exact ⟨cs,Ts,fs,tes,pes,(low (by decide)).trans hs1,hs2⟩
 case gr=>
  obtain ⟨cr,Tr,fr,ter,per,hr1,hr2⟩:=z8 (g:=3) (vbw hL h1) (by kernel_rfl) (show _=some 120 by kernel_rfl) Tryz.underlying120;exact ⟨cr,Tr,fr,ter,per,(low (by decide)).trans hr1,hr2⟩
def X0:Zone:=⟨fun _=>False,fun _=>False⟩
def γ0:Nat→Value:=fun _=>.nilIface
abbrev O0:Nat→Prop:=DR X0 γ0 []
theorem uQ (b:Nat):¬ O0 b:=by
 rintro (⟨n,ob,h,_⟩ | h)
 ·simp [DN,E3] at h
 ·exact h
theorem Hd (W:World):Rel B0.base 0 W X0 γ0 ⟨[],[]⟩ JV W:=by
 have no:∀ n ob,DN ([]:Store) n≠some ob:=fun n ob h=>by simp [DN,E3] at h
 refine ⟨rfl,rfl,fun i=>by simp only [St.get,E3,VRel],fun n ob h=>absurd h (no n ob),fun b h=>?_,fun n m ob ob' b _ h=>absurd h (no n ob),Keep.refl _ _,fun b h=>?_,fun b h=>h.elim,fun p _ ob h=>absurd h (no _ ob)⟩
 ·obtain ⟨n,ob,h,_⟩:=h;exact absurd h (no n ob)
 ·obtain ⟨n,ob,h,_⟩:=h;exact absurd h (no n ob)
theorem Uh {f:Nat} {fn:Func} (hf:PR.funcs[f]?=some fn) (hn:(fn.name == "runtime.NumGoroutine")=false) (hb:fn.body.isNone=false) {xs:List Value} {w:World} {R:Ending→World→Prop} (h:Does PR f xs w R):Calls PR f xs.toArray w R:=by
 have:(callFunc f xs.toArray).run PR w = .ok (.enter f xs.toArray) w:=by
  unfold callFunc;have hn':¬ fn.name = "runtime.NumGoroutine":=by simpa using hn
  have hb':¬ fn.body=none:=fun h=>by rw [h] at hb; cases hb
  simp [hf,hn',hb']
 unfold Does at h;rw [this] at h;exact h
theorem Ui {f:Nat} {fn:Func} {sp:DV} (hS:DX PR B0 f sp) (hf:PR.funcs[f]?=some fn) (hn:(fn.name == "runtime.NumGoroutine")=false) (hb:fn.body.isNone=false) {vs:List V} {xs:List Value} {W:World}
  (hsp:(sp vs).get=some (.bool true,[])) (hbor:GG vs=none) (hG:Glob B0 W) (hV:VRels γ0 [] W O0 (vs.map EQ) xs) :
  Calls PR f xs.toArray W fun e w'=>e = .returned (.bool true)∧Below W.heap.size W w':=by
 refine Uh hf hn hb ?_;have em:IU vs=[]:=by unfold IU; rw [hbor]
 refine Does.mono (hS W X0 γ0 vs xs (.bool true) [] hsp hG (fun b h=>h.elim) (by rw [em]; exact Hd W) (by rw [em]; exact hV)) ?_;rintro e w' ⟨x,rfl,γ',hR,hx,_⟩;simp only [MV,EQ,VRel] at hx;subst hx;exact ⟨rfl,hR.keep.os,hR.keep.tape,hR.keep.output,hR.keep.size,fun b hb=>hR.keep.block b hb (fun h=>h)⟩
open Go
def T6 (P:Program) (e:TypeId):Bool:=match P.underlying e with | some (.struct _)=>true | some (.array _ _)=>true | _=>false
def ZJ (f:TypeId→Option (List Kd)) (cell:TypeId→Nat):Nat→List (TypeId × Nat)→Option (List Kd)
 | _,[]=>some []
 | off,(t,o) :: r=>match BQ o off with
  | true=>match f t with
   | some ks=>match BQ (cell t) ks.length with
    | true=>match ZJ f cell (off+ks.length) r with
     | some ks'=>some (ks++ks')
     | none=>none
    | false=>none
   | none=>none
  | false=>none
def Q9 (P:Program):Nat→TypeId→Option (List Kd)
 | 0,_=>none
 | n+1,t=>match P.underlying t with
  | some .bool=>some [.bool]
  | some (.int k)=>some [.int k]
  | some .string=>some [.str]
  | some (.slice e)=>match Q9 P n e with
   | some ks=>match B6 1 (P.bytesOf e)&&(BQ (P.cellsOf e) ks.length&&(B6 1 ks.length&&(T6 P e||BQ ks.length 1))) with
    | true=>some [.list (T6 P e) ks]
    | false=>none
   | none=>none
  | some (.struct fs)=>match ZJ (Q9 P n) P.cellsOf 0 (fs.toList.map fun f=>(f.type,f.offset)) with
   | some ks=>match BQ (P.cellsOf t) ks.length with | true=>some ks | false=>none
   | none=>none
  | some (.array m e)=>match ZJ (Q9 P n) P.cellsOf 0 ((vau m).map fun i=>(e,i*P.cellsOf e)) with
   | some ks=>match BQ (P.cellsOf t) ks.length with | true=>some ks | false=>none
   | none=>none
  | _=>none
def CellsK (w:World) (O:Nat→Prop):List Kd→LI→List Value→Prop
 | [],[],[]=>True
 | k :: ks,x :: f,v :: cs=>Kd.Rel w O k x v∧CellsK w O ks f cs
 | _,_,_=>False
section
variable {w:World} {O:Nat→Prop}
theorem CellsK.append:∀ {ks:List Kd} {f:LI} {cs:List Value} {ks':List Kd} {f':LI} {cs':List Value},CellsK w O ks f cs→CellsK w O ks' f' cs'→CellsK w O (ks++ks') (f++f') (cs++cs')
 | [],[],[],_,_,_,_,h'=>h'
 | _ :: ks,_ :: f,_ :: cs,_,_,_,h,h'=>by
  simp only [CellsK] at h;simp only [CT,CellsK];exact ⟨h.1,h.2.append h'⟩
 | [],_ :: _,_,_,_,_,h,_=>by simp [CellsK] at h
 | [],[],_ :: _,_,_,_,h,_=>by simp [CellsK] at h
 | _ :: _,[],_,_,_,_,h,_=>by simp [CellsK] at h
 | _ :: _,_ :: _,[],_,_,_,h,_=>by simp [CellsK] at h
theorem CellsK.get:∀ {ks:List Kd} {f:LI} {cs:List Value},CellsK w O ks f cs→∀ (j:Nat) (k:Kd),ks[j]?=some k→∃ v,cs[j]?=some v∧Kd.Rel w O k (MQ f j) v
 | [],_,_,_,j,k,h=>by simp at h
 | k :: ks,x :: f,v :: cs,h,j,k',hj=>by
  simp only [CellsK] at h;cases j with
  | zero=>
   simp only [BZ,AC] at hj;subst hj;exact ⟨v,rfl,by simpa only [MQ] using h.1⟩
  | succ j=>
   obtain ⟨u,h1,h2⟩:=h.2.get j k' (by simpa using hj);exact ⟨u,by simpa using h1,by simpa only [MQ] using h2⟩
 | _ :: _,[],_,h,_,_,_=>by simp [CellsK] at h
 | _ :: _,_ :: _,[],h,_,_,_=>by simp [CellsK] at h
theorem yW {α:Type} {Q:Nat→α→Prop}:∀ n,(∀ i,i < n→∃ x,Q i x)→∃ L:List α,L.length=n∧∀ i x,L[i]?=some x→Q i x
 | 0,_=>⟨[],rfl,fun i x h=>by simp at h⟩
 | n+1,h=>by
  obtain ⟨L,hl,hL⟩:=yW n (fun i hi=>h i (by omega));obtain ⟨x,hx⟩:=h n (by omega);refine ⟨L++[x],by simp [hl],fun i y hy=>?_⟩;rw [vag] at hy;split at hy
  ·exact hL i y hy
  ·rename_i hi
   have:i - L.length=0:=by
    rcases Nat.eq_zero_or_pos (i - L.length) with e | e
    ·exact e
    ·rw [B1 (by simp; omega)] at hy;cases hy
   rw [this] at hy;simp only [BZ,AC] at hy;subst hy
   have:i=n:=by omega
   subst this;exact hx
end
theorem pQ {H:Type} {P:Program}:∀ {ts:List TypeId} {ds:List (DataW H)} {i:Nat} {t:TypeId} {d:DataW H},ts[i]?=some t→ds[i]?=some d→∀ y∈d.weights P t,y∈vbJ P ts ds
 | [],_,i,_,_,h,_,_,_=>by simp at h
 | _ :: _,[],i,_,_,_,h,_,_=>by simp at h
 | t0 :: ts,d0 :: ds,0,t,d,h,h',y,hy=>by
  simp only [BZ,AC] at h h';subst h; subst h';simp only [vbJ,AX];exact .inl hy
 | t0 :: ts,d0 :: ds,i+1,t,d,h,h',y,hy=>by
  simp only [vbJ,AX];exact .inr (pQ (by simpa using h) (by simpa using h') y hy)
theorem pP {H:Type} {P:Program} {e:TypeId}:∀ {ds:List (DataW H)} {d:DataW H},d∈ds→∀ y∈d.weights P e,y∈DataW.weightsAll P e ds
 | [],_,h,_,_=>by cases h
 | d0 :: ds,d,h,y,hy=>by
  simp only [DataW.weightsAll,AX];rcases AP.1 h with rfl | h
  ·exact .inl hy
  ·exact .inr (pP h y hy)
section
variable {H:Type} {enc:TypeId × Value→H} {P:Program} {w:World} {base:Nat} {sp:Nat→Bool} {held:Bool} {O:Nat→Prop}
theorem qU {f:TypeId→Option (List Kd)} {n:Nat} {cs:List Value}
  (ih:∀ (t:TypeId) (ks:List Kd) (cs:List Value) (d:DataW H) (p:List MemPlace),f t=some ks→DataW.trod enc P w base sp held n t cs=some (d,p)→(∀ y∈d.weights P t,y≤reachBytes)→∃ g,CellsK w O ks g cs) :
  ∀ (parts:List (TypeId × Nat)) (off:Nat) (ks:List Kd) (xs:List (DataW H × List MemPlace)),ZJ f P.cellsOf off parts=some ks→xs.length=parts.length →
   (∀ (i:Nat) (t:TypeId) (o:Nat),parts[i]?=some (t,o)→DataW.trod enc P w base sp held n t ((cs.drop o).take (P.cellsOf t))=xs[i]?) →
   (∀ (i:Nat) (t:TypeId) (o:Nat) (x:DataW H × List MemPlace),parts[i]?=some (t,o)→xs[i]?=some x→∀ y∈x.1.weights P t,y≤reachBytes)→∃ g,CellsK w O ks g ((cs.drop off).take ks.length)
 | [],off,ks,xs,h,_,_,_=>by
  simp only [ZJ,AC] at h;subst h;exact ⟨[],by simp only [A6,List.take_zero,CellsK]⟩
 | (t,o) :: r,off,ks,[],h,hl,_,_=>by simp at hl
 | (t,o) :: r,off,ks,x :: xs,h,hl,ht,hw=>by
  simp only [ZJ] at h;split at h
  case h_2=>cases h
  rename_i ho;obtain rfl:=vao ho;split at h
  case h_2=>cases h
  rename_i k1 hk1;split at h
  case h_2=>cases h
  rename_i hc;have hc:=vao hc;split at h
  case h_2=>cases h
  rename_i k2 hk2;simp only [AC] at h;subst h;have h0:=ht 0 t o rfl;simp only [BZ] at h0;obtain ⟨d,p⟩:=x;obtain ⟨g1,hg1⟩:=ih t k1 _ d p hk1 h0 (hw 0 t o (d,p) rfl rfl);obtain ⟨g2,hg2⟩:=qU ih r (o+k1.length) k2 xs hk2 (by simpa using hl) (fun i t' o' hi=>by simpa using ht (i+1) t' o' (by simpa using hi)) (fun i t' o' x hi hx=>hw (i+1) t' o' x (by simpa using hi) (by simpa using hx));refine ⟨g1++g2,?_⟩;rw [AT,List.take_add,List.drop_drop];rw [hc] at hg1;exact hg1.append hg2
theorem zil {a:Addr} {v:Value} (h:w.cell? a=some v):a.spot=none∧a.block < w.heap.size:=by
 unfold vaN at h;split at h
 ·rename_i c _ _ hc;split at h
  ·cases h
  ·rename_i hs;exact ⟨by simpa using hs,(DF.1 hc).1⟩
 ·cases h
theorem gQ (hO:∀ b,¬ O b):∀ (n:Nat) (t:TypeId) (ks:List Kd) (fuel:Nat) (cs:List Value) (d:DataW H) (p:List MemPlace),Q9 P n t=some ks →
  DataW.trod enc P w base sp held fuel t cs=some (d,p)→(∀ y∈d.weights P t,y≤reachBytes)→∃ g,CellsK w O ks g cs
 | 0,_,_,_,_,_,_,h,_,_=>by simp [Q9] at h
 | n+1,t,ks,fuel,cs,d,p,h,ht,hw=>by
  simp only [Q9] at h;split at h
  ·rename_i hu;simp only [AC] at h;subst h;obtain ⟨b,rfl,_⟩:=DataW.trod_bool hu ht;exact ⟨[.bool b],by simp only [CellsK,Kd.Rel,IV.toBool,and_self]⟩
  ·rename_i k hu;simp only [AC] at h;subst h;obtain ⟨m,rfl,_,hm⟩:=DataW.trod_int hu ht;simp only [Lit.wf,AI,AQ] at hm;exact ⟨[.int m],by simp only [CellsK,Kd.Rel,IV.toInt,B7,vaC]; exact hm⟩
  ·rename_i hu;simp only [AC] at h;subst h;obtain ⟨s,rfl,hd,hs⟩:=DataW.trod_string hu ht;simp only [AV] at hd;refine ⟨[.str s],?_⟩;simp only [CellsK,Kd.Rel,IV.toStr,B7,vaC];rw [hd.1] at hw
   have:=hw s.data.toList.length (by simp [vbz])
   have e:s.data.toList.length=s.size:=by rw [CL]; rfl
   rw [e] at this;unfold reachBytes at this;unfold strMax;omega
  ·rename_i e hu;split at h
   case h_2=>cases h
   rename_i k1 hk1;split at h
   case h_2=>cases h
   rename_i hc;simp only [AC] at h;subst h;simp only [AI,vap] at hc;obtain ⟨hb,hce,hk0,hag⟩:=hc;have hb:=AN hb;have hce:=vao hce;have hk0:=AN hk0;rcases DataW.trod_slice hu ht with ⟨rfl,_⟩ | ⟨a,len,cap,elems,rest,m,_,rfl,hx,_,hlc,hcap,hlen,hel,_⟩
   ·refine ⟨[.list []],?_⟩;simp only [CellsK,Kd.Rel,IV.toList,B7];exact ⟨none,0,rfl,AZ _,B5 _,B5 _,fun i y hi=>by simp at hi⟩
   ·simp only [AV] at hx;obtain ⟨rfl,_⟩:=hx;simp only [vbz,hu,AP,AX] at hw;have hsz:len≤strMax:=by
     have:=hw _ (.inl rfl)
     rw [BG,hlen] at this;have h1:len*1≤(len+(rest.map (·.1)).length)*P.bytesOf e:=Nat.mul_le_mul (by omega) hb;unfold reachBytes at this;unfold strMax;omega
    have hex:∀ i,i < len→∃ g:LI,∃ ci,w.cells? base (a.add (i*k1.length)) k1.length=some ci∧CellsK w O k1 g ci:=by
     intro i hi;have h1:=hel i hi;have hi':i < elems.length:=by omega
     rw [A8 hi',hce] at h1;simp only [Option.bind_eq_some_iff] at h1;obtain ⟨ci,h2,h3⟩:=h1;obtain ⟨g,hg⟩:=gQ hO n e k1 m ci elems[i].1 elems[i].2 hk1 h3 (fun y hy=>hw y (.inr (.inl (pP (vaU (CX hi')) y hy))));exact ⟨g,ci,h2,hg⟩
    obtain ⟨L,hL,hLi⟩:=yW len hex;refine ⟨[.list (L.map fun g=>match T6 P e with | true=>IV.agg g | false=>MQ g 0)],?_⟩;simp only [CellsK,Kd.Rel,IV.toList,B7,BG,hL];refine ⟨some a,cap,rfl,hlc,hcap,hsz,fun i y hi=>?_⟩;rw [B9,DE] at hi;obtain ⟨g,hg,rfl⟩:=hi;obtain ⟨ci,hci,hgc⟩:=hLi i g hg;have hil:i < len:=by rw [← hL]; exact (BR.1 hg).1
    have cellAt:∀ j k,k1[j]?=some k→∃ u,w.cell? ((a.add (i*k1.length)).add j)=some u∧Kd.Rel w O k (MQ g j) u:=by
     intro j k hk;obtain ⟨u,h1,h2⟩:=hgc.get j k hk;refine ⟨u,?_,h2⟩;have hj:j < k1.length:=(BR.1 hk).1;unfold World.cells? at hci;split at hci
     ·obtain ⟨b,hb1,hb2⟩:=Lib.mapM_at hci j j (by simp [hj]);rw [h1] at hb1;simp only [AC] at hb1;rw [hb2,hb1]
     ·cases hci
    have hspot:a.spot=none∧a.block < w.heap.size:=by
     obtain ⟨g0,hg0⟩:∃ g0,L[0]?=some g0:=⟨L[0]'(by omega),A8 (by omega)⟩;obtain ⟨c0,hc0,hgc0⟩:=hLi 0 g0 hg0;obtain ⟨u,h1,_⟩:=hgc0.get 0 k1[0] (A8 (by omega));unfold World.cells? at hc0;split at hc0
     ·obtain ⟨b,_,hb2⟩:=Lib.mapM_at hc0 0 0 (List.getElem?_range (show 0 < k1.length by omega))
      have:=zil hb2
      rw [Nat.zero_mul] at this;simpa [Addr.add] using this
     ·cases hc0
    obtain ⟨ab,ao,asp⟩:=a;obtain ⟨hs1,hs2⟩:=hspot;simp only at hs1 hs2;subst hs1;refine ⟨ab,ao,rfl,hO ab,hs2,?_⟩;rw [Kd.RelAll_iff];intro j k hk;obtain ⟨u,h1,h2⟩:=cellAt j k hk;rw [Lib.add_plain,Lib.add_plain] at h1;rw [BI];refine ⟨u,h1,?_⟩;cases hat:T6 P e with
    | true=>
     show Kd.Rel w O k (MQ g j) u;exact h2
    | false=>
     rw [hat] at hag;have h1l:k1.length=1:=vao (by simpa using hag);have hj:j < k1.length:=(BR.1 hk).1
     have:j=0:=by omega
     subst this;exact h2
  ·rename_i fs hu;split at h
   case h_2=>cases h
   rename_i k1 hk1;split at h
   case h_2=>cases h
   rename_i hc;have hc:=vao hc;simp only [AC] at h;subst h;obtain ⟨xs,m,_,hx,hcl,hxl,hall⟩:=DataW.trod_struct hu ht;simp only [AV] at hx;obtain ⟨rfl,_⟩:=hx;simp only [vbz,hu] at hw;have key:=qU (enc:=enc) (P:=P) (w:=w) (base:=base) (sp:=sp) (held:=held) (O:=O) (f:=Q9 P n) (n:=m) (cs:=cs) (fun t ks cs d p h1 h2 h3=>gQ hO n t ks m cs d p h1 h2 h3) (fs.toList.map fun f=>(f.type,f.offset)) 0 k1 xs hk1 (by simp [hxl]) (fun i t o hi=>by
     rw [B9,DE] at hi;obtain ⟨f,hf,he⟩:=hi;simp only [AV] at he;obtain ⟨rfl,rfl⟩:=he;exact hall i f (by simpa using hf)) (fun i t o x hi hx y hy=>by
     rw [B9,DE] at hi;obtain ⟨f,hf,he⟩:=hi;simp only [AV] at he;obtain ⟨rfl,rfl⟩:=he;exact hw y (pQ (i:=i) (by rw [B9,hf]; rfl) (by rw [B9,hx]; rfl) y hy))
   obtain ⟨g,hg⟩:=key;rw [BY,CV (by omega)] at hg;exact ⟨g,hg⟩
  ·rename_i m0 e hu;split at h
   case h_2=>cases h
   rename_i k1 hk1;split at h
   case h_2=>cases h
   rename_i hc;have hc:=vao hc;simp only [AC] at h;subst h;obtain ⟨xs,m,_,hx,hcl,hxl,hall⟩:=DataW.trod_array hu ht;simp only [AV] at hx;obtain ⟨rfl,_⟩:=hx;simp only [vbz,hu] at hw;have key:=qU (enc:=enc) (P:=P) (w:=w) (base:=base) (sp:=sp) (held:=held) (O:=O) (f:=Q9 P n) (n:=m) (cs:=cs) (fun t ks cs d p h1 h2 h3=>gQ hO n t ks m cs d p h1 h2 h3) ((vau m0).map fun i=>(e,i*P.cellsOf e)) 0 k1 xs hk1 (by simp [hxl]) (fun i t o hi=>by
     rw [B9,DE] at hi;obtain ⟨f,hf,he⟩:=hi;simp only [AV] at he;obtain ⟨rfl,rfl⟩:=he;have hfi:=BR.1 hf;obtain ⟨hl,he⟩:=hfi;rw [List.getElem_range] at he;subst he;exact hall i (by simpa using hl)) (fun i t o x hi hx y hy=>by
     rw [B9,DE] at hi;obtain ⟨f,hf,he⟩:=hi;simp only [AV] at he;obtain ⟨rfl,rfl⟩:=he;exact hw y (pP (vaU (vah hx)) y hy))
   obtain ⟨g,hg⟩:=key;rw [BY,CV (by omega)] at hg;exact ⟨g,hg⟩
  ·cases h
end
open Go Go.Proofs Go.RowKit Go.ChangeShapes Go.WideShapes
def X6:Kd→IV→V
 | .int k,x=>.int k x.toInt
 | .bool,x=>.bool x.toBool
 | .str,x=>.str x.toStr
 | .list ag ks,x=>.list ag ks x.toList
theorem Od {γ:Nat→Value} {o:Store} {w:World} {O:Nat→Prop} {k:Kd} {x:IV} {v:Value} (h:Kd.Rel w O k x v):VRel γ o w O (X6 k x) v:=by
 cases k with
 | int k=>simpa only [X6,VRel,Kd.Rel] using h
 | bool=>simpa only [X6,VRel,Kd.Rel] using h
 | str=>simpa only [X6,VRel,Kd.Rel] using h
 | list ag ks=>
  simp only [X6,VRel];simpa only [Kd.Rel,IV.toList] using h
def gT:List Kd→LI→List V
 | k :: ks,x :: f=>X6 k x :: gT ks f
 | _,_=>[]
theorem Om {γ:Nat→Value} {o:Store} {w:World} {O:Nat→Prop}:∀ {ks:List Kd} {f:LI} {cs:List Value},CellsK w O ks f cs→VRels γ o w O (gT ks f) cs
 | [],[],[],_=>by simp only [gT,VRels]
 | _ :: _,_ :: _,_ :: _,h=>by
  simp only [CellsK] at h;simp only [gT,VRels];exact ⟨Od h.1,Om h.2⟩
 | [],_ :: _,_,h=>by simp [CellsK] at h
 | [],[],_ :: _,h=>by simp [CellsK] at h
 | _ :: _,[],_,h=>by simp [CellsK] at h
 | _ :: _,_ :: _,[],h=>by simp [CellsK] at h
theorem CellsK.len {w:World} {O:Nat→Prop}:∀ {ks:List Kd} {f:LI} {cs:List Value},CellsK w O ks f cs→f.length=ks.length
 | [],[],[],_=>rfl
 | _ :: _,_ :: _,_ :: _,h=>by
  simp only [CellsK] at h;simp only [List.length_cons,h.2.len]
 | [],_ :: _,_,h=>by simp [CellsK] at h
 | [],[],_ :: _,h=>by simp [CellsK] at h
 | _ :: _,[],_,h=>by simp [CellsK] at h
 | _ :: _,_ :: _,[],h=>by simp [CellsK] at h
section
variable {H:Type} {enc:TypeId × Value→H} {P:Program} {W:World} {base b0:Nat} {sp:Nat→Bool} {held:Bool}
theorem mR {n:Nat} {t:TypeId} {ks:List Kd} {v:Value} {d:DataW H} {p:List MemPlace} (hk:Q9 P n t=some ks) (hu:T6 P t=true) (hval:Value.okWide P W .any base t v)
  (h:DataW.Trod enc P W b0 sp held t v d p) (hw:∀ y∈d.weights P t,y≤reachBytes):∃ g:LI,g.length=ks.length∧VRel γ0 [] W O0 (.agg (gT ks g)) v:=by
 obtain ⟨cs,rfl⟩:∃ cs,v = .agg cs:=by
  unfold T6 at hu;unfold Value.okWide at hval;split at hu
  ·rename_i hh; rw [hh] at hval; exact hval.imp (fun _ h=>h.1)
  ·rename_i hh; rw [hh] at hval; exact hval.imp (fun _ h=>h.1)
  ·cases hu
 obtain ⟨fuel,hf⟩:=h;obtain ⟨g,hg⟩:=gQ (O:=O0) uQ n t ks fuel _ d p hk hf hw;refine ⟨g,hg.len,?_⟩;simp only [VRel];exact ⟨cs,rfl,Om hg⟩
theorem dQ {n:Nat} {t:TypeId} {k:Kd} {v:Value} {d:DataW H} {p:List MemPlace} (hk:Q9 P n t=some [k]) (hu:T6 P t=false) (hval:Value.okWide P W .any base t v)
  (h:DataW.Trod enc P W b0 sp held t v d p) (hw:∀ y∈d.weights P t,y≤reachBytes):∃ x:IV,VRel γ0 [] W O0 (X6 k x) v:=by
 obtain ⟨fuel,hf⟩:=h;obtain ⟨g,hg⟩:=gQ (O:=O0) uQ n t [k] fuel _ d p hk hf hw;have hc:v.cells.toList=[v]:=by
  cases v with
  | agg cs=>
   exfalso;unfold T6 at hu;unfold Value.okWide at hval;split at hu
   ·cases hu
   ·cases hu
   ·rename_i h1 h2;split at hval
    ·rename_i hh; exact h1 _ hh
    ·rename_i hh; exact h2 _ _ hh
    ·unfold Cell.okWide Cell.ok at hval;split at hval <;> first | (split at hval <;> simp_all) | simp_all
  | _=>rfl
 rw [hc] at hg
 match g,hg with
 | [x],hg=>
  simp only [CellsK,and_true] at hg;exact ⟨x,Od hg⟩
theorem Ny (hl:laidOutB P=true) {W':World} (hb:Below W.heap.size W W'):∀ {ts:List TypeId} {vs:List Value} {ds:List (DataW H)} {ps:List MemPlace},DataW.TrodAll enc P W 0 (fun _=>true) true ts vs ds ps →
  (∀ t∈ts,P.readableRec t=true∧t < P.types.size)→(∀ x∈ps,x.block < W.heap.size)→DataW.TrodAll enc P W' 0 (fun b=>decide (b < W.heap.size)) true ts vs ds ps
 | [],vs,ds,ps,h,_,_=>by
  obtain ⟨rfl,rfl,rfl⟩:=trodAll_nil h;rfl
 | t :: ts,vs,ds,ps,h,ht,hp=>by
  obtain ⟨v,vs1,d,ds1,a,b,rfl,rfl,rfl,h1,h2⟩:=trodAll_cons h;have hh:=ht t (List.mem_cons_self ..);exact ⟨a,b,Below.trod hl hh.1 hh.2 h1 hb (fun x hx=>hp x (List.mem_append.2 (.inl hx))),Ny hl hb h2 (fun t' h'=>ht t' (List.mem_cons_of_mem _ h')) (fun x hx=>hp x (List.mem_append.2 (.inr hx))),rfl⟩
end
theorem Iq:ownKnob Tryz.prog.godebug=none:=by kernel_rfl
theorem Io:laidOutB Tryz.prog=true:=by kernel_rfl
theorem Cb {os:Os} (started:os.Started) {H:Type} {enc:TypeId × Value→H} {spec:ChangeSpec} {f:Nat} {fn:Func} {sp:DV} {laid:List (String × DataW Unit)} (hS:DX PR B0 f sp) (hf:Tryz.prog.funcs[f]?=some fn)
  (hn:(fn.name == "runtime.NumGoroutine")=false) (hb:fn.body.isNone=false) (hini:Tryz.prog.inits.idxOf? f=none) (hres:fn.resultTypes = #[4]) (hvars:spec.vars=[])
  (hspec:∀ (ds:List (DataW H)),ds.length=fn.params.toList.length→spec.fn H ds={ results:=[.lit (.bool true)],args:=ds })
  (hpar:fn.params.toList.all (fun t=>Tryz.prog.readableRec t&&decide (t < Tryz.prog.types.size))=true)
  (hglob:∀ W:World,laidMetH Tryz.prog laid W→W.ShapedOpen Tryz.prog→Glob B0 W)
  (witness:∃ (w:World) (tape:Tape) (i:Input),w.os=os∧(w.forCall tape i).Shaped Tryz.prog∧i.vars=[]∧Input.okWide Tryz.prog (w.forCall tape i) .any w.heap.size f i ∧
   (OpenSpec.ofChange spec).preRow enc Tryz.prog fn [] false laid (w.forCall tape i).memory i.args∧({}:Assume).holds Tryz.prog (lone (Frame.enter Tryz.prog f i.args .normal) [] (w.forCall tape i)))
  (harg:∀ (W:World) (base:Nat) (vs:List Value) (ds:List (DataW H)) (p:List MemPlace),DataW.TrodAll enc Tryz.prog W 0 (fun _=>true) true fn.params.toList vs ds p →
   (∀ (j:Nat) t v,fn.params.toList[j]?=some t→vs[j]?=some v→Value.okWide Tryz.prog W .any base t v) →
   (∀ (j:Nat) t d,fn.params.toList[j]?=some t→ds[j]?=some d→∀ y∈d.weights Tryz.prog t,y≤reachBytes) →
   ∃ l:List V,(sp l).get=some (.bool true,[])∧GG l=none∧VRels γ0 [] W O0 (l.map EQ) vs) :
  ReturnsInHanded {} Tryz.checked os f .any ((OpenSpec.ofChange spec).preRow enc Tryz.prog fn [] false laid) (spec.post enc Tryz.prog fn false true false false):=by
 refine returnsInHanded_of_row (C:=Tryz.checked) (s:=OpenSpec.ofChange spec) (F:=fun _ _ _=>0) Iq started hini hf witness ?_;intro W base args ds gs before hval hW _ _ hwt hL hsh _;have hW':=hW;obtain ⟨p,q,hA,hV,rfl,_,_⟩:=hW;have hvars':(OpenSpec.ofChange spec).vars=[]:=hvars;rw [hvars'] at hV;obtain ⟨rfl,rfl⟩:=trodVars_none hV;have hlen:ds.length=fn.params.toList.length:=by
  have:∀ {ts:List TypeId} {vs:List Value} {ds:List (DataW H)} {ps:List MemPlace},DataW.TrodAll enc Tryz.prog W 0 (fun _=>true) true ts vs ds ps→ds.length=ts.length:=by
   intro ts
   induction ts with
   | nil=>intro vs ds ps h; obtain ⟨_,rfl,_⟩:=trodAll_nil h; rfl
   | cons t ts ih=>
    intro vs ds ps h;obtain ⟨v,vs1,d,ds1,a,b,rfl,rfl,rfl,h1,h2⟩:=trodAll_cons h;simp only [List.length_cons,ih h2]
  exact this hA
 simp only [List.append_nil] at hW' hwt;obtain ⟨l,hl,hbor,hrel⟩:=harg W base args.toList ds p hA (fun j t v h1 h2=>hval j t v (by simpa using h1) (by simpa using h2)) (fun j t d h1 h2 y hy=>by
  have hm:=pQ (P:=Tryz.prog) (ts:=fn.params.toList++(OpenSpec.ofChange spec).bare.plain.varTypes Tryz.prog) (ds:=ds) (i:=j) (t:=t) (d:=d) (by
   rw [List.getElem?_append_left (by rw [← hlen]; exact (List.getElem?_eq_some_iff.1 h2).1)];exact h1) h2 y hy
  have:=List.all_eq_true.1 hwt y hm
  simpa using this)
 have hc:=Ui hS hf hn hb hl hbor (hglob W hL hsh) hrel;have ea:args.toList.toArray=args:=by simp
 rw [ea] at hc;refine hc.mono ?_;rintro e W' ⟨rfl,bel⟩;have hfn:spec.fn H (ds++[])={ results:=[.lit (.bool true)],args:=ds }:=by rw [List.append_nil]; exact hspec ds hlen
 have hlt:∀ x∈p,x.block < W.heap.size:=fun x hx=>hW'.lt x hx
 have post:spec.post enc Tryz.prog fn false true false false W args (.bool true) W':=by
  refine ⟨ds,[],p,[],p,[],hW',?_,?_,?_,bel.frame _,fun h=>by cases h⟩
  ·rw [hfn,hres];exact trodAll_mk1 (shut_bool Tryz.underlying4 _)
  ·rw [hfn];exact Ny Io bel hA (fun t ht=>by
    have:=List.all_eq_true.1 hpar t ht
    simpa using this) hlt
  ·rw [hvars,hfn];rfl
 exact ⟨_,rfl,post⟩
end Go.FM
namespace Go.Proofs.YtehhekmihbaghaaGreatDoor
open Go Go.ChangeShapes Go.WideShapes Go.ChangeAt Go.RowKit Go.FM
theorem Iq:ownKnob Tryz.prog.godebug=none:=by kernel_rfl
theorem Io:laidOutB Tryz.prog=true:=by kernel_rfl
abbrev XX:List (String × DataW Unit):=Rows.topLinesRow.laid
noncomputable def sB (os:Os):World:=
 let w0:=World.doorLaid Tryz.prog 72 os
 { w0 with heap:=w0.heap.modify 4 fun
  | .cells _ t frozen=>.cells (Lib.firstTab.map fun z=>Value.int .u8 z).toArray t frozen
  | o=>o }
theorem It (os:Os) (args:Array Value):laidMetH Tryz.prog XX ((sB os).forCall (fun _ _=>0) ⟨#[],args,[]⟩).memory:=
 laidMetH_of_parts3 (fuel:=8) (laidMet_of_run' 8 (by kernel_rfl) (by kernel_rfl)) (by kernel_rfl) (by kernel_rfl)
theorem Ir {W:World} (hL:laidMetH Tryz.prog XX W) (hsh:W.ShapedOpen Tryz.prog):Glob B0 W:=by
 have hL':laidMet Tryz.prog XX W:=by
  rw [MakeChecks.laidMetH_plain _ _ _ (by kernel_rfl)] at hL;exact hL
 exact Zm hL' hsh (n1 := "*errors.errorString") (n2 := "*errors.errorString") (.tail _ (.tail _ (.head _))) (.tail _ (.tail _ (.tail _ (.tail _ (.head _))))) (.tail _ (.tail _ (.tail _ (.tail _ (.tail _ (.head _))))))
end Go.Proofs.YtehhekmihbaghaaGreatDoor
namespace Go.FM
open Go Go.Proofs
def MF (N:Nat):Env:=D5 [(24,SC),(6,bV),(33,bW),(32,WA),(22,PQ),(20,NW),(16,SG),(15,SH)] [(5,⟨[6,7,8,9,10,23,24],[7],[]⟩),(14,⟨[6,7,8,13,14,60,61],[7],[]⟩)] 92 N
abbrev VR (f:Ft) (b6:Bool) (l8:LI) (s9 s10:BA) (x23 x24:Int):St:=⟨[(6,(.bool b6)),(7,(.ptr 7 0 0)),(8,(.list false [.str] l8)),(9,(.str s9)),(10,(.str s10)),(23,(.i x23)),(24,(.i x24))],[(7,(some (.box (Md.cs (Ft.M f)))))]⟩
abbrev TP (f:Ft) (b6:Bool) (l8:LI) (s13 s14:BA) (x60 x61:Int):St:=⟨[(6,(.bool b6)),(7,(.ptr 7 0 0)),(8,(.list false [.str] l8)),(13,(.str s13)),(14,(.str s14)),(60,(.i x60)),(61,(.i x61))],[(7,(some (.box (Md.cs (Ft.M f)))))]⟩
theorem zdw (N:Nat) (f:Ft) (a1:LI) (a2:Int):DZ (MF N) OS [.tmp 6] [[.bool]] [(Ft.V f),.list true [.z,.z,.z,.z,.z,.z,.bool,.list false [.z]] a1,.i a2]=(cond (NI (Ft.M f) && -1 == -1) (DY (MF N) (DK OS [1,1,1,1,0,1,0,0]) ⟨[6,7,8,9,10,23,24],[7],[]⟩ N (VR f false (A2 (fun q=>IV.str (D9 q (Md.d (Ft.M f)))) (J2 (Ft.M f) (AK 5 a1) (DM a2 0 200))) ({data:=#[]}) ({data:=#[]}) (ic (AF (A2 (fun q=>IV.str (D9 q (Md.d (Ft.M f)))) (J2 (Ft.M f) (AK 5 a1) (DM a2 0 200))))) 0) (DQ 0 (DS (MF N) (DK OS [1,1,1,1,1]) (DT (MF N) none [.tmp 6] [[.bool]])))) none):=by kernel_rfl
theorem Lt (N:Nat) (f:Ft) (b6:Bool) (l8:LI) (s9 s10:BA) (x23 x24:Int) (again:St→DO) (k:Out→St→DO):EZ (MF N) (DK OS [1,1,1,1,0,1,0,0]) (VR f b6 l8 s9 s10 x23 x24) (EN again ⟨[6,7,8,9,10,23,24],[7],[]⟩ k)=(cond (decide (x24 < x23)) (cond (decide (0≤x24)&&decide (x24 < ic (AF l8))) (cond (decide (AG s9+AG (IV.toStr (AH l8 (AE x24) default))≤strMax)) (cond (decide (AG (s9++IV.toStr (AH l8 (AE x24) default))+AG {data:=#[10]}≤strMax)) (cond (decide (0≤AA AB (AA AB (ic (AF l8) - 1) - x24))&&decide (AA AB (AA AB (ic (AF l8) - 1) - x24) < ic (AF l8))) (cond (decide (AG s10+AG (IV.toStr (AH l8 (AE (AA AB (AA AB (ic (AF l8) - 1) - x24))) default))≤strMax)) (cond (decide (AG (s10++IV.toStr (AH l8 (AE (AA AB (AA AB (ic (AF l8) - 1) - x24))) default))+AG {data:=#[10]}≤strMax)) (again (VR f b6 l8 (s9++IV.toStr (AH l8 (AE x24) default)++{data:=#[10]}) (s10++IV.toStr (AH l8 (AE (AA AB (AA AB (ic (AF l8) - 1) - x24))) default)++{data:=#[10]}) x23 (AA AB (x24+1)))) none) none) none) none) none) none) (k (.exit 0) (VR f b6 l8 s9 s10 x23 x24))):=by kernel_rfl
theorem Xl (N:Nat) (f:Ft) (b6:Bool) (l8:LI) (s9 s10:BA) (x23 x24:Int):(DQ 0 (DS (MF N) (DK OS [1,1,1,1,1]) (DT (MF N) none [.tmp 6] [[.bool]]))) (.exit 0) (VR f b6 l8 s9 s10 x23 x24)=(cond (decide (AG (FH (Ft.M f)) < 4294967281)&&(decide (AG s9 < 4294967281)&&decide (AG (G1 (FH (Ft.M f)) s9)≤strMax))) (cond (decide (AG (FH (Ft.M f)) < 4294967281)&&(decide (AG s10 < 4294967281)&&decide (AG (G1 (FH (Ft.M f)) s10)≤strMax))) (cond (ic (AG (G1 (FH (Ft.M f)) s9)) != ic (AG (G1 (FH (Ft.M f)) s10))) (some ((.bool false),[])) (DY (MF N) (DK OS [1,1,1,1,1,1,1,1,0,1,0,0]) ⟨[6,7,8,13,14,60,61],[7],[]⟩ N (TP f b6 l8 (G1 (FH (Ft.M f)) s10) ({data:=#[]}) (ic (AF l8)) 0) (DQ 2 (DS (MF N) (DK OS [1,1,1,1,1,1,1,1,1]) (DT (MF N) none [.tmp 6] [[.bool]]))))) none) none):=by kernel_rfl
theorem Lu (N:Nat) (f:Ft) (b6:Bool) (l8:LI) (s13 s14:BA) (x60 x61:Int) (again:St→DO) (k:Out→St→DO):EZ (MF N) (DK OS [1,1,1,1,1,1,1,1,0,1,0,0]) (TP f b6 l8 s13 s14 x60 x61) (EN again ⟨[6,7,8,13,14,60,61],[7],[]⟩ k)=(cond (decide (x61 < x60)) (cond (decide (AG s14+AG {data:=#[113,117,101,114,121,32]}≤strMax)) (cond (decide (AG (s14++{data:=#[113,117,101,114,121,32]})+AG (N1 x61)≤strMax)) (cond (decide (AG (s14++{data:=#[113,117,101,114,121,32]}++N1 x61)+AG {data:=#[10]}≤strMax)) (cond (decide (0≤AA AB (AA AB (ic (AF l8) - 1) - x61))&&decide (AA AB (AA AB (ic (AF l8) - 1) - x61) < ic (AF l8))) (cond (decide (AG (IV.toStr (AH l8 (AE (AA AB (AA AB (ic (AF l8) - 1) - x61))) default)) < 4294967281)) (cond (decide (AG (EL (HO (Ft.M f) (IV.toStr (AH l8 (AE (AA AB (AA AB (ic (AF l8) - 1) - x61))) default))))≤strMax)) (cond (decide (AG (s14++{data:=#[113,117,101,114,121,32]}++N1 x61++{data:=#[10]})+AG (EL (HO (Ft.M f) (IV.toStr (AH l8 (AE (AA AB (AA AB (ic (AF l8) - 1) - x61))) default))))≤strMax)) (again (TP f b6 l8 s13 (s14++{data:=#[113,117,101,114,121,32]}++N1 x61++{data:=#[10]}++EL (HO (Ft.M f) (IV.toStr (AH l8 (AE (AA AB (AA AB (ic (AF l8) - 1) - x61))) default)))) x60 (AA AB (x61+1)))) none) none) none) none) none) none) none) (k (.exit 2) (TP f b6 l8 s13 s14 x60 x61))):=by kernel_rfl
theorem Xm (N:Nat) (f:Ft) (b6:Bool) (l8:LI) (s13 s14:BA) (x60 x61:Int):(DQ 2 (DS (MF N) (DK OS [1,1,1,1,1,1,1,1,1]) (DT (MF N) none [.tmp 6] [[.bool]]))) (.exit 2) (TP f b6 l8 s13 s14 x60 x61)=(cond (AW s13==AW s14) (some ((.bool true),[])) (some ((.bool false),[]))):=by kernel_rfl
open Go Go.Proofs
def TX (N:Nat):Env:=D5 [(18,R8),(17,MG),(16,SG),(15,SH)] [(3,⟨[1,2,3,4,5,10,11,12],[5,68],[⟨.tmp 11,68,9,false,[.str]⟩]⟩)] 70 N
abbrev PM (m:Md) (l1:LI) (x2 x3 x4:Int) (n11:Nat) (x12:Int) (lo68:LI):St:=⟨[(1,(.list true [.z,.z,.z,.z,.z,.z,.bool,.list false [.z]] l1)),(2,(.i x2)),(3,(.i x3)),(4,(.int .u8 x4)),(5,(.ptr 5 0 0)),(10,.zs),(11,(.row 68 0 n11)),(12,(.i x12))],[(5,(some (.box (Md.cs m)))),(68,(some (.row true 9 false [.str] lo68)))]⟩
theorem zdy (N:Nat) (m:Md) (a1:LI) (a2 a3 a4:Int):DZ (TX N) WV [.tmp 10] [[.list false [.str]]] [(Md.V m),.list true [.z,.z,.z,.z,.z,.z,.bool,.list false [.z]] a1,.i a2,.i a3,.int .u8 a4]=(DY (TX N) (DK WV [1,1,0,1,0,0]) ⟨[1,2,3,4,5,10,11,12],[5,68],[⟨(.tmp 11),68,9,false,[.str]⟩]⟩ N (PM m a1 a2 a3 a4 0 0 []) (DQ 0 (DS (TX N) (DK WV [1,1,1]) (DT (TX N) none [.tmp 10] [[.list false [.str]]])))):=by kernel_rfl
theorem zis (N:Nat) (m:Md) (l1:LI) (x2 x3 x4:Int) (n11:Nat) (x12:Int) (lo68:LI) (again:St→DO) (k:Out→St→DO):EZ (TX N) (DK WV [1,1,0,1,0,0]) (PM m l1 x2 x3 x4 n11 x12 lo68) (EN again ⟨[1,2,3,4,5,10,11,12],[5,68],[⟨(.tmp 11),68,9,false,[.str]⟩]⟩ k)=(cond (decide (x12 < ic (AF l1))) (cond (decide (x12 < 5)) (cond (decide (0≤x12)&&decide (x12 < ic (AF l1))) (cond (NI m) (cond (x12==x3) (cond (decide (ic (AG (D9 (Qy.bud (FB (GA (AH l1 (AE x12) default)) m) (DM x2 0 200)) (Md.d m))) > 0)) (cond (decide (M2 0 (AA AB (ic (AG (D9 (Qy.bud (FB (GA (AH l1 (AE x12) default)) m) (DM x2 0 200)) (Md.d m))) - 1))=0)) none (cond (decide (0≤DM (AA AB (x3*7)) 0 (AA AB (ic (AG (D9 (Qy.bud (FB (GA (AH l1 (AE x12) default)) m) (DM x2 0 200)) (Md.d m))) - 1)))&&decide (DM (AA AB (x3*7)) 0 (AA AB (ic (AG (D9 (Qy.bud (FB (GA (AH l1 (AE x12) default)) m) (DM x2 0 200)) (Md.d m))) - 1))≤ic (AG (D9 (Qy.bud (FB (GA (AH l1 (AE x12) default)) m) (DM x2 0 200)) (Md.d m))))) (cond (decide (AG (vaa (D9 (Qy.bud (FB (GA (AH l1 (AE x12) default)) m) (DM x2 0 200)) (Md.d m)) 0 (AE (DM (AA AB (x3*7)) 0 (AA AB (ic (AG (D9 (Qy.bud (FB (GA (AH l1 (AE x12) default)) m) (DM x2 0 200)) (Md.d m))) - 1)))))+AG (strOfNums (A2 IV.toInt [IV.int x4]))≤strMax)) (cond (decide (0≤AA AB (DM (AA AB (x3*7)) 0 (AA AB (ic (AG (D9 (Qy.bud (FB (GA (AH l1 (AE x12) default)) m) (DM x2 0 200)) (Md.d m))) - 1))+1))&&decide (AA AB (DM (AA AB (x3*7)) 0 (AA AB (ic (AG (D9 (Qy.bud (FB (GA (AH l1 (AE x12) default)) m) (DM x2 0 200)) (Md.d m))) - 1))+1)≤ic (AG (D9 (Qy.bud (FB (GA (AH l1 (AE x12) default)) m) (DM x2 0 200)) (Md.d m))))) (cond (decide (AG (vaa (D9 (Qy.bud (FB (GA (AH l1 (AE x12) default)) m) (DM x2 0 200)) (Md.d m)) 0 (AE (DM (AA AB (x3*7)) 0 (AA AB (ic (AG (D9 (Qy.bud (FB (GA (AH l1 (AE x12) default)) m) (DM x2 0 200)) (Md.d m))) - 1))))++strOfNums (A2 IV.toInt [IV.int x4]))+AG (vaa (D9 (Qy.bud (FB (GA (AH l1 (AE x12) default)) m) (DM x2 0 200)) (Md.d m)) (AE (AA AB (DM (AA AB (x3*7)) 0 (AA AB (ic (AG (D9 (Qy.bud (FB (GA (AH l1 (AE x12) default)) m) (DM x2 0 200)) (Md.d m))) - 1))+1))) (AG (D9 (Qy.bud (FB (GA (AH l1 (AE x12) default)) m) (DM x2 0 200)) (Md.d m))))≤strMax)) (cond (decide ((n11+1)*16≤EE)) (again (PM m l1 x2 x3 x4 (n11+1) (AA AB (x12+1)) (AK n11 lo68++[IV.str (vaa (D9 (Qy.bud (FB (GA (AH l1 (AE x12) default)) m) (DM x2 0 200)) (Md.d m)) 0 (AE (DM (AA AB (x3*7)) 0 (AA AB (ic (AG (D9 (Qy.bud (FB (GA (AH l1 (AE x12) default)) m) (DM x2 0 200)) (Md.d m))) - 1))))++strOfNums (A2 IV.toInt [IV.int x4])++vaa (D9 (Qy.bud (FB (GA (AH l1 (AE x12) default)) m) (DM x2 0 200)) (Md.d m)) (AE (AA AB (DM (AA AB (x3*7)) 0 (AA AB (ic (AG (D9 (Qy.bud (FB (GA (AH l1 (AE x12) default)) m) (DM x2 0 200)) (Md.d m))) - 1))+1))) (AG (D9 (Qy.bud (FB (GA (AH l1 (AE x12) default)) m) (DM x2 0 200)) (Md.d m))))]))) none) none) none) none) none)) (cond (decide ((n11+1)*16≤EE)) (again (PM m l1 x2 x3 x4 (n11+1) (AA AB (x12+1)) (AK n11 lo68++[IV.str (D9 (Qy.bud (FB (GA (AH l1 (AE x12) default)) m) (DM x2 0 200)) (Md.d m))]))) none)) (cond (decide ((n11+1)*16≤EE)) (again (PM m l1 x2 x3 x4 (n11+1) (AA AB (x12+1)) (AK n11 lo68++[IV.str (D9 (Qy.bud (FB (GA (AH l1 (AE x12) default)) m) (DM x2 0 200)) (Md.d m))]))) none)) none) none) (k (.exit 0) (PM m l1 x2 x3 x4 n11 x12 lo68))) (k (.exit 0) (PM m l1 x2 x3 x4 n11 x12 lo68))):=by kernel_rfl
theorem Xn (N:Nat) (m:Md) (l1:LI) (x2 x3 x4:Int) (n11:Nat) (x12:Int) (lo68:LI):(DQ 0 (DS (TX N) (DK WV [1,1,1]) (DT (TX N) none [.tmp 10] [[.list false [.str]]]))) (.exit 0) (PM m l1 x2 x3 x4 n11 x12 lo68)=(some ((.list false [.str] (AS 0 (AK n11 lo68))),[])):=by kernel_rfl
open Go Go.Proofs
theorem Gr (N:Nat) (m:Md) (hm:NI m=true) (l:LI) (z w:Int) (K:Out→St→DO) (hx:∀ n x O,K (.exit 0) (PM m l z (-1) w n x O)=some (.list false [.str] (AS 0 (AK n O)),[])) :
  ∀ (d i n:Nat) (O:LI),i+d=5→d < n→O.length=i →
   DY (TX N) (DK WV [1,1,0,1,0,0]) ⟨[1,2,3,4,5,10,11,12],[5,68],[⟨(.tmp 11),68,9,false,[.str]⟩]⟩ n (PM m l z (-1) w O.length (i:Int) O) K =
    some (.list false [.str] (O++(J2 m ((l.take 5).drop i) (DM z 0 200)).map fun q=>.str (D9 q m.d)),[])
 | d,i,n+1,O,hd,hn,hO=>by
  have hw:=RY z 0 200 (by omega) (by omega) (by omega);have hdone:∀ y,K (.exit 0) (PM m l z (-1) w O.length y O)=some (.list false [.str] (O++(J2 m [] (DM z 0 200)).map fun q=>.str (D9 q m.d)),[]):=fun y=>by
   rw [hx,BY,BO];simp [J2]
  rw [D4,zis];by_cases hi:i < l.length
  ·by_cases hk:i < 5
   ·obtain ⟨d,rfl⟩:∃ e,d=e+1:=⟨d - 1,by omega⟩;rw [G8 hi,H7,H6 hi,AD (show ((i:Nat):Int) < 5 by omega),hm,HC (by omega)];rw [tN hi hk,rJ];generalize (FB (GA l[i]) m).bud (DM z 0 200)=q;rw [show (((i:Nat):Int) == -1)=false from A4.2 (by omega)];rw [AD (show (O.length+1)*16≤EE by unfold EE; omega),BO];simp only [DI,DJ,B2];have ih:=Gr N m hm l z w K hx d (i+1) n (O++[.str (D9 q m.d)]) (by omega) (by omega) (by simp; omega);rw [AT,vaI] at ih;exact ih
   ·rw [G8 hi,AL (show ¬ ((i:Nat):Int) < 5 by omega),DI,DJ,aA (by omega)];exact hdone _
  ·rw [I2 (by omega),DJ,aA (by omega)];exact hdone _
 | _,_,0,_,_,h,_=>by omega
theorem zho:DX PR B0 33 bW:=by
 refine D6 [(18,R8),(17,MG),(16,SG),(15,SH)] [(3,⟨[1,2,3,4,5,10,11,12],[5,68],[⟨.tmp 11,68,9,false,[.str]⟩]⟩)] bW [[.list false [.str]]] Tryz.func33 zaJ ⟨sM,Z5,sK,sL,trivial⟩ ?_;intro vs r hwf h;unfold bW at h;split at h
 ·rename_i m l z a w;replace h:=J7 h;obtain ⟨m,rfl,h⟩:=h;cases hg:(NI m&&a == -1) with
  | false=>rw [hg] at h; simp [R.get] at h
  | true=>
  rw [hg,R.get_br,DI,R.get_ok] at h;rw [AI] at hg;obtain rfl:a = -1:=by simpa using hg.2
  refine ⟨6,(zdy 6 m l z (-1) w).trans ?_⟩;refine (Gr 6 m hg.1 l z w _ (fun n x O=>Xn 6 m l z (-1) w n x O) 5 0 6 [] rfl (by omega) rfl).trans ?_;rw [BY,C4];exact h
 ·simp [R.get] at h
def WY:BA→LI→BA
 | s,[]=>s
 | s,x :: r=>WY (s++x.toStr++EP) r
theorem nC (d:Int):∀ (Q:List Qy) (s:BA),WY s (Q.map fun q=>IV.str (D9 q d))=G0 d s Q
 | [],_=>rfl
 | q :: Q,s=>by rw [A0,WY,G0,← nC d Q]; rfl
theorem Hk {l:LI} {i:Nat} (h:i < l.length):AA AB (AA AB (ic l.length - 1) - (i:Int))=((l.length - 1 - i:Nat):Int)∨¬ l.length≤1000:=by
 by_cases hl:l.length≤1000
 ·left;rw [show AA AB (ic l.length - 1)=ic l.length - 1 from EH (by simp only [ic]; omega) (by simp only [ic]; omega)];rw [show ic l.length - 1 - (i:Int)=((l.length - 1 - i:Nat):Int) by simp only [ic]; omega];exact EH (by omega) (by omega)
 ·exact .inr hl
theorem Ex (N:Nat) (f:Ft) (l:LI) (hl:l.length≤5) (hs:∀ x∈l,x.toStr.size≤2000) (T:BA→BA→DO) (K:Out→St→DO) (hx:∀ s9 s10 x y,K (.exit 0) (VR f false l s9 s10 x y)=T s9 s10) :
  ∀ (d i n:Nat) (s9 s10:BA),i+d=l.length→d < n→s9.size≤2001*i→s10.size≤2001*i →
   DY (MF N) (DK OS [1,1,1,1,0,1,0,0]) ⟨[6,7,8,9,10,23,24],[7],[]⟩ n (VR f false l s9 s10 (ic l.length) (i:Int)) K =
    T (WY s9 (l.drop i)) (WY s10 (l.reverse.drop i))
 | 0,i,n+1,s9,s10,hd,_,_,_=>by
  rw [D4,Lt,I2 (by omega),DJ,CD (by omega),CD (by rw [vae]; omega)];exact hx _ _ _ _
 | d+1,i,n+1,s9,s10,hd,hn,h9,h10=>by
  have hi:i < l.length:=by omega
  have hri:i < l.reverse.length:=by rw [vae]; exact hi
  have hj:l.length - 1 - i < l.length:=by omega
  have hr:=(Hk hi).resolve_right (by omega);have z1:=hs _ (CX hi);have z2:=hs _ (CX hj);have e1:EP.size=1:=rfl;have erv:l.reverse[i]=l[l.length - 1 - i]:=List.getElem_reverse hri;rw [D4,Lt,hr,G8 hi,G8 hj,H7,H7,H6 hi,H6 hj,HC (by omega),BE hi,BE hri,erv,WY,WY];generalize l[i]=a at z1 ⊢;generalize l[l.length - 1 - i]=b at z2 ⊢;rw [AD (show s9.size+a.toStr.size≤strMax by unfold strMax; omega)];rw [AD (show (s9++a.toStr).size+AG { data:=#[10] }≤strMax by rw [AU]; unfold strMax; show _+EP.size≤_; omega)];rw [AD (show s10.size+b.toStr.size≤strMax by unfold strMax; omega)];rw [AD (show (s10++b.toStr).size+AG { data:=#[10] }≤strMax by rw [AU]; unfold strMax; show _+EP.size≤_; omega)];simp only [DI,B2];exact Ex N f l hl hs T K hx d (i+1) n (s9++a.toStr++EP) (s10++b.toStr++EP) (by omega) (by omega) (by rw [AU,AU]; omega) (by rw [AU,AU]; omega)
 | 0,_,0,_,_,_,h,_,_=>by omega
 | _+1,_,0,_,_,_,h,_,_=>by omega
theorem Ey (N:Nat) (f:Ft) (l:LI) (hl:l.length≤5) (hs:∀ x∈l,x.toStr.size≤2000) (s13:BA) (T:BA→DO) (K:Out→St→DO) (hx:∀ s14 x y,K (.exit 2) (TP f false l s13 s14 x y)=T s14) :
  ∀ (d i n:Nat) (s14:BA),i+d=l.length→d < n→s14.size≤4000028*i →
   DY (MF N) (DK OS [1,1,1,1,1,1,1,1,0,1,0,0]) ⟨[6,7,8,13,14,60,61],[7],[]⟩ n (TP f false l s13 s14 (ic l.length) (i:Int)) K =
    T (aF s14 i ((l.reverse.drop i).map fun x=>HO f.M x.toStr))
 | 0,i,n+1,s14,hd,_,_=>by
  rw [D4,Lu,AL (show ¬ ((i:Nat):Int) < ic l.length by simp only [ic]; omega),DJ,CD (by rw [vae]; omega)];exact hx _ _ _
 | d+1,i,n+1,s14,hd,hn,h14=>by
  have hi:i < l.length:=by omega
  have hri:i < l.reverse.length:=by rw [vae]; exact hi
  have hj:l.length - 1 - i < l.length:=by omega
  have hr:=(Hk hi).resolve_right (by omega);have z2:=hs _ (CX hj);have erv:l.reverse[i]=l[l.length - 1 - i]:=List.getElem_reverse hri;rw [D4,Lu,hr,AD (show ((i:Nat):Int) < ic l.length by simp only [ic]; omega),G8 hj,H7,H6 hj,HC (by omega),BE hri,erv,A0 (f:=fun x:IV=>HO f.M x.toStr),aF];generalize l[l.length - 1 - i]=b at z2 ⊢;have hv:=qZ (uX f.M b.toStr).2;have hh:=Bb i (by omega);have ed:=Vv (show i < 10 by omega) s14;have e1:EP.size=1:=rfl;have e6:MC.size=6:=rfl;have hsz:(s14++MC++N1 (i:Int)++EP).size=s14.size+(G7 i).size:=by rw [ed,AU]
  have hsz2:s14.size+MC.size+(N1 (i:Int)).size+EP.size=s14.size+(G7 i).size:=by rw [← hsz]; simp only [AU]
  rw [AD (show s14.size+AG { data:=#[113,117,101,114,121,32] }≤strMax by unfold strMax; show _+MC.size≤_; omega)];rw [AD (show (s14++MC).size+(N1 (i:Int)).size≤strMax by rw [AU]; unfold strMax; omega)];rw [AD (show (s14++MC++N1 (i:Int)).size+EP.size≤strMax by rw [AU,AU]; unfold strMax; omega)];rw [AD (show b.toStr.size < 4294967281 by omega),AD (show (EL (HO f.M b.toStr)).size≤strMax by unfold strMax; omega)];rw [AD (show (s14++MC++N1 (i:Int)++EP).size+(EL (HO f.M b.toStr)).size≤strMax by rw [hsz]; unfold strMax; omega)];simp only [DI,B2];have ih:=Ey N f l hl hs s13 T K hx d (i+1) n (s14++G7 i++EL (HO f.M b.toStr)) (by omega) (by omega) (by rw [AU,AU]; omega);rw [← ih];show DY _ _ _ n (TP f false l s13 (s14++MC++N1 (i:Int)++EP++EL (HO f.M b.toStr)) (ic l.length) _) K=_;rw [ed]
 | 0,_,0,_,_,h,_=>by omega
 | _+1,_,0,_,_,h,_=>by omega
theorem zbU {i:Nat} (h:i < 10):(G7 i).size=8:=by
 have:(vau 10).all (fun i=>(G7 i).size==8)=true:=by kernel_rfl
 have:=CR.1 this i (vaR.2 h)
 simpa using this
theorem tZ:∀ (vs:List Vd) (i:Nat),i+vs.length≤10→(IZ i vs).size=8*vs.length+(vs.map fun v=>(EL v).size).sum
 | [],_,_=>rfl
 | v :: r,i,h=>by
  have ih:=tZ r (i+1) (by simp only [AM] at h; omega);have h8:=zbU (i:=i) (by simp only [AM] at h; omega);unfold IZ;rw [AU,AU,ih,h8,A0,va3,AM];omega
theorem zhm:DX PR B0 9 mL:=by
 refine D6 [(24,SC),(6,bV),(33,bW),(32,WA),(22,PQ),(20,NW),(16,SG),(15,SH)] [(5,⟨[6,7,8,9,10,23,24],[7],[]⟩),(14,⟨[6,7,8,13,14,60,61],[7],[]⟩)] mL [[.bool]] Tryz.func9 zaH ⟨sR,zhn,zho,Jk,lF,gH,sK,sL,trivial⟩ ?_;intro vs r hwf h;unfold mL at h;split at h
 ·rename_i f xs z;replace h:=l9 h;obtain ⟨f,rfl,h⟩:=h;rw [R.get_ok] at h;refine ⟨6,(zdw 6 f xs z).trans ?_⟩;rw [← h];have hw:=RY z 0 200 (by omega) (by omega) (by omega);rw [T1,show (true&&(-1:Int) == -1)=true from rfl,DI];have hsit:=Gq f (xs.take 5) hw.1 (show DM z 0 200≤65536 by omega);have hsm:=rL (T1 f) (xs.take 5) hw.1 (show DM z 0 200≤65536 by omega);have hql:(J2 f.M (xs.take 5) (DM z 0 200)).length≤5:=by rw [rK,BB]; omega
  generalize J2 f.M (xs.take 5) (DM z 0 200)=Q at hsit hsm hql ⊢;have hll:(Q.map fun q=>IV.str (D9 q f.M.d)).length≤5:=by rw [BG]; exact hql
  have hls:∀ x∈Q.map fun q=>IV.str (D9 q f.M.d),x.toStr.size≤2000:=fun x hx=>by
   obtain ⟨q,hq,rfl⟩:=CI.1 hx;exact hsm q hq
  refine (Ex 6 f _ hll hls _ _ (fun s9 s10 x y=>Xl 6 f false _ s9 s10 x y) _ 0 6 EB EB (BI _) (by omega) (AZ _) (AZ _)).trans ?_;rw [BY,BY];have hrev:(Q.map fun q=>IV.str (D9 q f.M.d)).reverse=Q.reverse.map fun q=>IV.str (D9 q f.M.d):=List.map_reverse.symm
  rw [hrev,nC,nC];have hM:=g6 f;have hW:YD f.M:=Dg _ _ _ _;have hps:=rD hM;have hsitR:∀ q∈Q.reverse,Sits f.M q:=fun q hq=>hsit q (List.mem_reverse.1 hq)
  have hqz:=fW f.M.d Q EB hsm;have hqz2:=fW f.M.d Q.reverse EB (fun q hq=>hsm q (List.mem_reverse.1 hq));rw [vae] at hqz2;have e0:EB.size=0:=rfl;have hz:=k7 (FH f.M) (G0 f.M.d EB Q) (by rw [kU]; omega);have hz2:=k7 (FH f.M) (G0 f.M.d EB Q.reverse) (by rw [kU,vae]; omega);have hr1:=Hs hM hW hsit;have hr2:=Hs hM hW hsitR;have hsame:(G1 (FH f.M) (G0 f.M.d EB Q)).size=(G1 (FH f.M) (G0 f.M.d EB Q.reverse)).size:=by
   rw [hr1,hr2,tZ _ _ (by rw [BG]; omega),tZ _ _ (by rw [BG,vae]; omega)];simp only [BG,vae,List.map_reverse,List.sum_reverse]
  rw [AD (show (FH f.M).size < 4294967281 by omega),AD (show (G0 f.M.d EB Q).size < 4294967281 by omega),AD (show (G0 f.M.d EB Q.reverse).size < 4294967281 by omega),AD (show (G1 (FH f.M) (G0 f.M.d EB Q)).size≤strMax by unfold strMax; omega),AD (show (G1 (FH f.M) (G0 f.M.d EB Q.reverse)).size≤strMax by unfold strMax; omega),hsame];simp only [B4,DI,bne_self_eq_false,DJ];refine (Ey 6 f _ hll hls _ _ _ (fun s14 x y=>Xm 6 f false _ _ s14 x y) _ 0 6 EB (BI _) (by omega) (AZ _)).trans ?_;rw [BY,hrev,zjh,hr2,vaJ]
  have:Q.reverse.map ((fun x:IV=>HO f.M x.toStr) ∘ fun q=>IV.str (D9 q f.M.d))=Q.reverse.map (E8 f.M):=List.map_congr_left fun q hq=>uW (hsitR q hq)
  rw [this,DA];rfl
 ·simp [R.get] at h
end Go.FM
