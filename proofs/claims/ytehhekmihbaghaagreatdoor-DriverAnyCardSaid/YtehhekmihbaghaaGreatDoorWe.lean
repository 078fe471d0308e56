/-
  A small machine that reckons what a call comes to; the functions of the program, one by one. (check's FUNCTIONS COME TO WHAT IS SAID (1): Sums, shown, Pro, NORMAL FORMS: what the functions' runs come to (written by a, cert's FUNCTIONS COME TO WHAT IS SAID (1): steps, Right, lin, and so on.)
-/
import Derived.Test.YtehhekmihbaghaaGreatDoorWd
import Derived.Lib.LaidU8
import Derived.OpenShut
import Derived.ProofKit
import Derived.LaidMore
import Derived.Test.YtehhekmihbaghaaGreatDoorTie
import Derived.Test.YtehhekmihbaghaaGreatDoorCards
import Derived.Deep.DeepWitnessRowRef
set_option linter.all false
set_option maxRecDepth 100000
open Array renaming length_toList→CR,getElem?_eq_some_iff→C9
open Bool renaming and_eq_true→AH,not_true→A2,not_false→BB,true_and→BH,false_and→BV,not_eq_true'→BY,and_self→B1,and_true→CE,or_eq_false_iff→van,and_false→vau,or_eq_true→vax,false_or→vaB
open ByteArray renaming size→AF,size_append→AP,toList→A3,extract→BP,empty→CH,append_assoc→C3,size_push→vaW
open Go.DataW renaming weights→vbs,weightsEach→vbF
open Go.IntKind renaming wrap→AA,i64→AB,u8→vbx
open Go.Lib renaming split→vbd
open Go.Lib.laidMet renaming reads→vbo
open Go.ResultVar renaming tmp→CA,cell→vbi
open Go.World renaming cell?→vaF
open Int renaming toNat→AD,toNat_natCast→BD
open List renaming length→AG,getD→AI,take→AK,length_cons→AN,drop→AR,mem_cons_self→AT,mem_cons→AU,mem_append→AV,length_append→AW,mem_cons_of_mem→AX,map_cons→AZ,map→A5,getElem?_eq_getElem→A6,length_nil→A7,length_take→A8,drop_eq_getElem_cons→A9,getElem?_cons_zero→BK,getElem?_eq_none→BM,getElem?_eq_some_iff→BN,take_length→BS,mem_singleton→BU,drop_zero→B4,getElem?_map→B5,length_map→B7,map_nil→CB,not_mem_nil→CL,drop_of_length_le→CN,all_eq_true→CP,take_of_length_le→CV,getElem_mem→CX,mem_map→CY,length_drop→C7,cons_append→vaa,length_singleton→vae,getElem?_append→vaf,mem_of_getElem?→vag,append_nil→vak,drop_length→vas,range→vav,length_set→vay,mem_range→vaH,mem_map_of_mem→vaK,all_cons→vaU,mem_of_mem_drop→va1,mem_of_mem_take→va2,nil_append→vba,append_assoc→vbj
open List.cons renaming injEq→vaV
open Nat renaming le_of_ble_eq_true→AM,le_refl→AY,zero_add→BF,beq→BI,blt→BJ,ble→BW,zero_le→BZ,le_trans→CZ,eq_of_beq_eq_true→vaj
open Option renaming map_eq_some_iff→C8
open Option.some renaming injEq→AC,inj→CS
open Prod.mk renaming injEq→AS
namespace Go.FM
open Go Go.Proofs
theorem iJ (N:Nat) (ts:LI) (b:Bx) (k:Int) (hts:ts.length≤8) (hT:∀ t∈ts,GC (E3 t) 4=true) (hb:FL b=true):∀ (m i n:Nat) (lo hi:Int),i+m=ts.length→m < n→(-2147483648*(i+1)≤lo∧lo≤2147483648*(i+1))→(-2147483648*(i+1)≤hi∧hi≤2147483648*(i+1)) →
  DT (GE N) (DE HY [1,1,1,0,1,0,0]) ⟨[1,5,6,7,8,9,40,41,42],[5],[]⟩ n ⟨[(1,(.int .i64 k)),(5,(.ptr 5 0 0)),(6,(.int .i64 0)),(7,(.int .i64 0)),(8,(.int .i64 lo)),(9,(.int .i64 hi)),(40,(.list true LA ts)),(41,(.int .i64 (ic ts.length))),(42,(.int .i64 (i:Int)))],[(5,(some (.box (Bx.cs b))))]⟩ (DK 0 (DM (GE N) (DE HY [1,1,1,1]) (DP (GE N) none [(CA 6),(CA 7)] [[.z],[.z]]))) =
   some (.tup [.int .i64 (IB (fun l=>HL l b) k (ts.drop i) lo),.int .i64 (IB (fun l=>HK l b) k (ts.drop i) hi)],[])
 | m,i,0,_,_,_,h,_,_=>absurd h (by omega)
 | 0,i,n+1,lo,hi,hd,_,_,_=>by
  have hlt:i=ts.length:=by omega
  subst hlt;rw [D2,Ce,JC (AY _),DD,vas];exact Mq N b _ _ _ _ _ _ _ _
 | m+1,i,n+1,lo,hi,hd,hn,h1,h2=>by
  have hlt:i < ts.length:=by omega
  have ei:AA AB ((i:Int)+1)=((i+1:Nat):Int):=HJ (by omega);rw [D2,Ce,ei,IN hlt,DC,I0,B1,DC,JB hlt,A9 hlt,IB,IB];obtain ⟨q1,q2⟩:=fY (E3 ts[i]) b;have q1:=LV q1;have q2:=LV q2;have hti:GC (IV.toList (IV.cell ts[i] 1)) 4=true:=hT _ (CX hlt);cases ((ts[i].cell 0).toInt==k) with
  | true=>
   rw [DC,DC,DC,hti,hb,B1,DC];have ew:AA AB (lo+HL (E3 ts[i]) b)=lo+HL (E3 ts[i]) b:=EC (by omega) (by omega);have ew2:AA AB (hi+HK (E3 ts[i]) b)=hi+HK (E3 ts[i]) b:=EC (by omega) (by omega);have ih:=iJ N ts b k hts hT hb m (i+1) n (lo+HL (E3 ts[i]) b) (hi+HK (E3 ts[i]) b) (by omega) (by omega) (by omega) (by omega);rw [← ew,← ew2] at ih;refine Eq.trans ih ?_;rw [ew,ew2]
  | false=>
   rw [DD,DD,DD];exact iJ N ts b k hts hT hb m (i+1) n lo hi (by omega) (by omega) (by omega) (by omega)
theorem zcb:DQ PR B0 113 XY:=by
 refine D1 [(112,J0),(158,XZ),(53,K3)] [(5,⟨[1,5,6,7,8,9,40,41,42],[5],[]⟩)] XY [[.z],[.z]] Tryz.func113 Qf ⟨UR,zcc,WV,trivial⟩ ?_;intro vs r hwf h;unfold XY at h;split at h
 ·rename_i m k b;replace h:=JK h;obtain ⟨m,rfl,h⟩:=h;replace h:=IS h;obtain ⟨b,rfl,h⟩:=h;cases hg:(b.emp||FL b) with
  | false=>rw [hg] at h; simp [R.get] at h
  | true=>
  rw [hg,R.get_br,DC,R.get_ok] at h;refine ⟨10,?_⟩;rw [← h];refine (Wp 10 m k b).trans ?_;unfold D0 DV GL;cases hm:EQ m with
  | false=>rfl
  | true=>
   rw [A2,DD];cases h0:decide (k < 0) with
   | true=>
    have:HO m k=false:=by unfold HO; rw [AL (show ¬ 0≤k by have:=A1 h0; omega)]; rfl
    rw [this];rfl
   | false=>
    rw [DD];cases h1:decide (k≥m.c) with
    | true=>
     have:HO m k=false:=by unfold HO; rw [AL (show ¬ k < m.c by have:=A1 h1; omega),vau]
     rw [this];rfl
    | false=>
     have hc:HO m k=true:=by unfold HO; rw [AE (show 0≤k by have:=BE h0; omega),AE (show k < m.c by have:=BE h1; omega)]; rfl
     rw [DD,hc];cases he:b.emp with
     | true=>rfl
     | false=>
      rw [he,vaB] at hg;have hb:=cP hm k;have run:=iJ 10 m.ts b k (KS hm).2.2.1 (fun t ht=>WZ hm ht) hg m.ts.length 0 10 (KF m k) (KF m k) (by omega) (by have:=(KS hm).2.2.1; omega) (by omega) (by omega);rw [DD];rcases iN hm hc with rfl | rfl | rfl <;> exact run
 ·simp [R.get] at h
theorem mZ (N:Nat) (m:Md) (q:Qy) (b:Bx) (hb:(b.emp||FL b)=true):∀ (d i n:Nat),((i+d:Nat):Int)=m.c→d < n→m.c < 1000 →
  DT (KB N) (DE ME [1,1,1,0,1,0,1,1,1,0,0,1,0,0]) ⟨[3,4,5,6,7,42,43],[3,4,5],[]⟩ n ⟨[(3,(.ptr 3 0 0)),(4,(.ptr 4 0 0)),(5,(.ptr 5 0 0)),(6,(.bool false)),(7,(.int .i64 (D0 m q.c b))),(42,(.int .i64 m.c)),(43,(.int .i64 (i:Int)))],[(3,(some (.box (Md.cs m)))),(4,(some (.box (Qy.cs q)))),(5,(some (.box (Bx.cs b))))]⟩ (DK 1 (DM (KB N) (DE ME [1,1,1,0,1,0,1,1,1,0,1]) (DK 0 (DM (KB N) (DE ME [1,1,1,1]) (DP (KB N) none [(CA 6)] [[.bool]])))))=some (.bool (TS m q b d i),[])
 | d,i,0,_,h,_=>absurd h (by omega)
 | 0,i,n+1,hd,_,_=>by
  rw [D2,Cf,AL (show ¬ (i:Int) < m.c by omega),DD];exact Mr N m q b _ _ _ _
 | d+1,i,n+1,hd,hn,hc=>by
  have ei:AA AB ((i:Int)+1)=((i+1:Nat):Int):=HJ (by omega);rw [D2,Cf,ei,AE (show (i:Int) < m.c by omega),DC,hb,DC,TS];have en:((i:Int) != q.c)=!((i:Int)==q.c):=rfl;rw [en];cases ((i:Int)==q.c) with
  | true=>
   rw [A2,DD,BV,DD];exact mZ N m q b hb d (i+1) n (by omega) (by omega) hc
  | false=>
   rw [BB,DC,BH];cases decide (DV m (i:Int) b≥D0 m q.c b) with
   | true=>
    rw [DC,DC];exact Ms N m q b _ _ _ _
   | false=>
    rw [DD,DD];exact mZ N m q b hb d (i+1) n (by omega) (by omega) hc
theorem zcd:DQ PR B0 68 X1:=by
 refine D1 [(112,J0),(113,XY)] [(9,⟨[3,4,5,6,7,42,43],[3,4,5],[]⟩)] X1 [[.bool]] Tryz.func68 Qh ⟨UR,zcb,trivial⟩ ?_;intro vs r hwf h;unfold X1 at h;split at h
 ·rename_i m q b;replace h:=JK h;obtain ⟨m,rfl,h⟩:=h;replace h:=JL h;obtain ⟨q,rfl,h⟩:=h;replace h:=IS h;obtain ⟨b,rfl,h⟩:=h;cases hg:(E6 m q&&(b.emp||FL b)) with
  | false=>rw [hg] at h; simp [R.get] at h
  | true=>
  rw [hg,R.get_br,DC,R.get_ok] at h;rw [AH] at hg;obtain ⟨hr,hb⟩:=hg;have hb':b.emp=true∨b.good:=by
   rw [vax] at hb;exact hb.imp id V4.1
  refine ⟨1000,?_⟩;rw [← h,← zbQ hr hb'];refine (Wq 1000 m q b).trans ?_;obtain ⟨hm,_,_,_,hk⟩:=WR hr;unfold mY;cases he:b.emp with
  | true=>rfl
  | false=>
   have hgd:FL b=true:=by rw [he,vaB] at hb; exact hb
   rw [DD,DD,hgd,vaB,DC];rcases dY hk with ⟨e,_⟩ | ⟨e,h2,_⟩ | ⟨e,hf,_⟩
   ·rw [e];show cond (decide (q.lo≤D0 m q.c b)) (some (V.bool (decide (DV m q.c b≤q.hi)),[])) (some (V.bool false,[]))=some (V.bool (decide (q.lo≤D0 m q.c b)&&decide (DV m q.c b≤q.hi)),[]);cases decide (q.lo≤D0 m q.c b) <;> rfl
   ·rw [e];have hc:=(KS hm).2.1;exact mZ 1000 m q b (by rw [he,hgd]; rfl) m.c.toNat 0 1000 (by omega) (by omega) (by omega)
   ·rw [e];have hp:=lS hm e hf;have hg2:FL (JV q b)=true:=V4.2 (RZ (V4.1 hgd) ((V4.1 hgd) 4 (by omega)) (by rcases PC hp with e | e | e | e <;> rw [e] <;> decide));have fin:(cond (decide ((b.g q.ft.toNat).lo≥b.s4.hi)) (some (V.bool true,[])) (cond ((JV q b).emp||FL (JV q b)) (cond q.fl (some (V.bool (decide (DV m q.c (JV q b)≤D0 m q.c b)),[])) (some (V.bool (decide (D0 m q.c (JV q b)≥DV m q.c b)),[]))) none):DH) =
      some (V.bool (cond (decide ((b.g q.ft.toNat).lo≥b.s4.hi)) true (cond q.fl (decide (DV m q.c (JV q b)≤D0 m q.c b)) (decide (D0 m q.c (JV q b)≥DV m q.c b)))),[]):=by
     rw [hg2,Bool.or_true,DC];cases decide ((b.g q.ft.toNat).lo≥b.s4.hi) <;> cases q.fl <;> rfl
    refine Eq.trans ?_ fin;unfold JV;rcases PC hp with e | e | e | e <;> rw [e] <;> rfl
 ·simp [R.get] at h
theorem yG (N:Nat) (m:Md) (q:Qy) (hr:E6 m q=true) (l:LI) (hl:l.length < 100000) (hg:∀ y∈l,(DW y).good):∀ (d i n:Nat),i+d=l.length→d < n →
  DT (IT N) (DE KI [1,1,1,0,1,0,1,0,1,0,1,0,0]) ⟨[3,4,6,9,29,30,31],[3,4],[]⟩ n ⟨[(3,(.ptr 3 0 0)),(4,(.ptr 4 0 0)),(6,(.bool false)),(9,(.bool true)),(29,(.list true EV l)),(30,(.int .i64 (ic l.length))),(31,(.int .i64 (i:Int)))],[(3,(some (.box (Md.cs m)))),(4,(some (.box (Qy.cs q))))]⟩ (DK 1 (DM (IT N) (DE KI [1,1,1,0,1,0,1,0,1,1]) (DK 0 (DM (IT N) (DE KI [1,1,1,1]) (DP (IT N) none [(CA 6)] [[.bool]]))))) =
   some (.bool ((l.drop i).all fun x=>GG m q (DW x)),[])
 | d,i,0,_,h=>absurd h (by omega)
 | 0,i,n+1,hd,_=>by
  rw [D2,nK,JC (by omega),DD,CN (by omega)];exact tX N m q _ _ l _ _
 | d+1,i,n+1,hd,hn=>by
  have hi:i < l.length:=by omega
  have hgi:=hg _ (CX hi);rw [D2,nK,IN hi,DC,I0,B1,DC,HJ (by omega),JB hi,A9 hi,vaU,hr,V4.2 hgi,Bool.or_true,B1,DC];cases GG m q (DW l[i]) with
  | false=>
   rw [BB,DC];exact Mp N m q _ _ l _ _
  | true=>
   rw [A2,DD,BH];exact yG N m q hr l hl hg d (i+1) n (by omega) (by omega)
theorem za5 {b:Bx} {l outs:LI} (h:LD b l=some outs):outs.length≤65536:=by
 have key:∀ {l:LI} {st lo:LI × LI},IE l st=some lo→lo.2.length≤st.2.length+l.length:=by
  intro l
  induction l with
  | nil=>intro st lo h; obtain rfl:=CS h; exact AY _
  | cons x l ih=>
   intro st lo h;rw [IE] at h;cases h1:MM st x with
   | none=>rw [h1] at h; cases h
   | some s1=>
    rw [h1] at h
    have:=ih h
    have h2:s1.2.length≤st.2.length+1:=by
     unfold MM at h1;cases hs:HT x with
     | true=>rw [hs] at h1; obtain rfl:=CS h1; simp
     | false=>
      rw [hs,DD] at h1;cases hc:(decide (FY x < ((DR st.1).g (FA x).toNat).lo)||decide (FY x≥((DR st.1).g (FA x).toNat).hi)) with
      | true=>rw [hc] at h1; cases h1
      | false=>rw [hc] at h1; obtain rfl:=CS h1; exact Nat.le_succ _
    simp only [AN];omega
 unfold LD at h;cases hd:decide (MH l > 0) with
 | false=>rw [hd,DD] at h; cases h
 | true=>
  rw [hd,DC] at h;have hl:l.length≤65536:=by
   have:=A1 hd
   unfold MH at this;by_cases hc:ic l.length > 65536
   ·rw [AE hc,DC] at this; omega
   ·simp only [ic] at hc; omega
  cases hp:IE l ([b.I],[]) with
  | none=>rw [hp] at h; cases h
  | some lo=>
   rw [hp] at h;obtain rfl:=CS h
   have:=key hp
   simp only [A7] at this;show lo.2.length≤65536;omega
theorem zca:DQ PR B0 26 XX:=by
 refine D1 [(69,XS),(68,X1),(67,YT),(70,TA),(65,MB),(66,TB)] [(8,⟨[3,4,6,9,29,30,31],[3,4],[]⟩)] XX [[.bool]] Tryz.func26 Qe ⟨zb5,zcd,zcL,Al,bD,Am,trivial⟩ ?_;intro vs r hwf h;unfold XX at h;split at h
 ·rename_i m q v;replace h:=JK h;obtain ⟨m,rfl,h⟩:=h;replace h:=JL h;obtain ⟨q,rfl,h⟩:=h;replace h:=zdU h;obtain ⟨v,rfl,h⟩:=h;rw [R.get_ok] at h;refine ⟨70000,?_⟩;rw [← h];refine (Wo 70000 m q v).trans ?_;unfold WM;cases hr:E6 m q with
  | false=>rfl
  | true=>
   rw [A2,DD,BH];cases v.kind==1 with
   | true=>
    rw [DC,DC];cases hp:LD (GW q) v.proof with
    | none=>
     show cond false _ _=_;rw [DD,D2,nK];exact tX 70000 m q _ _ [] _ _
    | some l=>
     show cond true _ _=_;rw [DC];have hl:=za5 hp
     have:=yG 70000 m q hr l (by omega) (za4 (nN hr) hp) l.length 0 70000 (by omega) (by omega)
     rw [B4] at this;exact this
   | false=>
    rw [DD,DD];cases v.kind==2 with
    | false=>rfl
    | true=>
     rw [DC,DC];show cond ((GW q).has v.p v.twin) (some (V.bool (G0 m q v.p v.twin),[])) (some (V.bool false,[]))=some (V.bool ((GW q).has v.p v.twin&&G0 m q v.p v.twin),[]);cases (GW q).has v.p v.twin <;> rfl
 ·simp [R.get] at h
open Go Go.Proofs
def OM (N:Nat):Env:=DZ [] [(4,⟨[2,13,14,15],[],[]⟩)] 37 N
abbrev MT (b2:Bool) (l13:LI) (x14 x15:Int):St:=⟨[(2,(.bool b2)),(13,(.list true [.bool,.z,.z] l13)),(14,(.i x14)),(15,(.i x15))],[]⟩
theorem Wn (N:Nat) (l:LI):DS (OM N) RD [.tmp 2] [[.bool]] [.list true [.bool,.z,.z] l]=(cond (decide (ic (AG l) < 1)) (some ((.bool false),[])) (cond (decide (ic (AG l) > 65536)) (some ((.bool false),[])) (DT (OM N) (DE RD [1,1,0,1,0,0]) ⟨[2,13,14,15],[],[]⟩ N (MT false l (ic (AG l)) 0) (DK 0 (DM (OM N) (DE RD [1,1,1]) (DP (OM N) none [.tmp 2] [[.bool]])))))):=by kernel_rfl
theorem Cd (N:Nat) (b2:Bool) (l13:LI) (x14 x15:Int) (again:St→DH) (k:Out→St→DH):E4 (OM N) (DE RD [1,1,0,1,0,0]) (MT b2 l13 x14 x15) (EO again ⟨[2,13,14,15],[],[]⟩ k)=(cond (decide (x15 < x14)) (cond (decide (0≤x15)&&decide (x15 < ic (AG l13))) (cond (IV.toBool (IV.cell (AI l13 (AD x15) default) 0)) (cond (! (IV.toBool (IV.cell (AI l13 (AD x15) default) 0)==true&&(IV.toInt (IV.cell (AI l13 (AD x15) default) 1)==0&&(IV.toInt (IV.cell (AI l13 (AD x15) default) 2)==0&&true)))) (k .ret (MT false l13 x14 x15)) (cond (decide (IV.toInt (IV.cell (AI l13 (AD x15) default) 1) < 0)) (k .ret (MT false l13 x14 x15)) (cond (decide (IV.toInt (IV.cell (AI l13 (AD x15) default) 1) > 4)) (k .ret (MT false l13 x14 x15)) (again (MT b2 l13 x14 (AA AB (x15+1))))))) (cond (decide (IV.toInt (IV.cell (AI l13 (AD x15) default) 1) < 0)) (k .ret (MT false l13 x14 x15)) (cond (decide (IV.toInt (IV.cell (AI l13 (AD x15) default) 1) > 4)) (k .ret (MT false l13 x14 x15)) (again (MT b2 l13 x14 (AA AB (x15+1))))))) none) (k (.exit 0) (MT b2 l13 x14 x15))):=by kernel_rfl
theorem Mn (N:Nat) (b2:Bool) (l13:LI) (x14 x15:Int):(DK 0 (DM (OM N) (DE RD [1,1,1]) (DP (OM N) none [.tmp 2] [[.bool]]))) (.exit 0) (MT b2 l13 x14 x15)=(some ((.bool true),[])):=by kernel_rfl
theorem Mo (N:Nat) (b2:Bool) (l13:LI) (x14 x15:Int):(DK 0 (DM (OM N) (DE RD [1,1,1]) (DP (OM N) none [.tmp 2] [[.bool]]))) .ret (MT b2 l13 x14 x15)=(some ((.bool b2),[])):=by kernel_rfl
def Gc (N:Nat):Env:=DZ [(106,XW)] [] 47 N
theorem Wl (N:Nat) (u00:Int) (u01:LI) (u04 u05 u06 u07 u03 u02:Int):DS (Gc N) qI [.tmp 2] [[.bool]] [.agg [.i u00,.list true [.bool,.z,.z] u01,.i u04,.i u05,.i u06,.i u07,.i u03,.i u02]]=(cond (decide (u02 < 0)) (some ((.bool false),[])) (cond (decide (u02 > 65536)) (some ((.bool false),[])) (cond (u04==0&&(u05==0&&(u06==0&&(u07==0&&true)))) (cond (u00==1) (cond (u03==0) (some ((.bool (QO u01)),[])) (some ((.bool false),[]))) (cond (u00==2) (some ((.bool (ic (AG u01)==0)),[])) (cond (u00==3) (cond (u03==0) (some ((.bool (ic (AG u01)==0)),[])) (some ((.bool false),[]))) (cond (u00==4) (cond (u03==0) (some ((.bool (ic (AG u01)==0)),[])) (some ((.bool false),[]))) (some ((.bool false),[])))))) (cond (u00==1) (some ((.bool false),[])) (cond (u00==2) (some ((.bool (ic (AG u01)==0)),[])) (cond (u00==3) (some ((.bool false),[])) (cond (u00==4) (some ((.bool false),[])) (some ((.bool false),[]))))))))):=by kernel_rfl
def Q2 (N:Nat):Env:=DZ [(43,OR),(97,VG),(60,Q6)] [(2,⟨[0,11,12,13],[900000],[]⟩)] 26 N
abbrev XB (l11:LI) (x12 x13:Int) (u00:BA):St:=⟨[(0,(.ptr 900000 0 0)),(11,(.list false [.z] l11)),(12,(.i x12)),(13,(.i x13))],[(900000,(some (.bld u00)))]⟩
theorem Wm (N:Nat) (b word:BA) (l:LI):DS (Q2 N) TU [] [] [.bor [.bld b],.str word,.list false [.z] l]=(cond (decide (AF b+AF word≤strMax)) (DT (Q2 N) (DE TU [1,0,1,0,0]) ⟨[0,11,12,13],[900000],[]⟩ N (XB l (ic (AG l)) 0 (b++word)) (DK 0 (DM (Q2 N) (DE TU [1,1]) (DP (Q2 N) (some [.bld b]) [] [])))) none):=by kernel_rfl
theorem Cc (N:Nat) (l11:LI) (x12 x13:Int) (u00:BA) (again:St→DH) (k:Out→St→DH):E4 (Q2 N) (DE TU [1,0,1,0,0]) (XB l11 x12 x13 u00) (EO again ⟨[0,11,12,13],[900000],[]⟩ k)=(cond (decide (x13 < x12)) (cond (decide (0≤x13)&&decide (x13 < ic (AG l11))) (cond (decide (AF u00+1≤strMax)) (cond (decide (AF (ByteArray.push u00 (LP 32))+AF (DJ (IV.toInt (AI l11 (AD x13) default)))≤strMax)) (again (XB l11 x12 (AA AB (x13+1)) (ByteArray.push u00 (LP 32)++DJ (IV.toInt (AI l11 (AD x13) default))))) none) none) none) (k (.exit 0) (XB l11 x12 x13 u00))):=by kernel_rfl
theorem Mm (N:Nat) (b:BA) (l11:LI) (x12 x13:Int) (u00:BA):(DK 0 (DM (Q2 N) (DE TU [1,1]) (DP (Q2 N) (some [.bld b]) [] []))) (.exit 0) (XB l11 x12 x13 u00)=(cond (decide (AF u00+1≤strMax)) (some ((.tup []),[[.bld (ByteArray.push u00 (LP 10))]])) none):=by kernel_rfl
open Go Go.Proofs
theorem Di (N:Nat) (l:LI) (K:Out→St→DH) (hl:l.length≤65536)
  (hx:∀ b2 x14 x15,K (.exit 0) ⟨[(2,(.bool b2)),(13,(.list true [.bool,.z,.z] l)),(14,(.int .i64 x14)),(15,(.int .i64 x15))],[]⟩=some (.bool true,[]))
  (hr:∀ b2 x14 x15,K .ret ⟨[(2,(.bool b2)),(13,(.list true [.bool,.z,.z] l)),(14,(.int .i64 x14)),(15,(.int .i64 x15))],[]⟩=some (.bool b2,[])) :
  ∀ (d i n:Nat),i+d=l.length→d < n→DT (OM N) (DE RD [1,1,0,1,0,0]) ⟨[2,13,14,15],[],[]⟩ n ⟨[(2,(.bool false)),(13,(.list true [.bool,.z,.z] l)),(14,(.int .i64 (ic l.length))),(15,(.int .i64 (i:Int)))],[]⟩ K=some (.bool ((l.drop i).all WY),[])
 | 0,i,n+1,hd,_=>by
  rw [D2,Cd];rw [JC (by omega),CN (by omega)];simp only [B9,List.all_nil];exact hx ..
 | d+1,i,n+1,hd,hn=>by
  rw [D2,Cd];have hi:i < l.length:=by omega
  rw [IN hi,I0,HJ (by omega),JB hi,A9 hi,vaU];generalize l[i]=x;have ih:=Di N l K hl hx hr d (i+1) n (by omega) (by omega);rw [ih];generalize (AR (i+1) l).all WY=rest;unfold WY HT FA FY;simp only [CO,CE,iY,i6,Q9];cases hs:IV.toBool (IV.cell x 0) <;> cases hp0:decide (IV.toInt (IV.cell x 1) < 0) <;> cases hp4:decide (4 < IV.toInt (IV.cell x 1)) <;> cases hz:decide (IV.toInt (IV.cell x 1)=0) <;> cases ha:decide (IV.toInt (IV.cell x 2)=0) <;>
   (simp only [CO,B9,A2,BB,CE,vau,BH,BV,vaT,hr]
    try rfl)
 | 0,_,0,_,h=>by omega
 | _+1,_,0,_,h=>by omega
theorem zb9:DQ PR B0 106 XW:=by
 refine D1 [] [(4,⟨[2,13,14,15],[],[]⟩)] XW [[.bool]] Tryz.func106 Qd trivial ?_;intro vs r hwf h;unfold XW at h;split at h
 ·rename_i l;refine ⟨l.length+1,?_⟩;rw [← h];refine (Wn (l.length+1) l).trans ?_;simp only [R.get_ok];unfold QO;by_cases h1:l.length < 1
  ·have e1:decide (ic l.length < 1)=true:=AE (by show ((l.length:Nat):Int) < 1; omega);have e2:decide (1≤l.length)=false:=AL (by omega);rw [e1,e2]; rfl
  ·have e1:decide (ic l.length < 1)=false:=AL (by show ¬ ((l.length:Nat):Int) < 1; omega);have e2:decide (1≤l.length)=true:=AE (by omega);rw [e1,e2];simp only [B9,BH];by_cases h3:l.length≤65536
   ·have e3:decide (ic l.length > 65536)=false:=AL (by show ¬ ((l.length:Nat):Int) > 65536; omega);have e4:decide (l.length≤65536)=true:=AE h3;rw [e3,e4];simp only [B9,BH]
    have:=Di (l.length+1) l _ h3 (fun b2 x14 x15=>Mn (l.length+1) b2 l x14 x15) (fun b2 x14 x15=>Mo (l.length+1) b2 l x14 x15) l.length 0 (l.length+1) (by omega) (by omega)
    rw [B4] at this;exact this
   ·have e3:decide (ic l.length > 65536)=true:=AE (by show ((l.length:Nat):Int) > 65536; omega);have e4:decide (l.length≤65536)=false:=AL h3;rw [e3,e4]; rfl
 ·simp [R.get] at h
theorem Uw (l:LI):(ic l.length==0)=l.isEmpty:=by
 cases l with
 | nil=>rfl
 | cons a l=>
  simp only [ic,List.isEmpty_cons,AN];rw [BR];omega
theorem zb7:DQ PR B0 62 XU:=by
 refine D1 [(106,XW)] [] XU [[.bool]] Tryz.func62 Qb ⟨zb9,trivial⟩ ?_;intro vs r hwf h;unfold XU at h;split at h
 ·rename_i k p a b c d t s;refine ⟨0,?_⟩;rw [← h];refine (Wl 0 k p a b c d t s).trans ?_;simp only [R.get_ok,Uw];unfold Vd.right Vd.bare;simp only [iY,i6,CE];generalize QO p=sp;generalize p.isEmpty=pe;cases decide (s < 0) <;> cases decide (65536 < s) <;> simp only [CO,B9,A2,BB,BH,BV]
  by_cases k1:k=1
  ·subst k1;cases a==0 <;> cases b==0 <;> cases c==0 <;> cases d==0 <;> cases t==0 <;> cases sp <;> cases pe <;> rfl
  by_cases k2:k=2
  ·subst k2;cases a==0 <;> cases b==0 <;> cases c==0 <;> cases d==0 <;> cases t==0 <;> cases sp <;> cases pe <;> rfl
  by_cases k3:k=3
  ·subst k3;cases a==0 <;> cases b==0 <;> cases c==0 <;> cases d==0 <;> cases t==0 <;> cases sp <;> cases pe <;> rfl
  by_cases k4:k=4
  ·subst k4;cases a==0 <;> cases b==0 <;> cases c==0 <;> cases d==0 <;> cases t==0 <;> cases sp <;> cases pe <;> rfl
  simp only [BR.2 k1,BR.2 k2,BR.2 k3,BR.2 k4,B9,BV,Bool.or_false,Bool.cond_self]
 ·simp [R.get] at h
theorem eT:∀ (l:LI) (s:BA),s.size≤(NB s l).size
 | [],s=>AY _
 | x :: l,s=>by
  simp only [NB];refine CZ ?_ (eT l _);simp only [AP,vaW];omega
theorem vQ (N:Nat) (l:LI) (K:Out→St→DH) (hl:l.length≤strMax) (z:DH)
  (hx:∀ s x12 x13,s=NB s []→K (.exit 0) ⟨[(0,(.ptr 900000 0 0)),(11,(.list false [.z] l)),(12,(.int .i64 x12)),(13,(.int .i64 x13))],[(900000,(some (.bld s)))]⟩=cond (decide (s.size+1≤strMax)) (some (.tup [],[[.bld (s.push (LP 10))]])) none) :
  ∀ (d i n:Nat) (s:BA),i+d=l.length→d < n→(NB s (l.drop i)).size≤strMax→DT (Q2 N) (DE TU [1,0,1,0,0]) ⟨[0,11,12,13],[900000],[]⟩ n ⟨[(0,(.ptr 900000 0 0)),(11,(.list false [.z] l)),(12,(.int .i64 (ic l.length))),(13,(.int .i64 (i:Int)))],[(900000,(some (.bld s)))]⟩ K =
   cond (decide ((NB s (l.drop i)).size+1≤strMax)) (some (.tup [],[[.bld ((NB s (l.drop i)).push (LP 10))]])) none
 | 0,i,n+1,s,hd,_,_=>by
  rw [D2,Cc,JC (by omega),CN (by omega)];simp only [B9,NB];exact hx s _ _ rfl
 | d+1,i,n+1,s,hd,hn,hs=>by
  have hi:i < l.length:=by omega
  unfold strMax at hl;rw [D2,Cc,IN hi,I0,HJ (by omega),JB hi];rw [A9 hi] at hs ⊢;simp only [NB] at hs ⊢;have e32:LP 32=32:=rfl;rw [e32];have hsz:=eT (l.drop (i+1)) (s.push 32++DJ l[i].toInt);have h1:decide (s.size+1≤strMax)=true:=AE (by
   simp only [AP,vaW] at hsz;omega)
  have h2:decide ((s.push 32).size+(DJ l[i].toInt).size≤strMax)=true:=AE (by
   simp only [AP] at hsz;omega)
  rw [h1,h2];simp only [CO,CE];exact vQ N l K (by unfold strMax; omega) z hx d (i+1) n _ (by omega) (by omega) hs
 | 0,_,0,_,_,h,_=>by omega
 | _+1,_,0,_,_,h,_=>by omega
theorem zb8:DQ PR B0 63 XV:=by
 refine D1 [(43,OR),(97,VG),(60,Q6)] [(2,⟨[0,11,12,13],[900000],[]⟩)] XV [] Tryz.func63 Qc ⟨fO,As,nD,trivial⟩ ?_;intro vs r hwf h;unfold XV at h;split at h
 ·rename_i s w l;refine ⟨l.length+1,?_⟩;rw [← h];refine (Wm (l.length+1) s w l).trans ?_;simp only [R.get_br,R.get_ok,R.get_no];have hwf:=hwf (by simp [KU,FW]);simp only [QT,PL,wfLs,wfL] at hwf;rw [R.get_br,R.get_ok,R.get_no] at h;cases hc:decide ((GH s w l).size≤strMax) with
  | false=>rw [hc] at h; cases h
  | true=>
   have hle:=A1 hc;unfold GH at hle ⊢;rw [vaW] at hle;have h1:=eT l (s++w);have e1:decide (s.size+w.size≤strMax)=true:=AE (by rw [AP] at h1; omega);rw [e1];simp only [CO]
   have:=vQ (l.length+1) l _ hwf.2.2.1.1 none (fun s' x12 x13 _=>Mm (l.length+1) s l x12 x13 s') l.length 0 (l.length+1) (s++w) (by omega) (by omega) (by rw [B4]; omega)
   rw [B4] at this;refine this.trans ?_;rw [AE hle];rfl
 ·simp [R.get] at h
open Go Go.Proofs
def Q1 (N:Nat):Env:=DZ [(62,XU),(63,XV),(56,Q5)] [(9,⟨[2,3,25,26,27],[3],[]⟩)] 61 N
abbrev U7 (s2:BA) (l25:LI) (x26 x27:Int) (so3:BA):St:=⟨[(2,(.str s2)),(3,(.ptr 3 0 0)),(25,(.list true EH l25)),(26,(.i x26)),(27,(.i x27))],[(3,(some (.bld so3)))]⟩
theorem Wk (N:Nat) (v:Vd):DS (Q1 N) TT [.tmp 2] [[.str]] [(Vd.V v)]=(cond (!Vd.right v) (some ((.str ({data:=#[]})),[])) (cond (Vd.kind v==1) (cond (decide (AF (GH CH {data:=#[104,111,108,100,115]} [IV.int (Vd.spent v),IV.int (ic (AG (Vd.proof v)))])≤strMax)) (DT (Q1 N) (DE TT [1,1,1,0,1,0,1,0,1,1,0,0]) ⟨[2,3,25,26,27],[3],[]⟩ N (U7 ({data:=#[]}) (Vd.proof v) (ic (AG (Vd.proof v))) 0 (GH CH {data:=#[104,111,108,100,115]} [IV.int (Vd.spent v),IV.int (ic (AG (Vd.proof v)))])) (DK 1 (DK 0 (DM (Q1 N) (DE TT [1,1,1,1]) (DP (Q1 N) none [.tmp 2] [[.str]]))))) none) (cond (Vd.kind v==2) (cond (decide (AF (GH CH {data:=#[102,97,105,108,115]} (AR 0 (AK (1+4+1) (AK (1+4) (AK 1 [IV.int (Vd.spent v)]++[IV.int (Vd.w0 v),IV.int (Vd.w1 v),IV.int (Vd.w2 v),IV.int (Vd.w3 v)])++[IV.int (Vd.twin v)]))))≤strMax)) (some ((.str (GH CH {data:=#[102,97,105,108,115]} (AR 0 (AK (1+4+1) (AK (1+4) (AK 1 [IV.int (Vd.spent v)]++[IV.int (Vd.w0 v),IV.int (Vd.w1 v),IV.int (Vd.w2 v),IV.int (Vd.w3 v)])++[IV.int (Vd.twin v)]))))),[])) none) (cond (Vd.kind v==3) (cond (decide (AF (GH CH {data:=#[117,110,107,110,111,119,110]} [IV.int (Vd.spent v)])≤strMax)) (some ((.str (GH CH {data:=#[117,110,107,110,111,119,110]} [IV.int (Vd.spent v)])),[])) none) (cond (decide (AF (GH CH {data:=#[119,114,111,110,103]} [IV.int (Vd.spent v)])≤strMax)) (some ((.str (GH CH {data:=#[119,114,111,110,103]} [IV.int (Vd.spent v)])),[])) none))))):=by kernel_rfl
theorem Cb (N:Nat) (s2:BA) (l25:LI) (x26 x27:Int) (so3:BA) (again:St→DH) (k:Out→St→DH):E4 (Q1 N) (DE TT [1,1,1,0,1,0,1,0,1,1,0,0]) (U7 s2 l25 x26 x27 so3) (EO again ⟨[2,3,25,26,27],[3],[]⟩ k)=(cond (decide (x27 < x26)) (cond (decide (0≤x27)&&decide (x27 < ic (AG l25))) (cond (IV.toBool (IV.cell (AI l25 (AD x27) default) 0)) (cond (decide (AF (GH so3 {data:=#[115,117,109]} [])≤strMax)) (again (U7 s2 l25 x26 (AA AB (x27+1)) (GH so3 {data:=#[115,117,109]} []))) none) (cond (decide (AF (GH so3 {data:=#[99,117,116]} [IV.int (IV.toInt (IV.cell (AI l25 (AD x27) default) 1)),IV.int (IV.toInt (IV.cell (AI l25 (AD x27) default) 2))])≤strMax)) (again (U7 s2 l25 x26 (AA AB (x27+1)) (GH so3 {data:=#[99,117,116]} [IV.int (IV.toInt (IV.cell (AI l25 (AD x27) default) 1)),IV.int (IV.toInt (IV.cell (AI l25 (AD x27) default) 2))]))) none)) none) (k (.exit 1) (U7 s2 l25 x26 x27 so3))):=by kernel_rfl
theorem Ml (N:Nat) (s2:BA) (l25:LI) (x26 x27:Int) (so3:BA):(DK 1 (DK 0 (DM (Q1 N) (DE TT [1,1,1,1]) (DP (Q1 N) none [.tmp 2] [[.str]])))) (.exit 1) (U7 s2 l25 x26 x27 so3)=(some ((.str so3),[])):=by kernel_rfl
open Go Go.Proofs
theorem vP (s w:BA) (l:LI):s.size≤(GH s w l).size:=by
 unfold GH
 have:=eT l (s++w)
 rw [AP] at this;rw [vaW];omega
theorem l8:∀ (l:LI) (s:BA),s.size≤(PE s l).size
 | [],s=>AY _
 | x :: l,s=>by
  unfold PE;refine CZ ?_ (l8 l _);cases HT x
  ·exact vP _ _ _
  ·exact vP _ _ _
theorem yE (N:Nat) (l:LI) (t:BA) (K:Out→St→DH) (hl:l.length≤65536)
  (hx:∀ s x26 x27,K (.exit 1) ⟨[(2,(.str t)),(3,(.ptr 3 0 0)),(25,(.list true EH l)),(26,(.int .i64 x26)),(27,(.int .i64 x27))],[(3,(some (.bld s)))]⟩=some (.str s,[])) :
  ∀ (d i n:Nat) (s:BA),i+d=l.length→d < n→(PE s (l.drop i)).size≤strMax →
   DT (Q1 N) (DE TT [1,1,1,0,1,0,1,0,1,1,0,0]) ⟨[2,3,25,26,27],[3],[]⟩ n ⟨[(2,(.str t)),(3,(.ptr 3 0 0)),(25,(.list true EH l)),(26,(.int .i64 (ic l.length))),(27,(.int .i64 (i:Int)))],[(3,(some (.bld s)))]⟩ K=some (.str (PE s (l.drop i)),[])
 | 0,i,n+1,s,hd,_,_=>by
  rw [D2,Cb,JC (by omega),CN (l:=l) (i:=i) (by omega)];simp only [DD,PE];exact hx s _ _
 | d+1,i,n+1,s,hd,hn,hs=>by
  have hi:i < l.length:=by omega
  rw [D2,Cb,IN hi,I0,HJ (by omega),JB hi];rw [A9 hi] at hs ⊢;simp only [PE] at hs ⊢;simp only [DC,CE];have hsz:=l8 (l.drop (i+1)) (cond (HT l[i]) (GH s bS []) (GH s bR [.int (FA l[i]),.int (FY l[i])]));have ih:=fun s' h'=>yE N l t K hl hx d (i+1) n s' (by omega) (by omega) h'
  have es:(l[i].cell 0).toBool=HT l[i]:=rfl;rw [es];cases hc:HT l[i] with
  | true=>
   rw [hc] at hsz hs;simp only [DC] at hsz hs ⊢;rw [AE (show (GH s bS []).size≤strMax by omega)];simp only [DC];exact ih _ hs
  | false=>
   rw [hc] at hsz hs;simp only [DD] at hsz hs ⊢;have e2:[IV.int (IV.toInt (IV.cell l[i] 1)),IV.int (IV.toInt (IV.cell l[i] 2))]=[.int (FA l[i]),.int (FY l[i])]:=rfl;rw [e2,AE (show (GH s bR [.int (FA l[i]),.int (FY l[i])]).size≤strMax by omega)];simp only [DC];exact ih _ hs
 | 0,_,0,_,_,h,_=>by omega
 | _+1,_,0,_,_,h,_=>by omega
theorem zbp {v:Vd} (h:v.right=true):v.proof.length≤65536:=by
 unfold Vd.right at h;simp only [AH,vax] at h;rcases h.2.2 with h1 | h1 | h1
 ·have:=h1.2.2
  unfold QO at this;simp only [AH,AQ] at this;exact this.2.1
 ·have:=h1.2
  cases hp:v.proof with
  | nil=>simp
  | cons a b=>rw [hp] at this; cases this
 ·have:=h1.2.2
  cases hp:v.proof with
  | nil=>simp
  | cons a b=>rw [hp] at this; cases this
theorem z8:DQ PR B0 24 S2:=by
 refine D1 [(62,XU),(63,XV),(56,Q5)] [(9,⟨[2,3,25,26,27],[3],[]⟩)] S2 [[.str]] Tryz.func24 Qa ⟨zb7,zb8,nC,trivial⟩ ?_;intro vs r hwf h;unfold S2 at h;split at h
 ·rename_i k p a b c d t s;obtain ⟨v,hv⟩:∃ v:Vd,v=⟨k,p,a,b,c,d,t,s⟩:=⟨_,rfl⟩;refine ⟨v.proof.length+1,?_⟩;rw [← h];rw [← hv] at h ⊢;have hn:=Wk (v.proof.length+1) v;rw [show Vd.V v = .agg [.int .i64 k,.list true [.bool,.z,.z] p,.int .i64 a,.int .i64 b,.int .i64 c,.int .i64 d,.int .i64 t,.int .i64 s] by rw [hv]; rfl] at hn;refine hn.trans ?_;clear hn;rw [R.get_br,R.get_ok,R.get_no] at h;simp only [R.get_br,R.get_ok,R.get_no];cases hc:decide ((FH v).size≤strMax) with
  | false=>rw [hc] at h; cases h
  | true=>
   have hle:=A1 hc;simp only [DC];unfold FH at hle ⊢;cases hr:Vd.right v with
   | false=>rfl
   | true=>
    rw [hr] at hle;simp only [A2,DC,DD] at hle ⊢;have e0:CH=GA:=rfl;simp only [e0];cases k1:v.kind==1 with
    | true=>
     rw [k1] at hle;simp only [DC] at hle ⊢;have h1:=l8 v.proof (GH GA U2 [.int v.spent,.int (ic v.proof.length)]);rw [AE (show (GH GA U2 [.int v.spent,.int (ic v.proof.length)]).size≤strMax by omega)];simp only [DC]
     have:=yE (v.proof.length+1) v.proof GA _ (zbp hr) (fun s' x26 x27=>Ml (v.proof.length+1) GA v.proof x26 x27 s') v.proof.length 0 (v.proof.length+1) (GH GA U2 [.int v.spent,.int (ic v.proof.length)]) (by omega) (by omega) (by rw [B4]; exact hle)
     rw [B4] at this;exact this
    | false=>
     rw [k1] at hle;simp only [DD] at hle ⊢;cases k2:v.kind==2 with
     | true=>
      rw [k2] at hle;simp only [DC] at hle ⊢;have ew:(AR 0 (AK (1+4+1) (AK (1+4) (AK 1 [IV.int (Vd.spent v)]++[IV.int (Vd.w0 v),IV.int (Vd.w1 v),IV.int (Vd.w2 v),IV.int (Vd.w3 v)])++[IV.int (Vd.twin v)])))=[.int v.spent,.int v.w0,.int v.w1,.int v.w2,.int v.w3,.int v.twin]:=rfl;rw [ew,AE hle];rfl
     | false=>
      rw [k2] at hle;simp only [DD] at hle ⊢;cases k3:v.kind==3 with
      | true=>
       rw [k3] at hle;simp only [DC] at hle ⊢;rw [AE hle];rfl
      | false=>
       rw [k3] at hle;simp only [DD] at hle ⊢;rw [AE hle];rfl
 ·simp [R.get] at h
open Go
abbrev FF:BA:=⟨#[113,117,101,114,121,32]⟩
abbrev Ex:BA:=⟨#[109,111,100,101,108,10]⟩
def H2 (s:BA):LI:=cond (s.toList==GA.toList) [] ((D5 (HM s FE) FE).map IV.str)
def PY:DO
 | [.str s]=>.br (decide (s.size < 4294967281)) (.ok (.list false [.str] (H2 s)) []) .no
 | _=>.no
def gK:Vd:=⟨4,[],0,0,0,0,0,0⟩
def ZG (m:Md) (l:BA):Bool:=TR l&&(TQ l==m.d&&E6 m (GP l))
def ZH (m:Md) (q:Qy):Vd:=cond ((HI m q).kind==3||WM m q (HI m q)) (HI m q) gK
def E9 (m:Md) (l:BA):Vd:=cond (ZG m l) (ZH m (GP l)) gK
def S6:DO
 | [m,.str l]=>I7 m fun m=>.br (decide (l.size < 4294967281)) (.ok (E9 m l).V []) .no
 | _=>.no
def G6 (i:Nat):BA:=(FF++DJ (i:Int))++FE
def ZY (i:Int):BA:=(FF++DJ i)++FE
def R5 (m:Md):BA→Nat→LI→BA
 | s,_,[]=>s
 | s,i,x :: l=>R5 m (s++G6 i++FH (E9 m x.toStr)) (i+1) l
def JU (a b:BA):BA:=cond (L6 a) (R5 (ER a) GA 0 (H2 b)) Ex
def S7:DO
 | [.str a,.str b]=>.br (decide (a.size < 4294967281)&&(decide (b.size < 4294967281)&&decide ((JU a b).size≤strMax))) (.ok (.str (JU a b)) []) .no
 | _=>.no
def Vd.I (v:Vd):IV:=.agg [.int v.kind,.list v.proof,.int v.w0,.int v.w1,.int v.w2,.int v.w3,.int v.twin,.int v.spent]
open Go Go.Proofs
open Go Go.Proofs
def Gw (N:Nat):Env:=DZ [(46,OS),(47,TH)] [] 8 N
theorem Xn (N:Nat) (s:BA):DS (Gw N) rB [.tmp 2] [[.list false [.str]]] [.str s]=(cond (A3 s==A3 {data:=#[]}) (some ((.list false [.str] []),[])) (cond (decide (AF (HM s {data:=#[10]}) < 4294967281)&&decide (1≤AF {data:=#[10]})) (some ((.list false [.str] (A5 IV.str (D5 (HM s {data:=#[10]}) {data:=#[10]}))),[])) none)):=by kernel_rfl
def Gv (N:Nat):Env:=DZ [(73,XI),(26,XX),(65,MB),(35,Y0)] [] 46 N
theorem Xm (N:Nat) (m:Md) (line:BA):DS (Gv N) rA [.cell 4 55] [[.z,.list true [.bool,.z,.z],.z,.z,.z,.z,.z,.z]] [(Md.V m),.str line]=(cond (decide (AF line < 4294967281)) (cond (!TR line) (some ((.agg [.i 4,.list true EH [],.i 0,.i 0,.i 0,.i 0,.i 0,.i 0]),[])) (cond (TQ line != Md.d m) (some ((.agg [.i 4,.list true EH [],.i 0,.i 0,.i 0,.i 0,.i 0,.i 0]),[])) (cond (!E6 m (GP line)) (some ((.agg [.i 4,.list true EH [],.i 0,.i 0,.i 0,.i 0,.i 0,.i 0]),[])) (cond (Vd.kind (HI m (GP line))==3) (some ((Vd.V (HI m (GP line))),[])) (cond (WM m (GP line) (HI m (GP line))) (some ((Vd.V (HI m (GP line))),[])) (some ((.agg [.i 4,.list true EH [],.i 0,.i 0,.i 0,.i 0,.i 0,.i 0]),[]))))))) none):=by kernel_rfl
def Q3 (N:Nat):Env:=DZ [(24,S2),(32,S6),(31,PY),(43,OR),(56,Q5),(60,Q6),(19,TJ)] [(6,⟨[4,5,7,18,19,20],[5,7],[]⟩)] 37 N
abbrev SP (u00 s4:BA) (l18:LI) (x19 x20:Int) (so7:BA):St:=⟨[(4,(.str s4)),(5,(.ptr 5 0 0)),(7,(.ptr 7 0 0)),(18,(.list false [.str] l18)),(19,(.i x19)),(20,(.i x20))],[(5,(some (.box (Md.cs (ER u00))))),(7,(some (.bld so7)))]⟩
theorem Xo (N:Nat) (u00 u01:BA):DS (Q3 N) TV [.tmp 4] [[.str]] [.str u00,.str u01]=(cond (decide (AF u00 < 4294967281)) (cond (!L6 u00) (some ((.str ({data:=#[109,111,100,101,108,10]})),[])) (cond (decide (AF u01 < 4294967281)) (DT (Q3 N) (DE TV [1,1,1,1,0,1,0,0]) ⟨[4,5,7,18,19,20],[5,7],[]⟩ N (SP u00 ({data:=#[]}) (H2 u01) (ic (AG (H2 u01))) 0 CH) (DK 0 (DM (Q3 N) (DE TV [1,1,1,1,1]) (DP (Q3 N) none [.tmp 4] [[.str]])))) none)) none):=by kernel_rfl
theorem Co (N:Nat) (u00 s4:BA) (l18:LI) (x19 x20:Int) (so7:BA) (again:St→DH) (k:Out→St→DH):E4 (Q3 N) (DE TV [1,1,1,1,0,1,0,0]) (SP u00 s4 l18 x19 x20 so7) (EO again ⟨[4,5,7,18,19,20],[5,7],[]⟩ k)=(cond (decide (x20 < x19)) (cond (decide (0≤x20)&&decide (x20 < ic (AG l18))) (cond (decide (AF {data:=#[113,117,101,114,121,32]}+AF (DJ x20)≤strMax)) (cond (decide (AF ({data:=#[113,117,101,114,121,32]}++DJ x20)+AF {data:=#[10]}≤strMax)) (cond (decide (AF so7+AF (ZY x20)≤strMax)) (cond (decide (AF (IV.toStr (AI l18 (AD x20) default)) < 4294967281)) (cond (decide (AF (FH (E9 (ER u00) (IV.toStr (AI l18 (AD x20) default))))≤strMax)) (cond (decide (AF (so7++(ZY x20))+AF (FH (E9 (ER u00) (IV.toStr (AI l18 (AD x20) default))))≤strMax)) (again (SP u00 s4 l18 x19 (AA AB (x20+1)) (so7++(ZY x20)++FH (E9 (ER u00) (IV.toStr (AI l18 (AD x20) default)))))) none) none) none) none) none) none) none) (k (.exit 0) (SP u00 s4 l18 x19 x20 so7))):=by kernel_rfl
theorem Nc (N:Nat) (u00 s4:BA) (l18:LI) (x19 x20:Int) (so7:BA):(DK 0 (DM (Q3 N) (DE TV [1,1,1,1,1]) (DP (Q3 N) none [.tmp 4] [[.str]]))) (.exit 0) (SP u00 s4 l18 x19 x20 so7)=(some ((.str so7),[])):=by kernel_rfl
open Go
theorem Kg {s t:BA} (h:s.data.toList=t.data.toList):s=t:=ByteArray.ext (Array.ext' h)
theorem pU (s t:BA):(s.toList==t.toList)=decide (s=t):=by
 rw [Lib.toList_data,Lib.toList_data];by_cases h:s=t
 ·subst h; simp
 ·rw [AL h,BR];exact fun e=>h (Kg e)
open Go
def HE (n:Int):Prop := -9223372036854775808≤n∧n≤9223372036854775807
def SF (x:IV):Prop:=HE (FA x)∧HE (FY x)
structure Vd.rng (v:Vd):Prop where
 w0:HE v.w0
 w1:HE v.w1
 w2:HE v.w2
 w3:HE v.w3
 twin:HE v.twin
 spent:HE v.spent
 proof:∀ x∈v.proof,SF x
theorem w8:∀ (l:LI) (s:BA),(∀ x∈l,HE x.toInt)→(NB s l).size≤s.size+22*l.length
 | [],s,_=>AY _
 | x :: l,s,h=>by
  rw [NB];refine CZ (w8 l _ (fun y hy=>h y (AX _ hy))) ?_;have hx:=h x (AT ..)
  have:=ZZ (n:=x.toInt) hx.1 hx.2
  rw [AP,vaW,AN];omega
theorem WC (s w:BA) (l:LI) (h:∀ x∈l,HE x.toInt):(GH s w l).size≤s.size+w.size+22*l.length+1:=by
 unfold GH
 have:=w8 l (s++w) h
 rw [AP] at this;rw [vaW];omega
theorem yC:∀ (l:LI) (s:BA),(∀ x∈l,SF x)→(PE s l).size≤s.size+48*l.length
 | [],s,_=>AY _
 | x :: l,s,h=>by
  rw [PE];refine CZ (yC l _ (fun y hy=>h y (AX _ hy))) ?_;have hx:=h x (AT ..);rw [AN];cases HT x
  ·have:=WC s bR [.int (FA x),.int (FY x)] (fun y hy=>by
    simp only [AU,List.mem_nil_iff,C1] at hy;rcases hy with rfl | rfl
    ·exact hx.1
    ·exact hx.2)
   have e:bR.size=3:=rfl;simp only [B9,AN,A7] at this ⊢;omega
  ·have:=WC s bS [] (fun y hy=>by cases hy)
   have e:bS.size=3:=rfl;simp only [CO,A7] at this ⊢;omega
open Go
theorem zbq {v:Vd} (h:v.right=true):v.proof.length≤65536:=by
 unfold Vd.right at h;simp only [AH,vax] at h;rcases h.2.2 with h1 | h1 | h1
 ·have:=h1.2.2
  unfold QO at this;simp only [AH,AQ] at this;exact this.2.1
 ·have:=h1.2
  cases hp:v.proof with
  | nil=>simp
  | cons a b=>rw [hp] at this; cases this
 ·have:=h1.2.2
  cases hp:v.proof with
  | nil=>simp
  | cons a b=>rw [hp] at this; cases this
theorem jY {l:List Int} (h:∀ n∈l,HE n):∀ x∈l.map IV.int,HE x.toInt:=by
 intro x hx;obtain ⟨n,hn,rfl⟩:=CY.1 hx;exact h n hn
theorem Ux {n:Nat} (h:n≤65536):HE (ic n):=by unfold HE ic; omega
theorem l6 {v:Vd} (hr:v.rng):(FH v).size≤4000000:=by
 unfold FH;cases h:v.right with
 | false=>simp only [B9]; decide
 | true=>
  simp only [CO];have hp:=zbq h;cases v.kind==1 with
  | true=>
   simp only [CO];have h1:=yC v.proof (GH GA U2 [.int v.spent,.int (ic v.proof.length)]) hr.proof;have h2:=WC GA U2 [.int v.spent,.int (ic v.proof.length)] (jY (l:=[v.spent,ic v.proof.length]) (by
    intro n hn;simp only [AU,List.mem_nil_iff,C1] at hn;rcases hn with rfl | rfl
    ·exact hr.spent
    ·exact Ux hp))
   have e1:GA.size=0:=rfl;have e2:U2.size=5:=rfl;simp only [AN,A7] at h2;omega
  | false=>
   simp only [B9];cases v.kind==2 with
   | true=>
    simp only [CO];have h2:=WC GA oE [.int v.spent,.int v.w0,.int v.w1,.int v.w2,.int v.w3,.int v.twin] (jY (l:=[v.spent,v.w0,v.w1,v.w2,v.w3,v.twin]) (by
     intro n hn;simp only [AU,List.mem_nil_iff,C1] at hn;rcases hn with rfl | rfl | rfl | rfl | rfl | rfl
     ·exact hr.spent
     ·exact hr.w0
     ·exact hr.w1
     ·exact hr.w2
     ·exact hr.w3
     ·exact hr.twin))
    have e1:GA.size=0:=rfl;have e2:oE.size=5:=rfl;simp only [AN,A7] at h2;omega
   | false=>
    simp only [B9];have hs:∀ x∈[IV.int v.spent],HE x.toInt:=jY (l:=[v.spent]) (by
     intro n hn;simp only [AU,List.mem_nil_iff,C1] at hn;subst hn;exact hr.spent)
    have e1:GA.size=0:=rfl;cases v.kind==3 with
    | true=>
     simp only [CO];have h2:=WC GA oJ [.int v.spent] hs;have e2:oJ.size=7:=rfl;simp only [AN,A7] at h2;omega
    | false=>
     simp only [B9];have h2:=WC GA oK [.int v.spent] hs;have e2:oK.size=5:=rfl;simp only [AN,A7] at h2;omega
theorem OG:HE 0:=⟨by decide,by decide⟩
open Go
theorem bG {x y:IV}:nI x y=true↔HT x=HT y∧FA x=FA y∧FY x=FY y:=by simp [nI]
theorem zF:∀ {l m:LI},LL l m=true→LL m l=true
 | [],[],_=>rfl
 | [],_ :: _,h=>by simp [LL] at h
 | _ :: _,[],h=>by simp [LL] at h
 | x :: l,y :: m,h=>by
  simp only [LL,AH] at h ⊢;obtain ⟨h1,h2,h3⟩:=bG.1 h.1;exact ⟨bG.2 ⟨h1.symm,h2.symm,h3.symm⟩,zF h.2⟩
theorem zG:∀ {l m n:LI},LL l m=true→LL m n=true→LL l n=true
 | [],[],[],_,_=>rfl
 | [],[],_ :: _,_,h=>by simp [LL] at h
 | [],_ :: _,_,h,_=>by simp [LL] at h
 | _ :: _,[],_,h,_=>by simp [LL] at h
 | _ :: _,_ :: _,[],_,h=>by simp [LL] at h
 | x :: l,y :: m,z :: n,h,k=>by
  simp only [LL,AH] at h k ⊢;obtain ⟨h1,h2,h3⟩:=bG.1 h.1;obtain ⟨k1,k2,k3⟩:=bG.1 k.1;exact ⟨bG.2 ⟨h1.trans k1,h2.trans k2,h3.trans k3⟩,zG h.2 k.2⟩
structure VSame (a b:Vd):Prop where
 kind:a.kind=b.kind
 proof:LL a.proof b.proof=true
 w0:a.w0=b.w0
 w1:a.w1=b.w1
 w2:a.w2=b.w2
 w3:a.w3=b.w3
 twin:a.twin=b.twin
 spent:a.spent=b.spent
theorem VSame.symm {a b:Vd} (h:VSame a b):VSame b a:=⟨h.kind.symm,zF h.proof,h.w0.symm,h.w1.symm,h.w2.symm,h.w3.symm,h.twin.symm,h.spent.symm⟩
theorem VSame.trans {a b c:Vd} (h:VSame a b) (k:VSame b c):VSame a c:=⟨h.kind.trans k.kind,zG h.proof k.proof,h.w0.trans k.w0,h.w1.trans k.w1,h.w2.trans k.w2,h.w3.trans k.w3,h.twin.trans k.twin,h.spent.trans k.spent⟩
theorem Jl {v:Vd} (h:v.bare=true):v.w0=0∧v.w1=0∧v.w2=0∧v.w3=0∧v.twin=0:=by
 unfold Vd.bare at h;simpa using h
open Go
theorem Uh (x y:List UInt8) (r:List (List UInt8)):Lib.join (x :: y :: r) [32]=x++32 :: Lib.join (y :: r) [32]:=by
 rw [Lib.join_cons,Lib.join_cons];simp [Lib.joinTail]
theorem Bo:∀ (x:List UInt8) (r:List (List UInt8)),(∀ w∈x :: r,(32:UInt8) ∉ w)→vbd (Lib.join (x :: r) [32]) [32]=x :: r
 | x,[],h=>by rw [Lib.join_one]; exact Bq x 32 (h x (AT ..))
 | x,y :: r,h=>by
  rw [Uh,Bn x _ 32 (h x (AT ..)),Bo y r (fun w hw=>h w (AX _ hw))]
theorem kU:∀ {l m:List BA},l.map (·.data.toList)=m.map (·.data.toList)→l=m
 | [],[],_=>rfl
 | [],_ :: _,h=>by simp at h
 | _ :: _,[],h=>by simp at h
 | x :: l,y :: m,h=>by
  simp only [AZ,vaV] at h;rw [RA h.1,kU h.2]
theorem Vc (ws:List BA) (h0:ws≠[]) (h:∀ w∈ws,(32:UInt8) ∉ w.data.toList):GU (GB ws GS)=ws.map IV.str:=by
 unfold GU;congr 1;apply kU;rw [Bm];cases ws with
 | nil=>exact absurd rfl h0
 | cons x r=>
  show vbd (Lib.join ((x :: r).map (·.data.toList)) [32]) [32]=_;rw [AZ];exact Bo _ _ (fun w hw=>by
   rcases AU.1 hw with rfl | hw
   ·exact h x (AT ..)
   ·obtain ⟨y,hy,rfl⟩:=CY.1 hw;exact h y (AX _ hy))
theorem zW (u:Nat):∀ c∈H7 u,c.toNat=46∨(48≤c.toNat∧c.toNat≤57):=by
 intro c hc;rw [fK] at hc;rcases AV.1 hc with h | h
 ·exact .inr (VY _ c h)
 ·split at h
  ·cases h
  ·rename_i h0;rcases AU.1 h with rfl | h
   ·exact .inl rfl
   ·exact .inr ((i7 h0 (by omega:u % 256 < 256)).2.1 c h)
theorem zaX (n:Int):∀ c∈PD n,45≤c.toNat∧c.toNat≤57:=by
 intro c hc;unfold PD at hc;split at hc
 ·rcases AU.1 hc with rfl | h
  ·exact ⟨by decide,by decide⟩
  ·have:=zW _ c h
   omega
 ·have:=zW _ c hc
  omega
theorem Ud (n:Int):∀ c∈Lib.itoa n,45≤c.toNat∧c.toNat≤57:=by
 intro c hc
 have:=Uc n c hc
 omega
theorem Zw {l:List UInt8} (h:∀ c∈l,45≤c.toNat∧c.toNat≤57):(32:UInt8) ∉ l:=fun hc=>by
 have:=(h _ hc).1
 revert this;decide
theorem pH {x y:BA} (h:x≠y):(x.toList==y.toList)=false:=by rw [cU]; exact AL h
theorem pI (x:BA):(x.toList==x.toList)=true:=by simp
theorem Qy.eq_of {p q:Qy} (h:p.eq q=true):p=q:=by
 cases p; cases q;simp only [Qy.eq,AH,B3,BX] at h;simp only [Qy.mk.injEq];exact h
theorem zbH {n:Int} (h:E2 n):FR (DN n)=n:=(za2 h).2
theorem zaW (n:Int):∀ c∈(DN n).data.toList,45≤c.toNat∧c.toNat≤57:=zaX n
theorem Ua (n:Int):∀ c∈(DJ n).data.toList,45≤c.toNat∧c.toNat≤57:=Ud n
open Go
theorem kA (c:UInt8) (x y:List UInt8) (r:List (List UInt8)):Lib.join (x :: y :: r) [c]=x++c :: Lib.join (y :: r) [c]:=by
 rw [Lib.join_cons,Lib.join_cons];simp [Lib.joinTail]
theorem Bp (c:UInt8):∀ (x:List UInt8) (r:List (List UInt8)),(∀ w∈x :: r,c ∉ w)→vbd (Lib.join (x :: r) [c]) [c]=x :: r
 | x,[],h=>by rw [Lib.join_one]; exact Bq x c (h x (AT ..))
 | x,y :: r,h=>by
  rw [kA,Bn x _ c (h x (AT ..)),Bp c y r (fun w hw=>h w (AX _ hw))]
theorem v8 (c e:UInt8) (hne:e≠c):∀ (l:List (List UInt8)),(∀ w∈l,e ∉ w)→e ∉ Lib.join l [c]
 | [],_=>by rw [Lib.join_nil]; simp
 | [x],h=>by rw [Lib.join_one]; exact h x (AT ..)
 | x :: y :: r,h=>by
  rw [kA];intro hm;rcases AV.1 hm with hm | hm
  ·exact h x (AT ..) hm
  ·rcases AU.1 hm with hm | hm
   ·exact hne hm
   ·exact v8 c e hne (y :: r) (fun w hw=>h w (AX _ hw)) hm
structure WsOK (ws:List BA):Prop where
 ne:ws≠[]
 sp:∀ w∈ws,(32:UInt8) ∉ w.data.toList
 lf:∀ w∈ws,(10:UInt8) ∉ w.data.toList
def FD (ws:List BA):IV:=.str (GB ws GS)
theorem Ue (ws:List BA):(GB ws GS).data.toList=Lib.join (ws.map (·.data.toList)) [32]:=rfl
theorem vO (ws:List BA):(E8 ws).data.toList=(GB ws GS).data.toList++[10]:=by
 unfold E8;simp
theorem nV:∀ (x:List BA) (r:List (List BA)),(FO (x :: r)).data.toList=Lib.join ((x :: r).map fun ws=>(GB ws GS).data.toList) [10]++[10]
 | x,[]=>by
  have e:FO [x]=E8 x:=by
   show E8 x++CH=_;rw [ByteArray.append_empty]
  rw [e,vO,AZ,CB,Lib.join_one]
 | x,y :: r=>by
  have e:(FO (x :: y :: r)).data.toList=(E8 x).data.toList++(FO (y :: r)).data.toList:=by
   rw [FO];simp
  rw [e,nV y r,vO];simp only [AZ];rw [kA];simp
theorem zdL {s:BA} {l:List UInt8} (h:s.data.toList=l++[10]):(W0 s).data.toList=l:=by
 have hz:s.size=l.length+1:=by rw [QN,h,AW]; rfl
 have hs:QE s NI=true:=by
  unfold QE;have e1:AF NI=1:=rfl;rw [e1,AE (show 1≤s.size by omega),BH,cU];refine AE (RA ?_);rw [ByteArray.data_extract,Array.toList_extract,List.extract_eq_take_drop,h,hz];simp
 have e1:AF NI=1:=rfl;unfold W0 HM;rw [hs,e1];show (s.extract 0 (s.size - 1)).data.toList=l;rw [ByteArray.data_extract,Array.toList_extract,List.extract_eq_take_drop,h,hz];simp
theorem Vg (x:List BA) (r:List (List BA)) (h:∀ ws∈x :: r,WsOK ws):RS (FO (x :: r))=(x :: r).map FD:=by
 unfold RS;have hd:(D5 (W0 (FO (x :: r))) NI)=(x :: r).map fun ws=>GB ws GS:=by
  apply kU;rw [Bm,zdL (nV x r)];show vbd (Lib.join ((x :: r).map fun ws=>(GB ws GS).data.toList) [10]) [10]=_;rw [List.map_map,AZ,Bp]
  ·rfl
  ·intro w hw;rw [← AZ (f:=fun ws=>(GB ws GS).data.toList)] at hw;obtain ⟨ws,hws,rfl⟩:=CY.1 hw;rw [Ue];refine v8 32 10 (by decide) _ fun v hv=>?_
   obtain ⟨u,hu,rfl⟩:=CY.1 hv;exact (h ws hws).lf u hu
 rw [hd,List.map_map];rfl
theorem eO {ws:List BA} (h:WsOK ws) (r:LI):EK (FD ws :: r)=ws.map IV.str:=Vc ws h.ne h.sp
theorem wZ {l:List UInt8} (h:∀ c∈l,45≤c.toNat∧c.toNat≤57):(32:UInt8) ∉ l∧(10:UInt8) ∉ l:=by
 refine ⟨Zw h,fun hc=>?_⟩
 have:=(h _ hc).1
 revert this;decide
theorem TX {n most:Int} (h0:0≤n) (h1:n≤most) (h2:most≤1000):E5 (DJ n) most=n:=by
 have hv:FP (DJ n)=n:=Jj rfl (by omega) (by omega);have hn:MD (DJ n)=true:=by
  unfold MD
  have:(DJ n).data.toList=Lib.itoa n:=rfl
  rw [this,pE n (by omega) (by omega)]
 unfold E5;rw [hn,hv,AL (show ¬ n < 0 by omega),AL (show ¬ n > most by omega)];rfl
theorem R9 {n:Int} (h : -2147483648≤n∧n≤2147483647):FR (DN n)=n:=zbH (by unfold E2; omega)
structure NdIn (x:Nd):Prop where
 v : -2147483648≤x.v∧x.v≤2147483647
 f:0≤x.f∧x.f < 4
 a : -2147483648≤x.a∧x.a≤2147483647
 l:0≤x.l∧x.l < 31
 r:0≤x.r∧x.r < 31
 lf:x.lf=true→x.f=0∧x.a=0∧x.l=0∧x.r=0
 fk:x.lf=false→x.v=0
theorem jQ {n:Int} (h:EU n=true) : -2147483648≤n∧n≤2147483647:=by
 unfold EU at h
 rwa [AH,AQ,AQ] at h
theorem zbo {x:Nd} (h:LJ x=true):NdIn x:=by
 obtain ⟨lf,v,f,a,l,r⟩:=x;unfold LJ at h;cases lf with
 | true=>
  simp only [CO,AH,Nd.eq,B3] at h;obtain ⟨⟨_,_,h1,h2,h3,h4,_⟩,hv⟩:=h;subst h1 h2 h3 h4;have z4:(0:Int)≤0∧(0:Int) < 4:=by decide
  have z31:(0:Int)≤0∧(0:Int) < 31:=by decide
  have zf:(-2147483648:Int)≤0∧(0:Int)≤2147483647:=by decide
  exact ⟨jQ hv,z4,zf,z31,z31,fun _=>⟨rfl,rfl,rfl,rfl⟩,fun h=>Bool.noConfusion h⟩
 | false=>
  simp only [B9,AH,B3,AQ,OV] at h;obtain ⟨hv,hf0,hf1,ha,⟨hl0,hl1⟩,hr0,hr1⟩:=h;subst hv;have zf:(-2147483648:Int)≤0∧(0:Int)≤2147483647:=by decide
  have l0:(0:Int)≤l:=by omega
  have r0:(0:Int)≤r:=by omega
  exact ⟨zf,⟨hf0,hf1⟩,jQ ha,⟨l0,hl1⟩,⟨r0,hr1⟩,fun h=>Bool.noConfusion h,fun _=>rfl⟩
theorem SN (w:BA) (h:(w.data.toList.all fun c=>!(c==32)&&!(c==10))=true):(32:UInt8) ∉ w.data.toList∧(10:UInt8) ∉ w.data.toList:=by
 rw [CP] at h;refine ⟨fun hc=>?_,fun hc=>?_⟩
 ·have:=h _ hc
  revert this;decide
 ·have:=h _ hc
  revert this;decide
theorem bU {ws:List BA} (hne:ws≠[]) (h:∀ w∈ws,(32:UInt8) ∉ w.data.toList∧(10:UInt8) ∉ w.data.toList):WsOK ws:=⟨hne,fun w hw=>(h w hw).1,fun w hw=>(h w hw).2⟩
theorem UA (n:Int):(32:UInt8) ∉ (DJ n).data.toList∧(10:UInt8) ∉ (DJ n).data.toList:=wZ (Ua n)
theorem l9 (n:Int):(32:UInt8) ∉ (DN n).data.toList∧(10:UInt8) ∉ (DN n).data.toList:=wZ (zaW n)
theorem wP (x:Nd):WsOK (KT x):=by
 unfold KT;cases x.lf with
 | true=>
  refine bU (by simp) fun w hw=>?_
  simp only [CO,AU,CL,C1] at hw;rcases hw with rfl | rfl
  ·exact SN _ (by decide)
  ·exact l9 _
 | false=>
  refine bU (by simp) fun w hw=>?_
  simp only [B9,AU,CL,C1] at hw;rcases hw with rfl | rfl | rfl | rfl | rfl | rfl | rfl | rfl
  ·exact SN _ (by decide)
  ·exact UA _
  ·exact SN _ (by decide)
  ·exact l9 _
  ·exact SN _ (by decide)
  ·exact UA _
  ·exact SN _ (by decide)
  ·exact UA _
theorem zbf {x:Nd} (h:NdIn x):L0 ((KT x).map IV.str)=x:=by
 obtain ⟨lf,v,f,a,l,r⟩:=x;obtain ⟨hv,hf,ha,hl,hr,h1,h2⟩:=h;simp only at hv hf ha hl hr h1 h2;cases lf with
 | true=>
  obtain ⟨rfl,rfl,rfl,rfl⟩:=h1 rfl;have e0:L0 ((KT ⟨true,v,0,0,0,0⟩).map IV.str)=⟨true,FR (DN v),0,0,0,0⟩:=by
   have:(A3 (DU ((KT ⟨true,v,0,0,0,0⟩).map IV.str) 0)==A3 QS)=true:=pI _
   unfold L0;rw [this];rfl
  rw [e0,R9 hv]
 | false=>
  have h2:=h2 rfl;subst h2;have e0:L0 ((KT ⟨false,0,f,a,l,r⟩).map IV.str)=⟨false,0,E5 (DJ f) 4,FR (DN a),E5 (DJ l) 31,E5 (DJ r) 31⟩:=by
   have:(A3 (DU ((KT ⟨false,0,f,a,l,r⟩).map IV.str) 0)==A3 QS)=false:=pH (x:=gF) (y:=QS) (by decide)
   unfold L0;rw [this];rfl
  rw [e0,TX hf.1 (by omega) (by omega),R9 ha,TX hl.1 (by omega) (by omega),TX hr.1 (by omega) (by omega)]
def Ez (w:IV):Prop:=∃ n,w = .int n
def Fa (t:IV):Prop:=∃ k l,t = .agg [.int k,.list l]∧∀ w∈l,Ez w
def gG (m:Md):Prop:=∀ t∈m.ts,Fa t
theorem wT {dim n:Int}:∀ {l:LI} {i:Nat},JF dim n i l=true→∀ w∈l,FU w.toInt=true
 | [],_,_,w,hw=>by cases hw
 | x :: l,i,h,w,hw=>by
  unfold JF at h;rw [AH,AH] at h;rcases AU.1 hw with rfl | hw
  ·exact h.1.1
  ·exact wT h.2 w hw
theorem zdF {d c:Int} {t:IV} (h:GY d c t=true):0≤(t.cell 0).toInt∧(t.cell 0).toInt < c∧1≤(t.cell 1).toList.length∧(t.cell 1).toList.length≤31∧∀ w∈(t.cell 1).toList,FU w.toInt=true:=by
 unfold GY GC at h;simp only [AH,BY,BQ] at h;obtain ⟨h1,h2,⟨h3,h4⟩,h5,_⟩:=h;exact ⟨by omega,by omega,AM h3,AM h4,wT h5⟩
theorem zbg {l:LI} (hw:∀ w∈l,Ez w) (hn:∀ w∈l,FU w.toInt=true) (R:LI):LF ((G7 l).map FD++R) l.length=l:=by
 apply List.ext_getElem?;intro i;unfold LF;by_cases hi:i < l.length
 ·rw [B5,List.getElem?_range hi];have hdr:AR i ((G7 l).map FD++R)=FD (KT (DF l[i].toInt)) :: (((G7 l).map FD).drop (i+1)++R):=by
   have hl:((G7 l).map FD).length=l.length:=by simp [G7]
   rw [List.drop_append_of_le_length (by omega),A9 (by omega)];simp [G7]
  have hb:=hn l[i] (CX hi);obtain ⟨p1,p2⟩:=eR hb;obtain ⟨n,hn'⟩:=hw l[i] (CX hi);have e:(IV.int (H6 (L0 (EK (AR i ((G7 l).map FD++R))))))=l[i]:=by
   rw [hdr,eO (wP _),zbf (zbo p2),p1,hn'];rfl
  show some (IV.int (H6 (L0 (EK (AR i ((G7 l).map FD++R))))))=_;rw [e,A6 hi]
 ·rw [BM (by simp; omega),BM (by omega)]
theorem Eb (t:IV):∀ ws∈QQ t,WsOK ws:=by
 intro ws hws;unfold QQ at hws;rcases AU.1 hws with rfl | hws
 ·refine bU (by simp) fun w hw=>?_
  simp only [AU,CL,C1] at hw;rcases hw with rfl | rfl | rfl
  ·exact SN _ (by decide)
  ·exact UA _
  ·exact UA _
 ·unfold G7 at hws;obtain ⟨w,_,rfl⟩:=CY.1 hws;exact wP _
theorem yP {d c:Int} (hc:c≤3):∀ (n:Nat) (ts:LI),ts.length≤n→(∀ t∈ts,Fa t)→ts.all (GY d c)=true→J7 n ((F6 ts).map FD)=ts
 | 0,[],_,_,_=>rfl
 | 0,_ :: _,h,_,_=>by simp at h
 | n+1,[],_,_,_=>rfl
 | n+1,t :: r,h,hw,ht=>by
  rw [vaU,AH] at ht;obtain ⟨k,l,rfl,hl⟩:=hw t (AT ..);obtain ⟨h1,h2,h3,h4,h5⟩:=zdF ht.1;have h1:0≤k:=h1;have h2:k < c:=h2;have h3:1≤l.length:=h3;have h4:l.length≤31:=h4;have h5:∀ w∈l,FU w.toInt=true:=h5;have hws:=Eb (.agg [.int k,.list l]) [MR,DJ k,DJ (ic l.length)] (AT ..);have e:(F6 (.agg [.int k,.list l] :: r)).map FD=FD [MR,DJ k,DJ (ic l.length)] :: ((G7 l).map FD++(F6 r).map FD):=by
   show (([MR,DJ k,DJ (ic l.length)] :: G7 l)++F6 r).map FD=_;rw [List.map_append,AZ];rfl
  have hnx:=eO hws ((G7 l).map FD++(F6 r).map FD);have hk:LE (FD [MR,DJ k,DJ (ic l.length)] :: ((G7 l).map FD++(F6 r).map FD))=l.length:=by
   unfold LE;rw [hnx];show (E5 (DJ (ic l.length)) 31).toNat=_;rw [TX (by simp only [ic]; omega) (by simp only [ic]; omega) (by omega)];simp only [ic];omega
  have hr:WO (FD [MR,DJ k,DJ (ic l.length)] :: ((G7 l).map FD++(F6 r).map FD)) = .agg [.int k,.list l]:=by
   unfold WO;rw [hk,hnx];show IV.agg [IV.int (E5 (DJ k) 3),IV.list (LF ((G7 l).map FD++(F6 r).map FD) l.length)]=_;rw [TX h1 (by omega) (by omega),zbg hl h5]
  have hdl:AR l.length ((G7 l).map FD++(F6 r).map FD)=(F6 r).map FD:=by
   have:l.length=((G7 l).map FD).length:=by simp [G7]
   rw [this,List.drop_left]
  rw [e,J7,hr,hk,hdl,yP hc n r (by simp at h; omega) (fun t ht=>hw t (AX _ ht)) ht.2]
theorem Vn {m:Md} (h:EQ m=true):(1≤m.d∧m.d≤4)∧(1≤m.c∧m.c≤3)∧m.ts.length≤8∧(G5 m.c 0 m.b0=true∧G5 m.c 1 m.b1=true∧G5 m.c 2 m.b2=true)∧m.ts.all (GY m.d m.c)=true:=by
 unfold EQ at h;simp only [AH,BY,BQ] at h;obtain ⟨⟨h1,h2,h3,h4,h5⟩,⟨h6,h7,h8⟩,h9⟩:=h;exact ⟨⟨by omega,by omega⟩,⟨by omega,by omega⟩,AM h5,⟨h6,h7,h8⟩,h9⟩
theorem g6 {c j b:Int} (h:G5 c j b=true):(-2147483648≤b∧b≤2147483647)∧(c≤j→b=0):=by
 unfold G5 at h;rw [AH] at h;refine ⟨jQ h.1,fun hj=>?_⟩
 have:=h.2
 rw [AE (show j≥c from hj)] at this;simpa using this
theorem jV (m:Md):∀ ws∈QF m,WsOK ws:=by
 intro ws hws;unfold QF at hws;simp only [AU,CL,C1] at hws;rcases hws with rfl | rfl
 ·refine bU (by simp) fun w hw=>?_
  simp only [AU,CL,C1] at hw;rcases hw with rfl | rfl | rfl
  ·exact SN _ (by decide)
  ·exact UA _
  ·exact UA _
 ·refine bU (by simp) fun w hw=>?_
  rcases AU.1 hw with rfl | hw
  ·exact SN _ (by decide)
  ·obtain ⟨b,_,rfl⟩:=CY.1 hw;exact l9 _
theorem Ed:∀ (ts:LI),∀ ws∈F6 ts,WsOK ws
 | [],ws,h=>by cases h
 | t :: r,ws,h=>by
  rw [F6] at h;rcases AV.1 h with h | h
  ·exact Eb t ws h
  ·exact Ed r ws h
theorem zbe {m:Md} (h:EQ m=true) (hw:gG m):mG ((KQ m).map FD)=m:=by
 obtain ⟨hd,hc,hl,⟨g0,g1,g2⟩,ht⟩:=Vn h;obtain ⟨d,c,b0,b1,b2,ts⟩:=m;simp only at hd hc hl g0 g1 g2 ht;obtain ⟨i0,_⟩:=g6 g0;obtain ⟨i1,z1⟩:=g6 g1;obtain ⟨i2,z2⟩:=g6 g2;have hh1:=jV ⟨d,c,b0,b1,b2,ts⟩ [L7,DJ d,DJ c] (AT ..);have hh2:=jV ⟨d,c,b0,b1,b2,ts⟩ (IC :: ([b0,b1,b2].take c.toNat).map DN) (AX _ (AT ..));have e:(KQ ⟨d,c,b0,b1,b2,ts⟩).map FD=FD [L7,DJ d,DJ c] :: FD (IC :: ([b0,b1,b2].take c.toNat).map DN) :: (F6 ts).map FD:=rfl;have hn1:=eO hh1 (FD (IC :: ([b0,b1,b2].take c.toNat).map DN) :: (F6 ts).map FD);have hn2:=eO hh2 ((F6 ts).map FD);have hC:WN ((KQ ⟨d,c,b0,b1,b2,ts⟩).map FD)=c:=by
  unfold WN;rw [e,hn1];show E5 (DJ c) 3=c;exact TX (by omega) (by omega) (by omega)
 have hT:J7 9 (AR 2 ((KQ ⟨d,c,b0,b1,b2,ts⟩).map FD))=ts:=by
  rw [e];show J7 9 ((F6 ts).map FD)=ts;exact yP (by omega) 9 ts (by omega) hw ht
 have hD:E5 (DU (EK ((KQ ⟨d,c,b0,b1,b2,ts⟩).map FD)) 1) 4=d:=by
  rw [e,hn1];show E5 (DJ d) 4=d;exact TX (by omega) (by omega) (by omega)
 have hB:∀ j,J6 ((KQ ⟨d,c,b0,b1,b2,ts⟩).map FD) c j=cond (decide ((j:Int) < c)) (FR (DU ((IC :: ([b0,b1,b2].take c.toNat).map DN).map IV.str) (1+j))) 0:=fun j=>by
  unfold J6;rw [e];show cond _ (FR (DU (EK (FD (IC :: ([b0,b1,b2].take c.toNat).map DN) :: (F6 ts).map FD)) (1+j))) 0=_;rw [hn2]
 unfold mG;rw [hC,hT,hD,hB,hB,hB];obtain ⟨C,rfl⟩:∃ C:Nat,c=(C:Int):=⟨c.toNat,by omega⟩;have w0:∀ l,DU ((IC :: l).map IV.str) (1+0)=DU (l.map IV.str) 0:=fun l=>rfl
 have w1:∀ l,DU ((IC :: l).map IV.str) (1+1)=DU (l.map IV.str) 1:=fun l=>rfl
 have w2:∀ l,DU ((IC :: l).map IV.str) (1+2)=DU (l.map IV.str) 2:=fun l=>rfl
 have v0:∀ x l,DU ((x :: l).map IV.str) 0=x:=fun x l=>rfl
 have v1:∀ x y l,DU ((x :: y :: l).map IV.str) 1=y:=fun x y l=>rfl
 have v2:∀ x y z l,DU ((x :: y :: z :: l).map IV.str) 2=z:=fun x y z l=>rfl
 rw [w0,w1,w2,BD];rcases (show C=1∨C=2∨C=3 by omega) with rfl | rfl | rfl
 ·
  have y1:=z1 (by omega);have y2:=z2 (by omega);have t:([b0,b1,b2].take 1).map DN=[DN b0]:=rfl;rw [t,v0,R9 i0,AE (show ((0:Nat):Int) < ((1:Nat):Int) by omega),AL (show ¬ ((1:Nat):Int) < ((1:Nat):Int) by omega),AL (show ¬ ((2:Nat):Int) < ((1:Nat):Int) by omega),y1,y2];rfl
 ·
  have y2:=z2 (by omega);have t:([b0,b1,b2].take 2).map DN=[DN b0,DN b1]:=rfl;rw [t,v0,v1,R9 i0,R9 i1,AE (show ((0:Nat):Int) < ((2:Nat):Int) by omega),AE (show ((1:Nat):Int) < ((2:Nat):Int) by omega),AL (show ¬ ((2:Nat):Int) < ((2:Nat):Int) by omega),y2];rfl
 ·
  have t:([b0,b1,b2].take 3).map DN=[DN b0,DN b1,DN b2]:=rfl;rw [t,v0,v1,v2,R9 i0,R9 i1,R9 i2,AE (show ((0:Nat):Int) < ((3:Nat):Int) by omega),AE (show ((1:Nat):Int) < ((3:Nat):Int) by omega),AE (show ((2:Nat):Int) < ((3:Nat):Int) by omega)];rfl
theorem zdv {m:Md} (h:EQ m=true) (hw:gG m):L6 (FI m)=true∧ER (FI m)=m:=by
 have hp:FI m=FO (KQ m):=by unfold FI; rw [h]; rfl
 have hc:VT (FI m)=m:=by
  unfold VT
  have:RS (FI m)=(KQ m).map FD:=by
   rw [hp];exact Vg _ _ (fun ws hws=>by
    have hws:ws∈QF m++F6 m.ts:=hws;rcases AV.1 hws with hws | hws
    ·exact jV m ws hws
    ·exact Ed m.ts ws hws)
  rw [this,zbe h hw]
 have hk:L6 (FI m)=true:=by
  unfold L6;rw [hc,pI,CE]
  have:((FI m).toList==W3.toList)=false:=pH (fun e=>by
   have hd:=nV [L7,DJ m.d,DJ m.c] ((IC :: ([m.b0,m.b1,m.b2].take m.c.toNat).map DN) :: F6 m.ts);have e':FO (KQ m)=W3:=by rw [← hp,e]
   have:FO (KQ m)=FO ([L7,DJ m.d,DJ m.c] :: ((IC :: ([m.b0,m.b1,m.b2].take m.c.toNat).map DN) :: F6 m.ts)):=rfl
   rw [← this,e'] at hd
   have:=congrArg AG hd
   rw [AW] at this;simp at this)
  rw [this];rfl
 refine ⟨hk,?_⟩;unfold ER;rw [hk,hc];rfl
theorem Vm (d c:Int) (bias ts:LI):gG (eJ d c bias ts):=by
 intro t ht;have ht:t∈PK d c ts:=ht;unfold PK at ht;obtain ⟨u,_,rfl⟩:=CY.1 ht;refine ⟨_,_,rfl,fun w hw=>?_⟩;unfold LB at hw;obtain ⟨x,_,rfl⟩:=CY.1 hw;exact ⟨_,rfl⟩
open Go
def OF:Nat→List Vd→BA
 | _,[]=>GA
 | i,v :: r=>G6 i++(FH v++OF (i+1) r)
theorem Tq (i:Nat):0 < (G6 i).size:=by
 unfold G6;rw [AP];show 0 < _+1;omega
theorem Ev:∀ (i:Nat) (vs:List Vd),vs.length≤(OF i vs).size
 | _,[]=>AY _
 | i,v :: r=>by
  have:=Ev (i+1) r
  have hp:=Tq i;unfold OF;rw [AP,AP,AN];omega
open Go
theorem yI:∀ {l:LI} {left out:LI} {most:Int} {st:Int × Int} {lo:LI × LI},(∀ y∈left,(DW y).good)→(∀ y∈out,(DW y).good)→JR l (ic left.length,most)=some st→IE l (left,out)=some lo→∀ x∈l,JJ x=true∧SF x
 | [],_,_,_,_,_,_,_,_,_=>fun x hx=>by cases hx
 | x :: l,left,out,most,st,lo,hl,ho,hd,hp=>by
  rw [JR] at hd;rw [IE] at hp;cases h1:MI (ic left.length,most) x with
  | none=>rw [h1] at hd; cases hd
  | some s1=>
   cases h2:MM (left,out) x with
   | none=>rw [h2] at hp; cases hp
   | some l1=>
    rw [h1] at hd;rw [h2] at hp;obtain ⟨g1,g2,g3⟩:=yJ hl ho h1 h2;have hx:JJ x=true∧SF x:=by
     obtain ⟨hne,hr,hd'⟩:=jD h1;refine ⟨hr,?_⟩;have hlen:0 < left.length:=by simp only [ic] at hne; omega
     have ht:(DR left).good:=hl _ (SH hlen).1;unfold MM at h2;rcases hd' with ⟨hs,_⟩ | ⟨hs,_⟩
     ·unfold JJ at hr;rw [hs,DC] at hr;simp only [AH,B3] at hr;unfold SF HE;omega
     ·have hpl:=mO hr hs;rw [hs] at h2;cases hc:(decide (FY x < ((DR left).g (FA x).toNat).lo)||decide (FY x≥((DR left).g (FA x).toNat).hi)) with
      | true=>simp only [hc,B9,CO] at h2; cases h2
      | false=>
       simp only [van,BQ] at hc
       have:=ht (FA x).toNat (by omega)
       unfold SF HE;omega
    obtain ⟨a,b⟩:=l1;obtain ⟨c,d⟩:=s1;obtain rfl:c=ic a.length:=g3;have ih:=yI g1 g2 hd hp;intro y hy;rcases AU.1 hy with rfl | hy
    ·exact hx
    ·exact ih y hy
theorem zbr {x:IV} (h:JJ x=true):WY x=true:=by
 unfold JJ at h;unfold WY;cases hs:HT x with
 | true=>
  rw [hs,DC] at h;simp only [AH,B3] at h;simp [h.1,h.2]
 | false=>
  rw [hs,DD] at h;simpa using h
theorem Jm {m:Md} {q:Qy} {s:Sr} (h:s.v.kind=2∨s.v.bare=true):(FV m q s).v.kind=2∨(FV m q s).v.bare=true:=by
 unfold FV;cases GG m q (DR s.left) with
 | true=>
  rw [DC];cases (ic (s.left.length - 1)==0) with
  | true=>exact .inr rfl
  | false=>exact h
 | false=>
  rw [DD];cases G0 m q (DR s.left).low (DR s.left).s4.hi with
  | true=>exact .inl rfl
  | false=>
   rw [DD];cases (EL m q (DR s.left)).isSome with
   | true=>exact h
   | false=>exact .inr rfl
theorem pG {m:Md} {q:Qy}:∀ (d:Nat) (s:Sr),s.v.kind=2∨s.v.bare=true→(KW m q d s).v.kind=2∨(KW m q d s).v.bare=true
 | 0,_,h=>h
 | d+1,s,h=>by
  rw [KW];cases I3 q s with
  | true=>exact h
  | false=>exact pG d _ (Jm h)
theorem zbA (m:Md) (q:Qy):(HI m q).kind=2∨(HI m q).bare=true:=by
 have hn:(RU m q).v.kind=2∨(RU m q).v.bare=true:=by
  unfold RU;cases E6 m q <;> exact .inr rfl
 have h:=pG (m:=m) (q:=q) (q.bu.toNat+1) _ hn;unfold HI;generalize KW m q (q.bu.toNat+1) (RU m q)=s at h;rcases h with h | h
 ·exact .inl (by simp [GR,h])
 ·exact .inr h
theorem To {b:Bx} (hb:b.good) {p:Pt} {t:Int} (h:b.has p t=true):HE p.p0∧HE p.p1∧HE p.p2∧HE p.p3∧HE t:=by
 unfold Bx.has Sp.has at h;simp only [AH,AQ] at h;have h0 : -2147483648≤b.s0.lo∧b.s0.lo≤b.s0.hi∧b.s0.hi≤2147483647:=hb 0 (by omega);have h1 : -2147483648≤b.s1.lo∧b.s1.lo≤b.s1.hi∧b.s1.hi≤2147483647:=hb 1 (by omega);have h2 : -2147483648≤b.s2.lo∧b.s2.lo≤b.s2.hi∧b.s2.hi≤2147483647:=hb 2 (by omega);have h3 : -2147483648≤b.s3.lo∧b.s3.lo≤b.s3.hi∧b.s3.hi≤2147483647:=hb 3 (by omega);have h4 : -2147483648≤b.s4.lo∧b.s4.lo≤b.s4.hi∧b.s4.hi≤2147483647:=hb 4 (by omega);unfold HE;omega
open Go
theorem y9 {m:Md} {q:Qy} (hr:E6 m q=true):(HI m q).right=true∧(HI m q).rng∧((HI m q).kind=1∨(HI m q).kind=2∨(HI m q).kind=3)∧(HI m q).spent≤q.bu ∧
  ((HI m q).kind=3→(HI m q).spent=q.bu)∧((HI m q).kind≠3→1≤(HI m q).spent):=by
 have h3:=(WR hr).2.2.1;have hb:=zbA m q;have hg:=nN hr;have hnew:RU m q=⟨[(GW q).I],[],Vd.none,0⟩:=by unfold RU; rw [hr,DC]
 obtain ⟨hi,ho⟩:=y3 hr (q.bu.toNat+1) _ (zbl hr) (by show q.bu < 0+_; omega);unfold HI at hb ⊢;rw [hnew] at hb ⊢;generalize KW m q (q.bu.toNat+1) _=s at hi ho hb;have hsp:=hi.sp;have r0:decide (0≤(GR s).spent)=true:=AE hsp.1;have r1:decide ((GR s).spent≤65536)=true:=AE (by show s.spent≤65536; omega);have hspI:HE (GR s).spent:=by show HE s.spent; unfold HE; omega
 have bare_rng:(GR s).bare=true→(∀ x∈(GR s).proof,SF x)→(GR s).rng:=fun hbare hst=>by
  obtain ⟨z0,z1,z2,z3,z4⟩:=Jl hbare;exact { w0:=by rw [z0]; exact OG,w1:=by rw [z1]; exact OG,w2:=by rw [z2]; exact OG,w3:=by rw [z3]; exact OG,twin:=by rw [z4]; exact OG,spent:=hspI,proof:=hst }
 rcases hi.kinds with hk | hk | hk
 ·have ek:(GR s).kind=3:=by simp [GR,hk]
  have hnil:(GR s).proof=[]:=(hi.opn hk).2.2.2.1;have hbare:(GR s).bare=true:=by
   rcases hb with h | h
   ·omega
   ·exact h
  have heq:s.spent=q.bu:=by
   unfold I3 at ho;rw [hk] at ho
   have:s.spent≥q.bu:=by simpa using ho
   omega
  refine ⟨?_,bare_rng hbare (fun x hx=>by rw [hnil] at hx; cases hx),.inr (.inr ek),hsp.2,fun _=>heq,fun h=>absurd ek h⟩;unfold Vd.right;rw [r0,r1,hnil,hbare,show ((GR s).kind==3)=true by rw [ek]; rfl];simp
 ·have ek:(GR s).kind=1:=by simp [GR,hk]
  have hbare:(GR s).bare=true:=by
   rcases hb with h | h
   ·omega
   ·exact h
  obtain ⟨hrp,hl,hlen,hvp⟩:=hi.holds hk;have epr:(GR s).proof=s.proof:=hvp;obtain ⟨outs,hps,_⟩:=hrp.ps;obtain ⟨most,hdp,_,_⟩:=hrp.dp;have hst:∀ x∈(GR s).proof,JJ x=true∧SF x:=by
   rw [epr];refine yI (left:=[(GW q).I]) (out:=[]) (most:=1) (fun y hy=>?_) (fun y hy=>by cases hy) hdp hps;obtain rfl:=BU.1 hy;rw [HW]; exact hg
  have hl1:1≤s.proof.length:=by
   cases hp:s.proof with
   | nil=>
    rw [hp,hl] at hdp
    have:=congrArg Prod.fst (CS hdp)
    exact absurd (show (1:Int)=0 from this) (by decide)
   | cons x r=>simp
  have hsB:QO (GR s).proof=true:=by
   unfold QO;rw [epr,AE hl1,AE (show s.proof.length≤65536 by simp only [ic] at hlen; omega),BH,BH,CP];exact fun x hx=>zbr (hst x (by rw [epr]; exact hx)).1
  refine ⟨?_,bare_rng hbare (fun x hx=>(hst x hx).2),.inl ek,hsp.2,fun h=>by omega,fun _=>by show 1≤s.spent; simp only [ic] at hlen; omega⟩;unfold Vd.right;rw [r0,r1,hbare,hsB,show ((GR s).kind==1)=true by rw [ek]; rfl];rfl
 ·have ek:(GR s).kind=2:=by simp [GR,hk]
  obtain ⟨hvp,hs1,hh,_⟩:=hi.fails hk;have hnil:(GR s).proof=[]:=hvp;have hin:=To hg hh;refine ⟨?_,{ w0:=hin.1,w1:=hin.2.1,w2:=hin.2.2.1,w3:=hin.2.2.2.1,twin:=hin.2.2.2.2,spent:=hspI,proof:=fun x hx=>by rw [hnil] at hx; cases hx },.inr (.inl ek),hsp.2,fun h=>by omega,fun _=>hs1⟩;unfold Vd.right;rw [r0,r1,hnil,show ((GR s).kind==2)=true by rw [ek]; rfl];simp
theorem Ff:gK.right=true∧gK.rng:=⟨by decide,{ w0:=OG,w1:=OG,w2:=OG,w3:=OG,twin:=OG,spent:=OG,proof:=fun x hx=>by cases hx }⟩
theorem It {m:Md} {q:Qy} (hr:E6 m q=true):(ZH m q).right=true∧(ZH m q).rng:=by
 unfold ZH;cases ((HI m q).kind==3||WM m q (HI m q)) with
 | true=>exact ⟨(y9 hr).1,(y9 hr).2.1⟩
 | false=>exact Ff
theorem Ir {m:Md} {l:BA} (h:ZG m l=true):E6 m (GP l)=true:=by
 unfold ZG at h;simp only [AH] at h;exact h.2.2
theorem gT (m:Md) (l:BA):(E9 m l).right=true∧(E9 m l).rng:=by
 unfold E9;cases h:ZG m l with
 | true=>exact It (Ir h)
 | false=>exact Ff
theorem mJ (m:Md):∀ (ls:LI) (s:BA) (i:Nat),R5 m s i ls=s++OF i (ls.map fun x=>E9 m x.toStr)
 | [],s,i=>by
  show s=s++GA;exact (ByteArray.append_empty).symm
 | x :: l,s,i=>by
  rw [R5,mJ m l,AZ,OF,C3,C3]
def P1 (m:Md) (ls:LI):List Vd:=ls.map fun x=>E9 m x.toStr
theorem mQ {a:BA} (h:L6 a=true) (b:BA):JU a b=OF 0 (P1 (ER a) (H2 b)):=by
 unfold JU P1;rw [h,DC,mJ];exact ByteArray.empty_append
theorem Iu (m:Md) (ls:LI):∀ v∈P1 m ls,v.right=true∧v.rng:=by
 intro v hv;obtain ⟨x,_,rfl⟩:=CY.1 hv;exact gT m x.toStr
open Go Go.Proofs
theorem nB:DQ PR B0 31 PY:=by
 refine D1 [(46,OS),(47,TH)] [] PY [[.list false [.str]]] Tryz.func31 Rg ⟨fP,Ax,trivial⟩ ?_;intro vs r hwf h;unfold PY at h;split at h
 ·rename_i s;cases hg:(decide (s.size < 4294967281)) with
  | false=>rw [hg] at h; simp [R.get] at h
  | true=>
  rw [hg,R.get_br,DC,R.get_ok] at h;refine ⟨0,(Xn 0 s).trans ?_⟩;have hz:=A1 hg;have ht:=bM s FE;rw [show decide (1≤AF { data:=#[10] })=true from rfl,CE,AE (show (HM s { data:=#[10] }).size < 4294967281 by exact Nat.lt_of_le_of_lt ht hz),DC,← h];unfold H2;cases (s.toList==GA.toList) <;> rfl
 ·simp [R.get] at h
theorem Ad:DQ PR B0 32 S6:=by
 refine D1 [(73,XI),(26,XX),(65,MB),(35,Y0)] [] S6 [[.z,.list true [.bool,.z,.z],.z,.z,.z,.z,.z,.z]] Tryz.func32 Rf ⟨zbV,zca,bD,zcS,trivial⟩ ?_;intro vs r hwf h;unfold S6 at h;split at h
 ·rename_i m l;replace h:=JK h;obtain ⟨m,rfl,h⟩:=h;cases hg:(decide (l.size < 4294967281)) with
  | false=>rw [hg] at h; simp [R.get] at h
  | true=>
  rw [hg,R.get_br,DC,R.get_ok] at h;refine ⟨0,(Xm 0 m l).trans ?_⟩;rw [hg,DC,← h];unfold E9 ZG ZH;rw [show (TQ l != m.d)=!(TQ l==m.d) from rfl];cases TR l
  ·rfl
  cases (TQ l==m.d)
  ·rfl
  cases E6 m (GP l)
  ·rfl
  cases ((HI m (GP l)).kind==3)
  ·cases WM m (GP l) (HI m (GP l)) <;> rfl
  ·rfl
 ·simp [R.get] at h
theorem yV (m:Md) (s:BA) (i:Nat) (l:LI):s.size+l.length≤(R5 m s i l).size:=by
 rw [mJ,AP]
 have:=Ev i (l.map fun x=>E9 m x.toStr)
 rw [B7] at this;omega
theorem zC (N:Nat) (a:BA) (ls:LI) (hs:∀ x∈ls,x.toStr.size < 4294967281) (hl:ls.length≤strMax) (K:Out→St→DH) (hx:∀ x y so,K (.exit 0) (SP a GA ls x y so)=some (.str so,[])) :
  ∀ (d i n:Nat) (so:BA),i+d=ls.length→d < n→(R5 (ER a) so i (ls.drop i)).size≤strMax →
   DT (Q3 N) (DE TV [1,1,1,1,0,1,0,0]) ⟨[4,5,7,18,19,20],[5,7],[]⟩ n (SP a GA ls (ic ls.length) (i:Int) so) K=some (.str (R5 (ER a) so i (ls.drop i)),[])
 | 0,i,n+1,so,hd,_,_=>by
  rw [D2,Co,JC (by omega),CN (by omega),DD];exact hx _ _ _
 | d+1,i,n+1,so,hd,hn,hz=>by
  have hi:i < ls.length:=by omega
  rw [A9 hi] at hz ⊢;rw [R5] at hz ⊢;have h1:=yV (ER a) (so++G6 i++FH (E9 (ER a) ls[i].toStr)) (i+1) (ls.drop (i+1));have h2:(so++G6 i++FH (E9 (ER a) ls[i].toStr)).size=so.size+(FF.size+(DJ (i:Int)).size+FE.size)+(FH (E9 (ER a) ls[i].toStr)).size:=by
   unfold G6;simp only [AP]
  have e1:FF.size=6:=rfl;have e2:FE.size=1:=rfl;have h3:(so++G6 i).size=so.size+(FF.size+(DJ (i:Int)).size+FE.size):=by
   unfold G6;simp only [AP]
  have h4:=hs ls[i] (CX hi);unfold strMax at hl;rw [D2,Co,IN hi,I0,HJ (by omega),JB hi];rw [AE (show AF { data:=#[113,117,101,114,121,32] }+(DJ (i:Int)).size≤strMax by show FF.size+_≤_; omega)];rw [AE (show AF ({ data:=#[113,117,101,114,121,32] }++DJ (i:Int))+AF { data:=#[10] }≤strMax by rw [AP]; show FF.size+_+FE.size≤_; omega)];rw [AE (show so.size+(ZY (i:Int)).size≤strMax by rw [← AP]; show (so++G6 i).size≤_; omega)];rw [AE h4,AE (show (FH (E9 (ER a) ls[i].toStr)).size≤strMax by omega)];rw [AE (show (so++ZY (i:Int)).size+(FH (E9 (ER a) ls[i].toStr)).size≤strMax by show (so++G6 i).size+_≤_; omega)];simp only [DC,CE];exact zC N a ls hs (by unfold strMax; omega) K hx d (i+1) n _ (by omega) (by omega) hz
 | 0,_,0,_,_,h,_=>by omega
 | _+1,_,0,_,_,h,_=>by omega
theorem zdd {s sep:BA} {n:Nat} (h:s.size < n):∀ x∈D5 s sep,x.size < n:=fun x hx=>by
 have:=(US sep _ s).2 x hx
 omega
theorem vR {s:BA} {n:Nat} (h:s.size < n):∀ x∈H2 s,x.toStr.size < n:=by
 intro x hx;unfold H2 at hx;cases he:(s.toList==GA.toList) with
 | true=>rw [he,DC] at hx; cases hx
 | false=>
  rw [he,DD] at hx;obtain ⟨y,hy,rfl⟩:=CY.1 hx;have ht:=bM s FE;exact zdd (Nat.lt_of_le_of_lt ht h) y hy
theorem Ae:DQ PR B0 22 S7:=by
 refine D1 [(24,S2),(32,S6),(31,PY),(43,OR),(56,Q5),(60,Q6),(19,TJ)] [(6,⟨[4,5,7,18,19,20],[5,7],[]⟩)] S7 [[.str]] Tryz.func22 Rh ⟨z8,Ad,nB,fO,nC,nD,Ay,trivial⟩ ?_;intro vs r hwf h;unfold S7 at h;split at h
 ·rename_i a b;cases hg:(decide (a.size < 4294967281)&&(decide (b.size < 4294967281)&&decide ((JU a b).size≤strMax))) with
  | false=>rw [hg] at h; simp [R.get] at h
  | true=>
  rw [hg,R.get_br,DC,R.get_ok] at h;rw [AH,AH] at hg;have hz:=A1 hg.2.2;refine ⟨(H2 b).length+1,(Xo _ a b).trans ?_⟩;rw [hg.1,DC,← h];unfold JU at hz ⊢;cases ht:L6 a with
  | false=>rfl
  | true=>
   rw [ht,DC] at hz;simp only [A2,DD,DC];rw [hg.2.1,DC];have hl:=yV (ER a) GA 0 (H2 b);have e0:GA.size=0:=rfl
   have:=zC ((H2 b).length+1) a (H2 b) (vR (A1 hg.2.1)) (by omega) _ (fun x y so=>Nc ((H2 b).length+1) a GA (H2 b) x y so) (H2 b).length 0 ((H2 b).length+1) GA (by omega) (by omega) (by rw [B4]; exact hz)
   rw [B4] at this;exact this
 ·simp [R.get] at h
open Go Go.Proofs
open Go Go.Proofs
theorem Ve (s:BA):(H2 s).length≤s.size+1:=by
 unfold H2;cases (s.toList==GA.toList) with
 | true=>exact BZ _
 | false=>
  rw [DD,B7];have h1:=(US FE (Lib.countB (HM s FE) FE) (HM s FE)).1;have h2:=Lib.countB_le FE (by decide) _ (HM s FE) (AY _);have h3:=bM s FE;show (Lib.splitB FE 0 (Lib.countB (HM s FE) FE) (HM s FE)).length≤_;omega
open Go
open Go
theorem Qy.In.sp {q:Qy} (hq:q.In):∀ s∈q.spans,E2 s.1∧E2 s.2:=by
 intro s hs;simp only [Qy.spans,AU,CL,C1] at hs;rcases hs with rfl | rfl | rfl | rfl | rfl
 ·exact ⟨hq.a0,hq.b0⟩
 ·exact ⟨hq.a1,hq.b1⟩
 ·exact ⟨hq.a2,hq.b2⟩
 ·exact ⟨hq.a3,hq.b3⟩
 ·exact ⟨hq.a4,hq.b4⟩
open Go
open Go
def HZ (x:Int):BA:=strOfNums (A5 IV.toInt [IV.int (AA vbx (AA AB (48+AA AB (Int.tdiv x 10))))])
def FB (x:Int):BA:=strOfNums (A5 IV.toInt [IV.int (AA vbx (AA AB (48+Int.tmod x 10)))])
def Qy.I (q:Qy):IV:=.agg [.int q.k,.int q.c,.int q.a0,.int q.b0,.int q.a1,.int q.b1,.int q.a2,.int q.b2,.int q.a3,.int q.b3,.int q.a4,.int q.b4,.int q.lo,.int q.hi,.int q.ft,.bool q.fl,.int q.bu]
def PH:LI→LI→Bool
 | [],[]=>true
 | x :: l,y :: m=>(x.toStr.toList==y.toStr.toList)&&PH l m
 | _,_=>false
def X2:DO
 | [.list false [.str] l,.list false [.str] m]=>.ok (.bool (PH l m)) []
 | _=>.no
def X6:DO
 | []=>.ok (.bool true) []
 | _=>.no
def gS:DO
 | [f,.str _,.str _,.bool _]=>oL f fun _=>.ok (.bool true) []
 | _=>.no
open Go
open Go
open Go Go.Proofs
theorem za3 {m:Md} (h:EQ m=true):1≤(FI m).size∧(FI m).size≤300000:=by
 obtain ⟨hd,hc,hl,_,ht⟩:=kZ h;have hp:FI m=FO (KQ m):=by unfold FI; rw [h]; rfl
 have hall:∀ (ts:LI),ts.all (GY m.d m.c)=true→(∀ l∈F6 ts,l.length≤8∧∀ w∈l,w.size≤100)∧(F6 ts).length≤32*ts.length:=fun ts=>by
  induction ts with
  | nil=>exact fun _=>⟨fun l hl=>(by cases hl),AY _⟩
  | cons t r ih=>
   intro h;rw [vaU,AH] at h;obtain ⟨i1,i2⟩:=ih h.2;obtain ⟨j1,j2⟩:=Ea hc.2 h.1;rw [F6];refine ⟨fun l hl=>?_,?_⟩
   ·rcases AV.1 hl with hl | hl
    ·exact j1 l hl
    ·exact i1 l hl
   ·rw [AW,AN];omega
 obtain ⟨a1,a2⟩:=hall m.ts ht;have hz:=nW (KQ m) (fun l hl=>by
  have hl:l∈QF m++F6 m.ts:=hl;rcases AV.1 hl with hl | hl
  ·exact uQ h l hl
  ·exact a1 l hl)
 have hn:(KQ m).length=2+(F6 m.ts).length:=by
  show (QF m++F6 m.ts).length=_;rw [AW];rfl
 rw [hp];refine ⟨?_,by omega⟩;have e:FO (KQ m)=E8 [L7,DJ m.d,DJ m.c]++FO (([IC :: ([m.b0,m.b1,m.b2].take m.c.toNat).map DN])++F6 m.ts):=rfl;rw [e,AP]
 have:1≤(E8 [L7,DJ m.d,DJ m.c]).size:=by
  unfold E8;rw [AP];have e1:AF NI=1:=rfl;omega
 omega
open Go
theorem Ub (i:Nat) (h:i≤9223372036854775807):(DJ (i:Int)).size≤21:=ZZ (by show -9223372036854775808≤_; omega) (by show _≤(9223372036854775807:Int); omega)
theorem jW (i:Nat) (h:i≤1000000000):(G6 i).size≤28:=by
 have:=Ub i (by omega)
 unfold G6;rw [AP,AP];show 6+_+1≤28;omega
theorem Eu:∀ (vs:List Vd) (i:Nat),i+vs.length≤1000000000→(∀ v∈vs,v.rng)→(OF i vs).size≤4000028*vs.length
 | [],_,_,_=>BZ _
 | v :: r,i,hi,h=>by
  have h1:=l6 (h v (AT ..));have h2:=Eu r (i+1) (by simp only [AN] at hi; omega) fun x hx=>h x (AX _ hx)
  have h3:=jW i (by simp only [AN] at hi; omega);unfold OF;rw [AP,AP,AN];omega
theorem y8 (a b:BA) (h:(H2 b).length≤1000):(JU a b).size≤4000028*1000:=by
 cases ht:L6 a with
 | false=>
  unfold JU;rw [ht,DD];show 6≤_;omega
 | true=>
  rw [mQ ht]
  have:=Eu (P1 (ER a) (H2 b)) 0 (by unfold P1; rw [B7]; omega) fun v hv=>(Iu _ _ v hv).2
  unfold P1 at this;rw [B7] at this;unfold P1;omega
def SJ:BA→Nat→List Vd→BA
 | s,_,[]=>s
 | s,i,v :: r=>SJ (s++G6 i++FH v) (i+1) r
theorem Es:∀ (vs:List Vd) (s:BA) (i:Nat),SJ s i vs=s++OF i vs
 | [],s,i=>by
  show s=s++GA;exact (ByteArray.append_empty).symm
 | v :: r,s,i=>by
  rw [SJ,Es r,OF,C3,C3]
theorem Et (vs:List Vd) (i:Nat):SJ GA i vs=OF i vs:=by
 rw [Es];exact ByteArray.empty_append
open Go Go.Proofs
def G4 (N:Nat):Env:=DZ [(17,NN),(38,PW),(71,S3)] [(4,⟨[1,2,4,5,6,7],[2,500,501],[⟨.tmp 5,500,111,true,[.bool,.z,.z,.z,.z,.z]⟩,⟨.tmp 6,501,3,false,[.z]⟩]⟩),(14,⟨[4,11,100,101,102],[500,502],[⟨.tmp 11,502,103,false,[.int .u64]⟩]⟩)] 113 N
abbrev U9 (x1:Int) (n5 n6:Nat) (x7 u06:Int) (u00 u01 u02 u03 u04 u05:LI):St:=⟨[(1,(.i x1)),(2,(.ptr 2 0 0)),(4,.zs),(5,(.row 500 0 n5)),(6,(.row 501 0 n6)),(7,(.i x7))],[(2,(some (.box [.i u06,.list false [.z] u00,.list false [.z] u01,.list false [.z] u02,.list false [.z] u03]))),(500,(some (.row true 111 true [.bool,.z,.z,.z,.z,.z] u04))),(501,(some (.row true 3 false [.z] u05)))]⟩
abbrev XC (n11 n100:Nat) (x101 x102:Int) (u00 u01:LI):St:=⟨[(4,.zs),(11,(.row 502 0 n11)),(100,(.row 500 0 n100)),(101,(.i x101)),(102,(.i x102))],[(500,(some (.row true 111 true [.bool,.z,.z,.z,.z,.z] u00))),(502,(some (.row true 103 false [.int .u64] u01)))]⟩
theorem Wx (N:Nat) (u00:Int) (u01 t_By t_At u02:LI) (a1:Int):DS (G4 N) K5 [.tmp 4] [[.list false [.int .u64]]] [.agg [.i u00,.list false [.z] u01,.list false [.z] t_By,.list false [.z] t_At,.list false [.z] u02],.i a1]=(DT (G4 N) (DE K5 [1,1,1,0,1,0,0]) ⟨[1,2,4,5,6,7],[2,500,501],[⟨(.tmp 5),500,111,true,[.bool,.z,.z,.z,.z,.z]⟩,⟨(.tmp 6),501,3,false,[.z]⟩]⟩ N (U9 a1 1 1 0 u00 u01 t_By t_At u02 [(IV.agg [IV.bool true,IV.int (DL (D9 u02 0) (-3000) 3000),IV.int 0,IV.int 0,IV.int 0,IV.int 0])] [(IV.int 0)]) (DK 0 (DM (G4 N) (DE K5 [1,1,1,1]) (DP (G4 N) none [.tmp 4] [[.list false [.int .u64]]])))):=by kernel_rfl
theorem Ck (N:Nat) (x1:Int) (n5 n6:Nat) (x7 u06:Int) (u00 u01 u02 u03 u04 u05:LI) (again:St→DH) (k:Out→St→DH):E4 (G4 N) (DE K5 [1,1,1,0,1,0,0]) (U9 x1 n5 n6 x7 u06 u00 u01 u02 u03 u04 u05) (EO again ⟨[1,2,4,5,6,7],[2,500,501],[⟨(.tmp 5),500,111,true,[.bool,.z,.z,.z,.z,.z]⟩,⟨(.tmp 6),501,3,false,[.z]⟩]⟩ k)=(cond (decide (x7 < ic (AG u00))) (cond (decide (x7 < 7)) (cond (decide (0≤x7)&&decide (x7 < ic (AG u00))) (cond (decide (L8 0 (AA AB (ic (n6 - 0) - 1))=0)) none (cond (decide (0≤DL (IV.toInt (AI u00 (AD x7) default)) 0 (AA AB (ic (n6 - 0) - 1)))&&decide (DL (IV.toInt (AI u00 (AD x7) default)) 0 (AA AB (ic (n6 - 0) - 1)) < ic (n6 - 0))) (cond (decide (0≤x7)) (cond (decide (L8 0 (AA AB (x1 - 1))=0)) none (cond (decide (0≤x7)) (cond (decide (0≤IV.toInt (AI u05 (0+AD (DL (IV.toInt (AI u00 (AD x7) default)) 0 (AA AB (ic (n6 - 0) - 1)))) default))&&decide (IV.toInt (AI u05 (0+AD (DL (IV.toInt (AI u00 (AD x7) default)) 0 (AA AB (ic (n6 - 0) - 1)))) default) < ic (n5 - 0))) (cond (decide (0≤AA AB (AA AB (2*x7)+1))) (cond (decide (0≤AA AB (AA AB (2*x7)+2))) (cond (decide ((n5+AG (AR 0 (AK 2 [IV.agg [IV.bool true,IV.int (DL (D9 u03 (AA AB (AA AB (2*x7)+1))) (-3000) 3000),IV.int 0,IV.int 0,IV.int 0,IV.int 0],IV.agg [IV.bool true,IV.int (DL (D9 u03 (AA AB (AA AB (2*x7)+2))) (-3000) 3000),IV.int 0,IV.int 0,IV.int 0,IV.int 0]])))*TI.bytes (Env.tyd (G4 N) 111)≤D6)) (cond (decide (0≤DL (IV.toInt (AI u00 (AD x7) default)) 0 (AA AB (ic (n6 - 0) - 1)))&&decide (DL (IV.toInt (AI u00 (AD x7) default)) 0 (AA AB (ic (n6 - 0) - 1))≤ic (n6 - 0))) (cond (decide ((0+AG (AR 0 (AK (0+AD (DL (IV.toInt (AI u00 (AD x7) default)) 0 (AA AB (ic (n6 - 0) - 1)))) u05)))*TI.bytes (Env.tyd (G4 N) 3)≤D6)) (cond (decide (0≤AA AB (DL (IV.toInt (AI u00 (AD x7) default)) 0 (AA AB (ic (n6 - 0) - 1))+1))&&decide (AA AB (DL (IV.toInt (AI u00 (AD x7) default)) 0 (AA AB (ic (n6 - 0) - 1))+1)≤ic (n6 - 0))) (cond (decide ((0+AG (AR 0 (AK (0+AD (DL (IV.toInt (AI u00 (AD x7) default)) 0 (AA AB (ic (n6 - 0) - 1)))) u05))+AG (AR (0+AD (AA AB (DL (IV.toInt (AI u00 (AD x7) default)) 0 (AA AB (ic (n6 - 0) - 1))+1))) (AK (0+(n6 - 0)) u05)))*TI.bytes (Env.tyd (G4 N) 3)≤D6)) (cond (decide ((0+AG (AR 0 (AK (0+AD (DL (IV.toInt (AI u00 (AD x7) default)) 0 (AA AB (ic (n6 - 0) - 1)))) u05))+AG (AR (0+AD (AA AB (DL (IV.toInt (AI u00 (AD x7) default)) 0 (AA AB (ic (n6 - 0) - 1))+1))) (AK (0+(n6 - 0)) u05))+AG (AR 0 (AK 2 [IV.int (ic (n5 - 0)),IV.int (AA AB (ic (n5 - 0)+1))])))*TI.bytes (Env.tyd (G4 N) 3)≤D6)) (again (U9 x1 (n5+AG (AR 0 (AK 2 [IV.agg [IV.bool true,IV.int (DL (D9 u03 (AA AB (AA AB (2*x7)+1))) (-3000) 3000),IV.int 0,IV.int 0,IV.int 0,IV.int 0],IV.agg [IV.bool true,IV.int (DL (D9 u03 (AA AB (AA AB (2*x7)+2))) (-3000) 3000),IV.int 0,IV.int 0,IV.int 0,IV.int 0]]))) (0+AG (AR 0 (AK (0+AD (DL (IV.toInt (AI u00 (AD x7) default)) 0 (AA AB (ic (n6 - 0) - 1)))) u05))+AG (AR (0+AD (AA AB (DL (IV.toInt (AI u00 (AD x7) default)) 0 (AA AB (ic (n6 - 0) - 1))+1))) (AK (0+(n6 - 0)) u05))+AG (AR 0 (AK 2 [IV.int (ic (n5 - 0)),IV.int (AA AB (ic (n5 - 0)+1))]))) (AA AB (x7+1)) u06 u00 u01 u02 u03 (AK n5 (List.set u04 (0+AD (IV.toInt (AI u05 (0+AD (DL (IV.toInt (AI u00 (AD x7) default)) 0 (AA AB (ic (n6 - 0) - 1)))) default))) (MN true [Kd.bool,Kd.int AB,Kd.int AB,Kd.int AB,Kd.int AB,Kd.int AB] (AI u04 (0+AD (IV.toInt (AI u05 (0+AD (DL (IV.toInt (AI u00 (AD x7) default)) 0 (AA AB (ic (n6 - 0) - 1)))) default))) default) 0 [IV.bool false,IV.int 0,IV.int (DL (D9 u01 x7) 0 (AA AB (x1 - 1))),IV.int (DL (D9 u02 x7) 0 9),IV.int (ic (n5 - 0)),IV.int (AA AB (ic (n5 - 0)+1))]))++AR 0 (AK 2 [IV.agg [IV.bool true,IV.int (DL (D9 u03 (AA AB (AA AB (2*x7)+1))) (-3000) 3000),IV.int 0,IV.int 0,IV.int 0,IV.int 0],IV.agg [IV.bool true,IV.int (DL (D9 u03 (AA AB (AA AB (2*x7)+2))) (-3000) 3000),IV.int 0,IV.int 0,IV.int 0,IV.int 0]])) (AK (0+AG (AR 0 (AK (0+AD (DL (IV.toInt (AI u00 (AD x7) default)) 0 (AA AB (ic (n6 - 0) - 1)))) u05))+AG (AR (0+AD (AA AB (DL (IV.toInt (AI u00 (AD x7) default)) 0 (AA AB (ic (n6 - 0) - 1))+1))) (AK (0+(n6 - 0)) u05))) (AK (0+AG (AR 0 (AK (0+AD (DL (IV.toInt (AI u00 (AD x7) default)) 0 (AA AB (ic (n6 - 0) - 1)))) u05))) (AK 0 []++AR 0 (AK (0+AD (DL (IV.toInt (AI u00 (AD x7) default)) 0 (AA AB (ic (n6 - 0) - 1)))) u05))++AR (0+AD (AA AB (DL (IV.toInt (AI u00 (AD x7) default)) 0 (AA AB (ic (n6 - 0) - 1))+1))) (AK (0+(n6 - 0)) u05))++AR 0 (AK 2 [IV.int (ic (n5 - 0)),IV.int (AA AB (ic (n5 - 0)+1))])))) none) none) none) none) none) none) none) none) none) none)) none) none)) none) (k (.exit 0) (U9 x1 n5 n6 x7 u06 u00 u01 u02 u03 u04 u05))) (k (.exit 0) (U9 x1 n5 n6 x7 u06 u00 u01 u02 u03 u04 u05))):=by kernel_rfl
theorem My (N:Nat) (x1:Int) (n5 n6:Nat) (x7 u06:Int) (u00 u01 u02 u03 u04 u05:LI):(DK 0 (DM (G4 N) (DE K5 [1,1,1,1]) (DP (G4 N) none [.tmp 4] [[.list false [.int .u64]]]))) (.exit 0) (U9 x1 n5 n6 x7 u06 u00 u01 u02 u03 u04 u05)=(DT (G4 N) (DE K5 [1,1,1,1,1,0,1,0,0]) ⟨[4,11,100,101,102],[500,502],[⟨(.tmp 11),502,103,false,[.int .u64]⟩]⟩ N (XC 0 n5 (ic (n5 - 0)) 0 u04 []) (DK 2 (DM (G4 N) (DE K5 [1,1,1,1,1,1]) (DP (G4 N) none [.tmp 4] [[.list false [.int .u64]]])))):=by kernel_rfl
theorem Cl (N n11 n100:Nat) (x101 x102:Int) (u00 u01:LI) (again:St→DH) (k:Out→St→DH):E4 (G4 N) (DE K5 [1,1,1,1,1,0,1,0,0]) (XC n11 n100 x101 x102 u00 u01) (EO again ⟨[4,11,100,101,102],[500,502],[⟨(.tmp 11),502,103,false,[.int .u64]⟩]⟩ k)=(cond (decide (x102 < x101)) (cond (decide (0≤x102)&&decide (x102 < ic (n100 - 0))) (cond (decide ((n11+AG (AR 0 (AK 1 [IV.int (HR (IV.toBool (IV.cell (AI u00 (0+AD x102) default) 0)) (IV.toInt (IV.cell (AI u00 (0+AD x102) default) 1)) (IV.toInt (IV.cell (AI u00 (0+AD x102) default) 2)) (IV.toInt (IV.cell (AI u00 (0+AD x102) default) 3)) (IV.toInt (IV.cell (AI u00 (0+AD x102) default) 4)) (IV.toInt (IV.cell (AI u00 (0+AD x102) default) 5)))])))*TI.bytes (Env.tyd (G4 N) 103)≤D6)) (again (XC (n11+AG (AR 0 (AK 1 [IV.int (HR (IV.toBool (IV.cell (AI u00 (0+AD x102) default) 0)) (IV.toInt (IV.cell (AI u00 (0+AD x102) default) 1)) (IV.toInt (IV.cell (AI u00 (0+AD x102) default) 2)) (IV.toInt (IV.cell (AI u00 (0+AD x102) default) 3)) (IV.toInt (IV.cell (AI u00 (0+AD x102) default) 4)) (IV.toInt (IV.cell (AI u00 (0+AD x102) default) 5)))]))) n100 x101 (AA AB (x102+1)) u00 (AK n11 u01++AR 0 (AK 1 [IV.int (HR (IV.toBool (IV.cell (AI u00 (0+AD x102) default) 0)) (IV.toInt (IV.cell (AI u00 (0+AD x102) default) 1)) (IV.toInt (IV.cell (AI u00 (0+AD x102) default) 2)) (IV.toInt (IV.cell (AI u00 (0+AD x102) default) 3)) (IV.toInt (IV.cell (AI u00 (0+AD x102) default) 4)) (IV.toInt (IV.cell (AI u00 (0+AD x102) default) 5)))])))) none) none) (k (.exit 2) (XC n11 n100 x101 x102 u00 u01))):=by kernel_rfl
theorem Mz (N n11 n100:Nat) (x101 x102:Int) (u00 u01:LI):(DK 2 (DM (G4 N) (DE K5 [1,1,1,1,1,1]) (DP (G4 N) none [.tmp 4] [[.list false [.int .u64]]]))) (.exit 2) (XC n11 n100 x101 x102 u00 u01)=(some ((.list false [.int .u64] (AR 0 (AK n11 u01))),[])):=by kernel_rfl
open Go Go.Proofs
structure Ns.At (i:Nat) (s:Ns):Prop where
 nl:s.nodes.length=2*i+1
 ll:s.leaves.length=i+1
 lt:∀ x∈s.leaves,0≤x.toInt∧x.toInt < (2*i+1:Nat)
theorem lB {part:LI} {i:Nat} {s:Ns} (h:s.At i) (hi:i≤100):0≤HH part i s∧HH part i s < ((i+1:Nat):Int)∧L8 0 (ic s.leaves.length - 1)=((i+1:Nat):Int):=by
 have e:ic s.leaves.length=((i+1:Nat):Int):=by rw [h.ll]
 obtain ⟨m,a,b⟩:=JY (n:=(part.getD i default).toInt) (lo:=0) (hi:=ic s.leaves.length - 1) (by rw [e]; omega) (by omega) (by rw [e]; omega);unfold HH;rw [e] at a b m ⊢;exact ⟨a,by omega,by rw [m]; omega⟩
theorem zac {part:LI} {i:Nat} {s:Ns} (h:s.At i) (hi:i≤100):0≤O7 part i s∧O7 part i s < (2*i+1:Nat):=by
 obtain ⟨k0,k1,_⟩:=lB (part:=part) h hi;have hk:(HH part i s).toNat < s.leaves.length:=by rw [h.ll]; omega
 have e:s.leaves.getD (HH part i s).toNat default=s.leaves[(HH part i s).toNat]:=by simp [hk]
 unfold O7;rw [e];exact h.lt _ (CX hk)
theorem Ns.At.step {part byl atl val:LI} {dim:Int} {i:Nat} {s:Ns} (h:s.At i) (hi:i≤100):(JG part byl atl val dim i s).At (i+1):=by
 obtain ⟨k0,k1,_⟩:=lB (part:=part) h hi;refine ⟨?_,?_,?_⟩
 ·simp only [JG,AW,vay,AN,A7,h.nl];omega
 ·simp only [JG,AW,A8,C7,AN,A7,h.ll];omega
 ·intro x hx;simp only [JG,AV] at hx;rcases hx with (hx | hx) | hx
  ·have:=h.lt x (va2 hx)
   omega
  ·have:=h.lt x (va1 hx)
   omega
  ·simp only [AU,CL,C1] at hx;rcases hx with rfl | rfl
   ·simp only [IV.toInt,ic,h.nl]; omega
   ·simp only [IV.toInt,ic,h.nl]; omega
abbrev kN:List Kd:=[.bool,.z,.z,.z,.z,.z]
abbrev kF:KP:=⟨[1,2,4,5,6,7],[2,500,501],[⟨(.tmp 5),500,111,true,[.bool,.z,.z,.z,.z,.z]⟩,⟨(.tmp 6),501,3,false,[.z]⟩]⟩
abbrev bH (cl:Int) (part byl atl val:LI) (dim:Int) (s:Ns) (i:Int):St:=
 ⟨[(1,(.int .i64 dim)),(2,(.ptr 2 0 0)),(4,.zs),(5,(.row 500 0 s.nodes.length)),(6,(.row 501 0 s.leaves.length)),(7,(.int .i64 i))],[(2,(some (.box [(.int .i64 cl),(.list false [.z] part),(.list false [.z] byl),(.list false [.z] atl),(.list false [.z] val)]))),(500,(some (.row true 111 true kN s.nodes))),(501,(some (.row true 3 false [.z] s.leaves)))]⟩
theorem Zx (N:Nat):TI.bytes (Env.tyd (G4 N) 111)=48:=by rfl
theorem Tw (N:Nat):TI.bytes (Env.tyd (G4 N) 3)=8:=by rfl
theorem zba (x a b c d e f:IV):MN true kN x 0 [a,b,c,d,e,f] = .agg [a,b,c,d,e,f]:=rfl
set_option maxHeartbeats 4000000 in
theorem Zy (N:Nat) (cl:Int) (part byl atl val:LI) (dim:Int) (h1:1≤dim) (h4:dim≤4) (s:Ns) (i:Nat) (hs:s.At i) (hi:i < part.length) (h7:i < 7) (again:St→DH) (k:Out→St→DH) :
  E4 (G4 N) (DE K5 [1,1,1,0,1,0,0]) (bH cl part byl atl val dim s (i:Int)) (EO again kF k)=again (bH cl part byl atl val dim (JG part byl atl val dim i s) ((i+1:Nat):Int)):=by
 refine (Ck N dim s.nodes.length s.leaves.length i cl part byl atl val s.nodes s.leaves again k).trans ?_;obtain ⟨k0,k1,km⟩:=lB (part:=part) hs (by omega);obtain ⟨a0,a1⟩:=zac (part:=part) hs (by omega);obtain ⟨dm,_,_⟩:=JY (n:=0) (lo:=0) (hi:=dim - 1) (by omega) (by omega) (by omega);have eL:ic (s.leaves.length - 0)=ic s.leaves.length:=rfl;have eN:ic (s.nodes.length - 0)=ic s.nodes.length:=rfl;have hL:ic s.leaves.length=((i+1:Nat):Int):=by rw [hs.ll]
 have hN:ic s.nodes.length=((2*i+1:Nat):Int):=by rw [hs.nl]
 have w1:IntKind.wrap IntKind.i64 (ic s.leaves.length - 1)=ic s.leaves.length - 1:=EC (by rw [hL]; omega) (by rw [hL]; omega);have w2:IntKind.wrap IntKind.i64 (dim - 1)=dim - 1:=EC (by omega) (by omega);have w3:IntKind.wrap IntKind.i64 (2*(i:Int))=2*(i:Int):=EC (by omega) (by omega);have w4:IntKind.wrap IntKind.i64 (2*(i:Int)+1)=2*(i:Int)+1:=EC (by omega) (by omega);have w5:IntKind.wrap IntKind.i64 (2*(i:Int)+2)=2*(i:Int)+2:=EC (by omega) (by omega);have w6:IntKind.wrap IntKind.i64 (ic s.nodes.length+1)=ic s.nodes.length+1:=EC (by rw [hN]; omega) (by rw [hN]; omega);rw [eL,eN,w1,w2,w3,w4,w5,w6,Int.toNat_natCast];have eK:DL (IV.toInt (List.getD part i default)) 0 (ic s.leaves.length - 1)=HH part i s:=rfl;rw [eK];have w7:IntKind.wrap IntKind.i64 (HH part i s+1)=HH part i s+1:=EC (by omega) (by omega);rw [w7];have e0:∀ n:Nat,0+n=n:=Nat.zero_add;simp only [e0];have eA:IV.toInt (List.getD s.leaves (HH part i s).toNat default)=O7 part i s:=rfl;rw [eA,Zx,Tw];obtain ⟨q,hq⟩:∃ q:Nat,HH part i s=q:=⟨(HH part i s).toNat,by omega⟩;have eq1:(HH part i s+1).toNat=q+1:=by omega
 have eq0:(HH part i s).toNat=q:=by omega
 have hq1:q < i+1:=by omega
 have lt2:∀ x y:IV,(List.drop 0 (List.take 2 [x,y]))=[x,y]:=fun _ _=>rfl
 have lk:List.drop 0 (List.take q s.leaves)=List.take q s.leaves:=List.drop_zero;have lk2:List.drop (q+1) (List.take (s.leaves.length - 0) s.leaves)=List.drop (q+1) s.leaves:=by rw [Nat.sub_zero,List.take_length]
 rw [eq1,eq0,lt2,lt2,lk,lk2];have zA:(List.take q s.leaves).length=q:=by rw [List.length_take,hs.ll]; omega
 have zB:(List.drop (q+1) s.leaves).length=i - q:=by rw [List.length_drop,hs.ll]; omega
 rw [zA,zB];simp only [List.length_cons,List.length_nil];rw [decide_eq_true (show (i:Int) < ic part.length by simp only [ic]; omega),decide_eq_true (show (i:Int) < 7 by omega),decide_eq_true (show 0≤(i:Int) by omega),km,decide_eq_false (show ¬ ((i+1:Nat):Int)=0 by omega),
  decide_eq_true k0,decide_eq_true (show HH part i s < ic s.leaves.length by rw [hL]; exact k1),dm,decide_eq_false (show ¬ (dim - 1 - 0+1=0) by omega),decide_eq_true a0,decide_eq_true (show O7 part i s < ic s.nodes.length by rw [hN]; exact a1),
  decide_eq_true (show 0≤2*(i:Int)+1 by omega),decide_eq_true (show 0≤2*(i:Int)+2 by omega),decide_eq_true (show (s.nodes.length+(0+1+1))*48≤D6 by rw [hs.nl]; unfold D6; omega),
  decide_eq_true (show HH part i s≤ic s.leaves.length by rw [hL]; omega),decide_eq_true (show q*8≤D6 by unfold D6; omega),decide_eq_true (show 0≤HH part i s+1 by omega),decide_eq_true (show HH part i s+1≤ic s.leaves.length by rw [hL]; omega),
  decide_eq_true (show (q+(i - q))*8≤D6 by unfold D6; omega),decide_eq_true (show (q+(i - q)+(0+1+1))*8≤D6 by unfold D6; omega)]
 simp only [Bool.and_true,DC,DD];have g1:(JG part byl atl val dim i s).nodes.length=s.nodes.length+(0+1+1):=by rw [(hs.step (by omega)).nl,hs.nl]; omega
 have g2:(JG part byl atl val dim i s).leaves.length=q+(i - q)+(0+1+1):=by rw [(hs.step (by omega)).ll]; omega
 have g3:(JG part byl atl val dim i s).nodes=List.take s.nodes.length (List.set s.nodes (O7 part i s).toNat (MN true kN (List.getD s.nodes (O7 part i s).toNat default) 0 [IV.bool false,IV.int 0,IV.int (DL (D9 byl (i:Int)) 0 (dim - 1)),IV.int (DL (D9 atl (i:Int)) 0 9),IV.int (ic s.nodes.length),IV.int (ic s.nodes.length+1)])) ++
   [IV.agg [IV.bool true,IV.int (DL (D9 val (2*(i:Int)+1)) (-3000) 3000),IV.int 0,IV.int 0,IV.int 0,IV.int 0],IV.agg [IV.bool true,IV.int (DL (D9 val (2*(i:Int)+2)) (-3000) 3000),IV.int 0,IV.int 0,IV.int 0,IV.int 0]]:=by
  rw [zba,List.take_of_length_le (by rw [List.length_set]; exact Nat.le_refl _)];rfl
 have g4:(JG part byl atl val dim i s).leaves=List.take (q+(i - q)) (List.take q (List.take 0 []++List.take q s.leaves)++List.drop (q+1) s.leaves)++[IV.int (ic s.nodes.length),IV.int (ic s.nodes.length+1)]:=by
  rw [List.take_zero,List.nil_append,List.take_take,Nat.min_self,List.take_of_length_le (by rw [List.length_append,zA,zB]; exact Nat.le_refl _)];show List.take (HH part i s).toNat s.leaves++List.drop ((HH part i s).toNat+1) s.leaves++_=_;rw [eq0]
 rw [show bH cl part byl atl val dim (JG part byl atl val dim i s) ((i+1:Nat):Int)=⟨[(1,(.int .i64 dim)),(2,(.ptr 2 0 0)),(4,.zs),(5,(.row 500 0 (JG part byl atl val dim i s).nodes.length)),(6,(.row 501 0 (JG part byl atl val dim i s).leaves.length)),(7,(.int .i64 ((i+1:Nat):Int)))],[(2,(some (.box [(.int .i64 cl),(.list false [.z] part),(.list false [.z] byl),(.list false [.z] atl),(.list false [.z] val)]))),(500,(some (.row true 111 true kN (JG part byl atl val dim i s).nodes))),(501,(some (.row true 3 false [.z] (JG part byl atl val dim i s).leaves)))]⟩ from rfl,g1,g2,g3,g4,HJ (by omega)]
theorem wX (N:Nat) (cl:Int) (part byl atl val:LI) (dim:Int) (h1:1≤dim) (h4:dim≤4) (K:Out→St→DH):∀ (d i n:Nat) (s:Ns),i+d=min part.length 7→d < n→s.At i →
  (∃ j,DT (G4 N) (DE K5 [1,1,1,0,1,0,0]) kF n (bH cl part byl atl val dim s (i:Int)) K=K (.exit 0) (bH cl part byl atl val dim (WE part byl atl val dim d i s) j))∧(WE part byl atl val dim d i s).At (i+d)
 | 0,i,n+1,s,hd,hn,hs=>by
  refine ⟨⟨(i:Int),?_⟩,hs⟩;rw [D2];refine (Ck N dim s.nodes.length s.leaves.length i cl part byl atl val s.nodes s.leaves _ _).trans ?_;by_cases hp:i < part.length
  ·rw [AE (show (i:Int) < ic part.length by simp only [ic]; omega),DC,AL (show ¬ (i:Int) < 7 by omega),DD];rfl
  ·rw [AL (show ¬ (i:Int) < ic part.length by simp only [ic]; omega),DD];rfl
 | d+1,i,n+1,s,hd,hn,hs=>by
  obtain ⟨⟨j,ih⟩,ih2⟩:=wX N cl part byl atl val dim h1 h4 K d (i+1) n (JG part byl atl val dim i s) (by omega) (by omega) (hs.step (by omega));refine ⟨⟨j,?_⟩,by rw [show i+(d+1)=i+1+d by omega]; exact ih2⟩;rw [D2,Zy N cl part byl atl val dim h1 h4 s i hs (by omega) (by omega)];exact ih
 | _,_,0,_,_,h,_=>by omega
theorem zdN (N:Nat):TI.bytes (Env.tyd (G4 N) 103)=8:=by rfl
abbrev vD:KP:=⟨[4,11,100,101,102],[500,502],[⟨(.tmp 11),502,103,false,[(.int .u64)]⟩]⟩
theorem xJ (N:Nat) (L:LI) (hL:L.length≤1000):∀ (d i n:Nat) (O:LI),i+d=L.length→d < n→O.length=i →
  DT (G4 N) (DE K5 [1,1,1,1,1,0,1,0,0]) vD n ⟨[(4,.zs),(11,(.row 502 0 O.length)),(100,(.row 500 0 L.length)),(101,(.int .i64 (ic (L.length - 0)))),(102,(.int .i64 (i:Int)))],[(500,(some (.row true 111 true kN L))),(502,(some (.row true 103 false [(.int .u64)] O)))]⟩
   (DK 2 (DM (G4 N) (DE K5 [1,1,1,1,1,1]) (DP (G4 N) none [(CA 4)] [[(.list false [(.int .u64)])]])))=some (.list false [.int .u64] (O++(L.drop i).map R0),[])
 | 0,i,n+1,O,hd,hn,hO=>by
  rw [D2];refine (Cl N O.length L.length (ic (L.length - 0)) i L O _ _).trans ?_;rw [AL (show ¬ (i:Int) < ic (L.length - 0) by simp only [ic]; omega),DD];refine (Mz N O.length L.length (ic (L.length - 0)) i L O).trans ?_;rw [B4,BS,CN (by omega),CB,vak]
 | d+1,i,n+1,O,hd,hn,hO=>by
  have hi:i < L.length:=by omega
  rw [D2];refine (Cl N O.length L.length (ic (L.length - 0)) i L O _ _).trans ?_;have ih:=xJ N L hL d (i+1) n (O++[R0 L[i]]) (by omega) (by omega) (by simp [hO]);have l1:∀ x:IV,AR 0 (AK 1 [x])=[x]:=fun _=>rfl
  have eg:AI L (0+AD (i:Int)) default=L[i]:=by rw [BF,BD]; simp [hi]
  rw [AE (show (i:Int) < ic (L.length - 0) by simp only [ic]; omega),AE (show 0≤(i:Int) by omega),CE,DC,DC,eg,l1,zdN,vae,AE (show (O.length+1)*8≤D6 by rw [hO]; unfold D6; omega),DC,BS,HJ (by omega)];rw [A9 hi,AZ];rw [AW,vae,vbj] at ih;exact ih
 | _,_,0,_,_,h,_=>by omega
theorem zcj:DQ PR B0 39 X5:=by
 refine D1 [(17,NN),(38,PW),(71,S3)] [(4,kF),(14,vD)] X5 [[.list false [.int .u64]]] Tryz.func39 Qo
  ⟨fM,m9,Aa,trivial⟩ ?_
 intro vs r hwf h;unfold X5 at h;split at h
 ·rename_i cl part byl atl val dim;cases hc:(decide (1≤dim)&&decide (dim≤4)) with
  | false=>rw [hc] at h; simp [R.get] at h
  | true=>
   rw [hc,R.get_br,DC,R.get_ok] at h;simp only [AH,AQ] at hc;refine ⟨30,?_⟩;rw [← h];refine (Wx 30 cl part byl atl val dim).trans ?_;have h0:(⟨[KO (DL (D9 val 0) (-3000) 3000)],[.int 0]⟩:Ns).At 0:=⟨rfl,rfl,fun x hx=>by
    rw [BU] at hx;subst hx;exact ⟨by decide,by decide⟩⟩
   obtain ⟨⟨j,run⟩,hat⟩:=wX 30 cl part byl atl val dim hc.1 hc.2 (DK 0 (DM (G4 30) (DE K5 [1,1,1,1]) (DP (G4 30) none [(CA 4)] [[(.list false [(.int .u64)])]]))) (min part.length 7) 0 30 _ (by omega) (by omega) h0;refine run.trans ?_;have e:WE part byl atl val dim (min part.length 7) 0 ⟨[KO (DL (D9 val 0) (-3000) 3000)],[.int 0]⟩=N1 part byl atl val dim:=rfl;rw [e] at hat ⊢;have hn:=hat.nl;refine (My 30 dim (N1 part byl atl val dim).nodes.length (N1 part byl atl val dim).leaves.length j cl part byl atl val (N1 part byl atl val dim).nodes (N1 part byl atl val dim).leaves).trans ?_
   have:=xJ 30 (N1 part byl atl val dim).nodes (by omega) (N1 part byl atl val dim).nodes.length 0 30 [] (by omega) (by omega) rfl
   rw [B4,vba] at this;exact this
 ·simp [R.get] at h
open Go Go.Proofs
def II (N:Nat):Env:=DZ [(17,NN),(39,X5),(38,PW)] [(3,⟨[1,2,3,14,15],[1,2,3],[]⟩),(8,⟨[1,2,3,5],[1,2,3,500],[⟨.cell 3 5,500,88,true,[.z,.list false [.int .u64]]⟩]⟩)] 63 N
abbrev SO (x14 x15 u02 u03:Int) (u00 u01:LI) (u04 u05 u06 u07 u08 u09 u0a u0b u0c u0d:Int):St:=⟨[(1,(.ptr 1 0 0)),(2,(.ptr 2 0 0)),(3,(.ptr 3 0 0)),(14,(.i x14)),(15,(.i x15))],[(1,(some (.box [.i u02,.i u03,.list false [.z] u00,.list true [.z,.list false [.z],.list false [.z],.list false [.z],.list false [.z]] u01]))),(2,(some (.box [.i u04,.i u05,.i u06,.i u07,.i u08,.zs]))),(3,(some (.box [.i u09,.i u0a,.i u0b,.i u0c,.i u0d,.zs])))]⟩
abbrev U8 (x5 u04 u05:Int) (u00 u01:LI) (u06 u07 u08 u09 u0a u0b u0c u0d u0e u0f:Int) (u03:Nat) (u02:LI):St:=⟨[(1,(.ptr 1 0 0)),(2,(.ptr 2 0 0)),(3,(.ptr 3 0 0)),(5,(.i x5))],[(1,(some (.box [.i u04,.i u05,.list false [.z] u00,.list true [.z,.list false [.z],.list false [.z],.list false [.z],.list false [.z]] u01]))),(2,(some (.box [.i u06,.i u07,.i u08,.i u09,.i u0a,.zs]))),(3,(some (.box [.i u0b,.i u0c,.i u0d,.i u0e,.i u0f,.row 500 0 u03]))),(500,(some (.row true 88 true [.z,.list false [.int .u64]] u02)))]⟩
theorem Wu (N:Nat) (u02 u01:Int) (u00 u03:LI):DS (II N) LQ [.cell 2 30] [[.z,.z,.z,.z,.z,.list true [.z,.list false [.int .u64]]]] [.agg [.i u02,.i u01,.list false [.z] u00,.list true [.z,.list false [.z],.list false [.z],.list false [.z],.list false [.z]] u03]]=(DT (II N) (DE LQ [1,1,0,1,0,0]) ⟨[1,2,3,14,15],[1,2,3],[]⟩ N (SO (DL u01 1 3) 0 u02 u01 u00 u03 0 0 0 0 0 (DL u02 1 3) (DL u01 1 3) 0 0 0) (DK 0 (DM (II N) (DE LQ [1,1,1]) (DP (II N) none [.cell 2 30] [[.z,.z,.z,.z,.z,.list true [.z,.list false [.int .u64]]]])))):=by kernel_rfl
theorem Ch (N:Nat) (x14 x15 u02 u03:Int) (u00 u01:LI) (u04 u05 u06 u07 u08 u09 u0a u0b u0c u0d:Int) (again:St→DH) (k:Out→St→DH):E4 (II N) (DE LQ [1,1,0,1,0,0]) (SO x14 x15 u02 u03 u00 u01 u04 u05 u06 u07 u08 u09 u0a u0b u0c u0d) (EO again ⟨[1,2,3,14,15],[1,2,3],[]⟩ k)=(cond (decide (x15 < x14)) (cond (decide (0≤x15)) (cond (decide (x15=ic 0)) (again (SO x14 (AA AB (x15+1)) u02 u03 u00 u01 u04 u05 u06 u07 u08 u09 u0a (DL (D9 u00 x15) (-500) 500) u0c u0d)) (cond (decide (x15=ic 1)) (again (SO x14 (AA AB (x15+1)) u02 u03 u00 u01 u04 u05 u06 u07 u08 u09 u0a u0b (DL (D9 u00 x15) (-500) 500) u0d)) (cond (decide (x15=ic 2)) (again (SO x14 (AA AB (x15+1)) u02 u03 u00 u01 u04 u05 u06 u07 u08 u09 u0a u0b u0c (DL (D9 u00 x15) (-500) 500))) none))) none) (k (.exit 0) (SO x14 x15 u02 u03 u00 u01 u04 u05 u06 u07 u08 u09 u0a u0b u0c u0d))):=by kernel_rfl
theorem Mv (N:Nat) (x14 x15 u02 u03:Int) (u00 u01:LI) (u04 u05 u06 u07 u08 u09 u0a u0b u0c u0d:Int):(DK 0 (DM (II N) (DE LQ [1,1,1]) (DP (II N) none [.cell 2 30] [[.z,.z,.z,.z,.z,.list true [.z,.list false [.int .u64]]]]))) (.exit 0) (SO x14 x15 u02 u03 u00 u01 u04 u05 u06 u07 u08 u09 u0a u0b u0c u0d)=(DT (II N) (DE LQ [1,1,1,0,1,0,0]) ⟨[1,2,3,5],[1,2,3,500],[⟨(.cell 3 5),500,88,true,[.z,.list false [.int .u64]]⟩]⟩ N (U8 0 u02 u03 u00 u01 u04 u05 u06 u07 u08 u09 u0a u0b u0c u0d 0 []) (DK 2 (DM (II N) (DE LQ [1,1,1,1]) (DP (II N) none [.cell 2 30] [[.z,.z,.z,.z,.z,.list true [.z,.list false [.int .u64]]]])))):=by kernel_rfl
theorem Ci (N:Nat) (x5 u04 u05:Int) (u00 u01:LI) (u06 u07 u08 u09 u0a u0b u0c u0d u0e u0f:Int) (u03:Nat) (u02:LI) (again:St→DH) (k:Out→St→DH):E4 (II N) (DE LQ [1,1,1,0,1,0,0]) (U8 x5 u04 u05 u00 u01 u06 u07 u08 u09 u0a u0b u0c u0d u0e u0f u03 u02) (EO again ⟨[1,2,3,5],[1,2,3,500],[⟨(.cell 3 5),500,88,true,[.z,.list false [.int .u64]]⟩]⟩ k)=(cond (decide (x5 < ic (AG u01))) (cond (decide (x5 < 4)) (cond (decide (0≤x5)&&decide (x5 < ic (AG u01))) (cond (decide (L8 0 (AA AB (u0c - 1))=0)) none (cond (decide (0≤x5)&&decide (x5 < ic (AG u01))) (cond (decide (1≤u0b)&&decide (u0b≤4)) (cond (decide ((u03+AG (AR 0 (AK 1 [IV.agg [IV.int (DL (IV.toInt (IV.cell (AI u01 (AD x5) default) 0)) 0 (AA AB (u0c - 1))),IV.list (LB (IV.toList (IV.cell (AI u01 (AD x5) default) 1)) (IV.toList (IV.cell (AI u01 (AD x5) default) 2)) (IV.toList (IV.cell (AI u01 (AD x5) default) 3)) (IV.toList (IV.cell (AI u01 (AD x5) default) 4)) u0b)]])))*TI.bytes (Env.tyd (II N) 88)≤D6)) (again (U8 (AA AB (x5+1)) u04 u05 u00 u01 u06 u07 u08 u09 u0a u0b u0c u0d u0e u0f (u03+AG (AR 0 (AK 1 [IV.agg [IV.int (DL (IV.toInt (IV.cell (AI u01 (AD x5) default) 0)) 0 (AA AB (u0c - 1))),IV.list (LB (IV.toList (IV.cell (AI u01 (AD x5) default) 1)) (IV.toList (IV.cell (AI u01 (AD x5) default) 2)) (IV.toList (IV.cell (AI u01 (AD x5) default) 3)) (IV.toList (IV.cell (AI u01 (AD x5) default) 4)) u0b)]]))) (AK u03 u02++AR 0 (AK 1 [IV.agg [IV.int (DL (IV.toInt (IV.cell (AI u01 (AD x5) default) 0)) 0 (AA AB (u0c - 1))),IV.list (LB (IV.toList (IV.cell (AI u01 (AD x5) default) 1)) (IV.toList (IV.cell (AI u01 (AD x5) default) 2)) (IV.toList (IV.cell (AI u01 (AD x5) default) 3)) (IV.toList (IV.cell (AI u01 (AD x5) default) 4)) u0b)]])))) none) none) none)) none) (k (.exit 2) (U8 x5 u04 u05 u00 u01 u06 u07 u08 u09 u0a u0b u0c u0d u0e u0f u03 u02))) (k (.exit 2) (U8 x5 u04 u05 u00 u01 u06 u07 u08 u09 u0a u0b u0c u0d u0e u0f u03 u02))):=by kernel_rfl
theorem Mw (N:Nat) (x5 u04 u05:Int) (u00 u01:LI) (u06 u07 u08 u09 u0a u0b u0c u0d u0e u0f:Int) (u03:Nat) (u02:LI):(DK 2 (DM (II N) (DE LQ [1,1,1,1]) (DP (II N) none [.cell 2 30] [[.z,.z,.z,.z,.z,.list true [.z,.list false [.int .u64]]]]))) (.exit 2) (U8 x5 u04 u05 u00 u01 u06 u07 u08 u09 u0a u0b u0c u0d u0e u0f u03 u02)=(some ((.agg [.i u0b,.i u0c,.i u0d,.i u0e,.i u0f,.list true [.z,.list false [.int .u64]] (AR 0 (AK u03 u02))]),[])):=by kernel_rfl
open Go Go.Proofs
abbrev Uj:List Kd:=[.z,(.list false [.z]),(.list false [.z]),(.list false [.z]),(.list false [.z])]
def bF (bias:LI) (j:Int):Int:=DL (D9 bias j) (-500) 500
abbrev hZ (d c:Int) (bias ts:LI):Ob:=.box [(.int .i64 d),(.int .i64 c),(.list false [.z] bias),(.list true Uj ts)]
abbrev iB:Ob:=.box [(.int .i64 0),(.int .i64 0),(.int .i64 0),(.int .i64 0),(.int .i64 0),.zs]
abbrev Bt (d c:Int) (bias ts:LI) (D C:Int) (i:Nat) (x:Int):St:=
 ⟨[(1,(.ptr 1 0 0)),(2,(.ptr 2 0 0)),(3,(.ptr 3 0 0)),(14,(.int .i64 C)),(15,(.int .i64 x))],[(1,(some (hZ d c bias ts))),(2,(some iB)),(3,(some (.box [(.int .i64 D),(.int .i64 C),(.int .i64 (cond (BJ 0 i) (bF bias 0) 0)),(.int .i64 (cond (BJ 1 i) (bF bias 1) 0)),(.int .i64 (cond (BJ 2 i) (bF bias 2) 0)),.zs])))]⟩
theorem pK (N:Nat) (d c:Int) (bias ts:LI) (D:Int) (C:Nat) (hC:C≤3) (K:Out→St→DH):∀ (m i n:Nat),i+m=C→m < n →
  DT (II N) (DE LQ [1,1,0,1,0,0]) ⟨[1,2,3,14,15],[1,2,3],[]⟩ n (Bt d c bias ts D C i (i:Int)) K=K (.exit 0) (Bt d c bias ts D C C (C:Int))
 | 0,i,n+1,hd,hn=>by
  have hi:i=C:=by omega
  subst hi;rw [D2];refine (Ch N i i d c bias ts 0 0 0 0 0 D i (cond (BJ 0 i) (bF bias 0) 0) (cond (BJ 1 i) (bF bias 1) 0) (cond (BJ 2 i) (bF bias 2) 0) _ _).trans ?_;rw [AL (show ¬ (i:Int) < (i:Int) by omega),DD]
 | m+1,i,n+1,hd,hn=>by
  rw [D2];refine (Ch N C i d c bias ts 0 0 0 0 0 D C (cond (BJ 0 i) (bF bias 0) 0) (cond (BJ 1 i) (bF bias 1) 0) (cond (BJ 2 i) (bF bias 2) 0) _ _).trans ?_;have ih:=pK N d c bias ts D C hC K m (i+1) n (by omega) (by omega);rw [AE (show (i:Int) < (C:Int) by omega),DC,AE (show 0≤(i:Int) by omega),DC,HJ (by omega)];have hi4:i=0∨i=1∨i=2:=by omega
  rcases hi4 with rfl | rfl | rfl
  ·rw [show decide (((0:Nat):Int)=ic 0)=true from rfl,DC];exact ih
  ·rw [show decide (((1:Nat):Int)=ic 0)=false from rfl,show decide (((1:Nat):Int)=ic 1)=true from rfl,DD,DC];exact ih
  ·rw [show decide (((2:Nat):Int)=ic 0)=false from rfl,show decide (((2:Nat):Int)=ic 1)=false from rfl,show decide (((2:Nat):Int)=ic 2)=true from rfl,DD,DD,DC];exact ih
 | _,_,0,_,h=>by omega
abbrev dT:List Kd:=[.z,(.list false [(.int .u64)])]
abbrev vC:KP:=⟨[1,2,3,5],[1,2,3,500],[⟨(.cell 3 5),500,88,true,[.z,(.list false [(.int .u64)])]⟩]⟩
abbrev nJ (d c:Int) (bias ts:LI) (D C b0 b1 b2:Int) (O:LI) (x:Int):St:=
 ⟨[(1,(.ptr 1 0 0)),(2,(.ptr 2 0 0)),(3,(.ptr 3 0 0)),(5,(.int .i64 x))],[(1,(some (hZ d c bias ts))),(2,(some iB)),(3,(some (.box [(.int .i64 D),(.int .i64 C),(.int .i64 b0),(.int .i64 b1),(.int .i64 b2),(.row 500 0 O.length)]))),(500,(some (.row true 88 true dT O)))]⟩
def UX (D C:Int) (t:IV):IV:=.agg [.int (DL (t.cell 0).toInt 0 (C - 1)),.list (LB (t.cell 1).toList (t.cell 2).toList (t.cell 3).toList (t.cell 4).toList D)]
theorem zdG (N:Nat):TI.bytes (Env.tyd (II N) 88)=32:=by rfl
theorem Eg (N:Nat) (d c:Int) (bias ts:LI) (D C b0 b1 b2:Int) (hD:1≤D∧D≤4) (hC:1≤C∧C≤3):∀ (m i n:Nat) (O:LI),i+m=min ts.length 4→m < n→O.length=i →
  DT (II N) (DE LQ [1,1,1,0,1,0,0]) vC n (nJ d c bias ts D C b0 b1 b2 O (i:Int)) (DK 2 (DM (II N) (DE LQ [1,1,1,1]) (DP (II N) none [(vbi 2 30)] [[.z,.z,.z,.z,.z,(.list true [.z,(.list false [(.int .u64)])])]]))) =
   some (.agg [.int .i64 D,.int .i64 C,.int .i64 b0,.int .i64 b1,.int .i64 b2,.list true dT (O++((ts.take 4).drop i).map (UX D C))],[])
 | 0,i,n+1,O,hd,hn,hO=>by
  have fin:(DK 2 (DM (II N) (DE LQ [1,1,1,1]) (DP (II N) none [(vbi 2 30)] [[.z,.z,.z,.z,.z,(.list true [.z,(.list false [(.int .u64)])])]]))) (.exit 2) (nJ d c bias ts D C b0 b1 b2 O (i:Int))=some (.agg [.int .i64 D,.int .i64 C,.int .i64 b0,.int .i64 b1,.int .i64 b2,.list true dT (O++((ts.take 4).drop i).map (UX D C))],[]):=by
   refine (Mw N i d c bias ts 0 0 0 0 0 D C b0 b1 b2 O.length O).trans ?_;rw [B4,BS,CN (by rw [A8]; omega),CB,vak]
  rw [D2];refine (Ci N i d c bias ts 0 0 0 0 0 D C b0 b1 b2 O.length O _ _).trans ?_;by_cases hp:i < ts.length
  ·rw [AE (show (i:Int) < ic ts.length by simp only [ic]; omega),DC,AL (show ¬ (i:Int) < 4 by omega),DD];exact fin
  ·rw [AL (show ¬ (i:Int) < ic ts.length by simp only [ic]; omega),DD];exact fin
 | m+1,i,n+1,O,hd,hn,hO=>by
  have hi:i < ts.length:=by omega
  rw [D2];refine (Ci N i d c bias ts 0 0 0 0 0 D C b0 b1 b2 O.length O _ _).trans ?_;have l1:∀ x:IV,AR 0 (AK 1 [x])=[x]:=fun _=>rfl
  have eg:AI ts (AD (i:Int)) default=ts[i]:=by rw [BD]; simp [hi]
  have w1:AA AB (C - 1)=C - 1:=EC (by omega) (by omega);obtain ⟨m1,_,_⟩:=JY (n:=0) (lo:=0) (hi:=C - 1) (by omega) (by omega) (by omega);have ih:=Eg N d c bias ts D C b0 b1 b2 hD hC m (i+1) n (O++[UX D C ts[i]]) (by omega) (by omega) (by simp [hO]);rw [AE (show (i:Int) < ic ts.length by simp only [ic]; omega),AE (show (i:Int) < 4 by omega),AE (show 0≤(i:Int) by omega),w1,m1,AL (show ¬ (C - 1 - 0+1=0) by omega),AE hD.1,AE hD.2,eg,l1,zdG,vae,
   AE (show (O.length+1)*32≤D6 by rw [hO]; unfold D6; omega),BS,HJ (by omega)]
  simp only [CE,DC,DD];have ed:(ts.take 4).drop i=ts[i] :: (ts.take 4).drop (i+1):=by
   have h4:i < (ts.take 4).length:=by rw [A8]; omega
   rw [A9 h4];congr 1;rw [List.getElem_take]
  rw [ed,AZ];rw [vbj] at ih;have eL:(O++[UX D C ts[i]]).length=O.length+1:=by simp
  rw [show nJ d c bias ts D C b0 b1 b2 (O++[UX D C ts[i]]) ((i+1:Nat):Int)=⟨[(1,(.ptr 1 0 0)),(2,(.ptr 2 0 0)),(3,(.ptr 3 0 0)),(5,(.int .i64 ((i+1:Nat):Int)))],[(1,(some (hZ d c bias ts))),(2,(some iB)),(3,(some (.box [(.int .i64 D),(.int .i64 C),(.int .i64 b0),(.int .i64 b1),(.int .i64 b2),(.row 500 0 (O++[UX D C ts[i]]).length)]))),(500,(some (.row true 88 true dT (O++[UX D C ts[i]]))))]⟩ from rfl,eL] at ih;exact ih
 | _,_,0,_,_,h,_=>by omega
theorem zcg:DQ PR B0 15 bZ:=by
 refine D1 [(17,NN),(39,X5),(38,PW)] [(3,⟨[1,2,3,14,15],[1,2,3],[]⟩),(8,vC)] bZ [[.z,.z,.z,.z,.z,.list true [.z,.list false [.int .u64]]]] Tryz.func15 Ql
  ⟨fM,zcj,m9,trivial⟩ ?_
 intro vs r hwf h;unfold bZ at h;split at h
 ·rename_i d c bias ts;refine ⟨20,?_⟩;rw [R.get_ok] at h;rw [← h];refine (Wu 20 d c bias ts).trans ?_;obtain ⟨_,d1,d2⟩:=JY (n:=d) (lo:=1) (hi:=3) (by omega) (by omega) (by omega);obtain ⟨_,c1,c2⟩:=JY (n:=c) (lo:=1) (hi:=3) (by omega) (by omega) (by omega);unfold PK nZ P2 JP NT;generalize DL d 1 3=D at d1 d2;generalize DL c 1 3=C' at c1 c2;obtain ⟨C,rfl⟩:∃ C:Nat,C'=C:=⟨C'.toNat,by omega⟩;refine (pK 20 d c bias ts D C (by omega) _ C 0 20 (by omega) (by omega)).trans ?_;refine (Mv 20 C C d c bias ts 0 0 0 0 0 D C (cond (BJ 0 C) (bF bias 0) 0) (cond (BJ 1 C) (bF bias 1) 0) (cond (BJ 2 C) (bF bias 2) 0)).trans ?_;refine (Eg 20 d c bias ts D C _ _ _ ⟨d1,by omega⟩ ⟨c1,by omega⟩ (min ts.length 4) 0 20 [] (by omega) (by omega) rfl).trans ?_;rw [B4,vba];have hC:C=1∨C=2∨C=3:=by omega
  rcases hC with rfl | rfl | rfl <;> rfl
 ·simp [R.get] at h
open Go Go.Proofs
def ON (N:Nat):Env:=DZ [] [(4,⟨[0,1,4,5],[],[]⟩)] 26 N
abbrev OH (l0 l1:LI) (b4:Bool) (x5:Int):St:=⟨[(0,(.list false [.str] l0)),(1,(.list false [.str] l1)),(4,(.bool b4)),(5,(.i x5))],[]⟩
theorem Wr (N:Nat) (a b:LI):DS (ON N) RE [.tmp 4] [[.bool]] [.list false [.str] a,.list false [.str] b]=(cond (ic (AG a) != ic (AG b)) (some ((.bool false),[])) (DT (ON N) (DE RE [1,1,0,1,0,0]) ⟨[0,1,4,5],[],[]⟩ N (OH a b false 0) (DK 0 (DM (ON N) (DE RE [1,1,1]) (DP (ON N) none [.tmp 4] [[.bool]]))))):=by kernel_rfl
theorem Cg (N:Nat) (l0 l1:LI) (b4:Bool) (x5:Int) (again:St→DH) (k:Out→St→DH):E4 (ON N) (DE RE [1,1,0,1,0,0]) (OH l0 l1 b4 x5) (EO again ⟨[0,1,4,5],[],[]⟩ k)=(cond (decide (x5 < ic (AG l0))) (cond (decide (0≤x5)&&decide (x5 < ic (AG l0))) (cond (decide (0≤x5)&&decide (x5 < ic (AG l1))) (cond (!A3 (IV.toStr (AI l0 (AD x5) default))==A3 (IV.toStr (AI l1 (AD x5) default))) (k .ret (OH l0 l1 false x5)) (again (OH l0 l1 b4 (AA AB (x5+1))))) none) none) (k (.exit 0) (OH l0 l1 b4 x5))):=by kernel_rfl
theorem Mt (N:Nat) (l0 l1:LI) (b4:Bool) (x5:Int):(DK 0 (DM (ON N) (DE RE [1,1,1]) (DP (ON N) none [.tmp 4] [[.bool]]))) (.exit 0) (OH l0 l1 b4 x5)=(some ((.bool true),[])):=by kernel_rfl
theorem Mu (N:Nat) (l0 l1:LI) (b4:Bool) (x5:Int):(DK 0 (DM (ON N) (DE RE [1,1,1]) (DP (ON N) none [.tmp 4] [[.bool]]))) .ret (OH l0 l1 b4 x5)=(some ((.bool b4),[])):=by kernel_rfl
def Gh (N:Nat):Env:=DZ [(30,X2),(28,X4),(31,PY),(22,S7),(20,PZ)] [] 16 N
theorem Xa (N:Nat):DS (Gh N) qN [.tmp 0] [[.bool]] []=(some ((.bool true),[])):=by kernel_rfl
open Go Go.Proofs
def Gf (N:Nat):Env:=DZ [(71,S3)] [] 14 N
theorem Ww (N:Nat):DS (Gf N) qL [.cell 0 30] [[.z,.z,.z,.z,.z,.list true [.z,.list false [.int .u64]]]] []=(some ((.agg [.i 1,.i 1,.i 3,.i 0,.i 0,.list true LA [(IV.agg [IV.int 0,IV.list [IV.int (HR false 0 0 5 1 2),IV.int (HR true 10 0 0 0 0),IV.int (HR true 20 0 0 0 0)]])]]),[])):=by kernel_rfl
open Go Go.Proofs
theorem zH:∀ {l m:LI},PH l m=true→l.length=m.length
 | [],[],_=>rfl
 | [],_ :: _,h=>by simp [PH] at h
 | _ :: _,[],h=>by simp [PH] at h
 | x :: l,y :: m,h=>by
  simp only [PH,AH] at h;simp [zH h.2]
theorem zI (N:Nat) (l m:LI) (K:Out→St→DH) (hlm:l.length=m.length) (hl:l.length≤strMax)
  (hx:∀ x,K (.exit 0) (OH l m false x)=some (.bool true,[])) (hr:∀ x,K .ret (OH l m false x)=some (.bool false,[])) :
  ∀ (d i n:Nat),i+d=l.length→d < n→DT (ON N) (DE RE [1,1,0,1,0,0]) ⟨[0,1,4,5],[],[]⟩ n (OH l m false (i:Int)) K=some (.bool (PH (l.drop i) (m.drop i)),[])
 | 0,i,n+1,hd,_=>by
  rw [D2,Cg,JC (by omega),CN (by omega),CN (by omega),DD];exact hx _
 | d+1,i,n+1,hd,hn=>by
  have hi:i < l.length:=by omega
  have hm:i < m.length:=by omega
  have hl':=hl;unfold strMax at hl';rw [D2,Cg,IN hi,IN hm,I0,HJ (by omega),JB hi,JB hm,A9 hi,A9 hm];simp only [DC,CE,PH];cases (l[i].toStr.toList==m[i].toStr.toList) with
  | false=>
   rw [BB,DC,BV];exact hr _
  | true=>
   rw [A2,DD,BH];exact zI N l m K hlm hl hx hr d (i+1) n (by omega) (by omega)
 | 0,_,0,_,h=>by omega
 | _+1,_,0,_,h=>by omega
theorem zce:DQ PR B0 30 X2:=by
 refine D1 [] [(4,⟨[0,1,4,5],[],[]⟩)] X2 [[.bool]] Tryz.func30 Qi trivial ?_;intro vs r hwf h;unfold X2 at h;split at h
 ·rename_i l m;rw [R.get_ok] at h;refine ⟨l.length+1,(Wr _ l m).trans ?_⟩;rw [← h];have hl:=(hwf (by simp [KU])).1;simp only [PL,wfL] at hl;by_cases hlm:l.length=m.length
  ·have e:(ic l.length != ic m.length)=false:=by simp [ic,hlm]
   rw [e,DD]
   have:=zI (l.length+1) l m _ hlm hl.1 (fun x=>Mt (l.length+1) l m false x) (fun x=>Mu (l.length+1) l m false x) l.length 0 (l.length+1) (by omega) (by omega)
   rw [B4,B4] at this;exact this
  ·have e:(ic l.length != ic m.length)=true:=by simp [ic]; omega
   rw [e]
   have:PH l m=false:=by
    cases hs:PH l m with
    | false=>rfl
    | true=>exact absurd (zH hs) hlm
   rw [this];rfl
 ·simp [R.get] at h
theorem zci:DQ PR B0 28 X4:=by
 refine D1 [(71,S3)] [] X4 [[.z,.z,.z,.z,.z,.list true [.z,.list false [.int .u64]]]] Tryz.func28 Qn ⟨Aa,trivial⟩ ?_;intro vs r hwf h;unfold X4 at h;split at h
 ·skip
  rw [R.get_ok] at h;refine ⟨0,(Ww 0).trans ?_⟩;rw [← h];rfl
 ·simp [R.get] at h
theorem zcl:DQ PR B0 6 X6:=by
 refine D1 [(30,X2),(28,X4),(31,PY),(22,S7),(20,PZ)] [] X6 [[.bool]] Tryz.func6 Qr ⟨zce,zci,nB,Ae,nE,trivial⟩ ?_;intro vs r hwf h;unfold X6 at h;split at h
 ·skip
  rw [R.get_ok] at h;refine ⟨0,(Xa 0).trans ?_⟩;rw [← h]
 ·simp [R.get] at h
open Go Go.Proofs
open Go Go.Proofs
theorem zbU:DQ PR B0 15 ZC:=Snd.mono zcg fun _ _ h=>Im h
theorem zbT:DQ PR B0 16 ZB:=Snd.mono zcf fun _ _ h=>Io h
theorem wD (s:BA) (k:Nat):(min (ic s.size) (k:Int)).toNat=min s.size k∧(decide (0≤min (ic s.size) (k:Int))&&decide (min (ic s.size) (k:Int)≤ic s.size))=true∧(s.extract 0 (min (ic s.size) (k:Int)).toNat).size≤k:=by
 have e:(min (ic s.size) (k:Int)).toNat=min s.size k:=by simp only [ic]; omega
 refine ⟨e,?_,?_⟩
 ·rw [AE (show 0≤min (ic s.size) (k:Int) by simp only [ic]; omega),AE (show min (ic s.size) (k:Int)≤ic s.size by omega)];rfl
 ·rw [ByteArray.size_extract];omega
open Go Go.Proofs
def K2 (N:Nat):Env:=DZ [(24,S2),(6,X6),(32,S6),(31,PY),(22,S7),(19,TJ),(20,PZ),(16,ZB),(15,ZC)] [(10,⟨[8,9,10,12,46,47,48],[10],[]⟩)] 92 N
abbrev OI (f:Ft) (b8:Bool) (s9 s12:BA) (l46:LI) (x47 x48:Int):St:=⟨[(8,(.bool b8)),(9,(.str s9)),(10,(.ptr 10 0 0)),(12,(.str s12)),(46,(.list false [.str] l46)),(47,(.i x47)),(48,(.i x48))],[(10,(some (.box (Md.cs (ER (FI (Ft.M f)))))))]⟩
abbrev OJ (a1:BA) (b8:Bool) (s9 s12:BA) (l46:LI) (x47 x48:Int):St:=⟨[(8,(.bool b8)),(9,(.str s9)),(10,(.ptr 10 0 0)),(12,(.str s12)),(46,(.list false [.str] l46)),(47,(.i x47)),(48,(.i x48))],[(10,(some (.box (Md.cs (ER (BP a1 0 (AD (min (ic (AF a1)) 60))))))))]⟩
theorem Wz (N:Nat) (f:Ft) (a1 a2:BA) (a3:Bool):DS (K2 N) M0 [.tmp 8] [[.bool]] [(Ft.V f),.str a1,.str a2,.bool a3]=(cond (decide (0≤min (ic (AF a1)) 60)&&decide (min (ic (AF a1)) 60≤ic (AF a1))) (cond (decide (0≤min (ic (AF a2)) 60)&&decide (min (ic (AF a2)) 60≤ic (AF a2))) (cond a3 (cond (decide (AF (FI (Ft.M f)) < 4294967281)&&(decide (AF (BP a2 0 (AD (min (ic (AF a2)) 60))) < 4294967281)&&decide (AF (JU (FI (Ft.M f)) (BP a2 0 (AD (min (ic (AF a2)) 60))))≤strMax))) (cond (decide (AF (FI (Ft.M f)) < 4294967281)) (cond (!L6 (FI (Ft.M f))) (cond (A3 (JU (FI (Ft.M f)) (BP a2 0 (AD (min (ic (AF a2)) 60))))==A3 {data:=#[109,111,100,101,108,10]}) (some ((.bool true),[])) (some ((.bool false),[]))) (cond (decide (AF (BP a2 0 (AD (min (ic (AF a2)) 60))) < 4294967281)) (DT (K2 N) (DE M0 [1,1,1,1,1,1,1,0,1,0,0]) ⟨[8,9,10,12,46,47,48],[10],[]⟩ N (OI f false (JU (FI (Ft.M f)) (BP a2 0 (AD (min (ic (AF a2)) 60)))) ({data:=#[]}) (H2 (BP a2 0 (AD (min (ic (AF a2)) 60)))) (ic (AG (H2 (BP a2 0 (AD (min (ic (AF a2)) 60)))))) 0) (DK 0 (DM (K2 N) (DE M0 [1,1,1,1,1,1,1,1]) (DP (K2 N) none [.tmp 8] [[.bool]])))) none)) none) none) (cond (decide (AF (BP a1 0 (AD (min (ic (AF a1)) 60))) < 4294967281)&&(decide (AF (BP a2 0 (AD (min (ic (AF a2)) 60))) < 4294967281)&&decide (AF (JU (BP a1 0 (AD (min (ic (AF a1)) 60))) (BP a2 0 (AD (min (ic (AF a2)) 60))))≤strMax))) (cond (decide (AF (BP a1 0 (AD (min (ic (AF a1)) 60))) < 4294967281)) (cond (!L6 (BP a1 0 (AD (min (ic (AF a1)) 60)))) (cond (A3 (JU (BP a1 0 (AD (min (ic (AF a1)) 60))) (BP a2 0 (AD (min (ic (AF a2)) 60))))==A3 {data:=#[109,111,100,101,108,10]}) (some ((.bool true),[])) (some ((.bool false),[]))) (cond (decide (AF (BP a2 0 (AD (min (ic (AF a2)) 60))) < 4294967281)) (DT (K2 N) (DE M0 [1,1,1,1,1,1,1,0,1,0,0]) ⟨[8,9,10,12,46,47,48],[10],[]⟩ N (OJ a1 false (JU (BP a1 0 (AD (min (ic (AF a1)) 60))) (BP a2 0 (AD (min (ic (AF a2)) 60)))) ({data:=#[]}) (H2 (BP a2 0 (AD (min (ic (AF a2)) 60)))) (ic (AG (H2 (BP a2 0 (AD (min (ic (AF a2)) 60)))))) 0) (DK 0 (DM (K2 N) (DE M0 [1,1,1,1,1,1,1,1]) (DP (K2 N) none [.tmp 8] [[.bool]])))) none)) none) none)) none) none):=by kernel_rfl
theorem Cm (N:Nat) (f:Ft) (b8:Bool) (s9 s12:BA) (l46:LI) (x47 x48:Int) (again:St→DH) (k:Out→St→DH):E4 (K2 N) (DE M0 [1,1,1,1,1,1,1,0,1,0,0]) (OI f b8 s9 s12 l46 x47 x48) (EO again ⟨[8,9,10,12,46,47,48],[10],[]⟩ k)=(cond (decide (x48 < x47)) (cond (decide (0≤x48)&&decide (x48 < ic (AG l46))) (cond (decide (x48 > 9)) (cond (decide (AF s12+AF {data:=#[113,117,101,114,121,32]}≤strMax)) (cond (decide (AF (s12++{data:=#[113,117,101,114,121,32]})+AF (HZ x48++FB x48)≤strMax)) (cond (decide (AF (s12++{data:=#[113,117,101,114,121,32]}++(HZ x48++FB x48))+AF {data:=#[10]}≤strMax)) (cond (decide (AF (IV.toStr (AI l46 (AD x48) default)) < 4294967281)) (cond (decide (AF (FH (E9 (ER (FI (Ft.M f))) (IV.toStr (AI l46 (AD x48) default))))≤strMax)) (cond (decide (AF (s12++{data:=#[113,117,101,114,121,32]}++(HZ x48++FB x48)++{data:=#[10]})+AF (FH (E9 (ER (FI (Ft.M f))) (IV.toStr (AI l46 (AD x48) default))))≤strMax)) (again (OI f b8 s9 (s12++{data:=#[113,117,101,114,121,32]}++(HZ x48++FB x48)++{data:=#[10]}++FH (E9 (ER (FI (Ft.M f))) (IV.toStr (AI l46 (AD x48) default)))) l46 x47 (AA AB (x48+1)))) none) none) none) none) none) none) (cond (decide (AF s12+AF {data:=#[113,117,101,114,121,32]}≤strMax)) (cond (decide (AF (s12++{data:=#[113,117,101,114,121,32]})+AF (FB x48)≤strMax)) (cond (decide (AF (s12++{data:=#[113,117,101,114,121,32]}++FB x48)+AF {data:=#[10]}≤strMax)) (cond (decide (AF (IV.toStr (AI l46 (AD x48) default)) < 4294967281)) (cond (decide (AF (FH (E9 (ER (FI (Ft.M f))) (IV.toStr (AI l46 (AD x48) default))))≤strMax)) (cond (decide (AF (s12++{data:=#[113,117,101,114,121,32]}++FB x48++{data:=#[10]})+AF (FH (E9 (ER (FI (Ft.M f))) (IV.toStr (AI l46 (AD x48) default))))≤strMax)) (again (OI f b8 s9 (s12++{data:=#[113,117,101,114,121,32]}++FB x48++{data:=#[10]}++FH (E9 (ER (FI (Ft.M f))) (IV.toStr (AI l46 (AD x48) default)))) l46 x47 (AA AB (x48+1)))) none) none) none) none) none) none)) none) (k (.exit 0) (OI f b8 s9 s12 l46 x47 x48))):=by kernel_rfl
theorem Cn (N:Nat) (a1:BA) (b8:Bool) (s9 s12:BA) (l46:LI) (x47 x48:Int) (again:St→DH) (k:Out→St→DH):E4 (K2 N) (DE M0 [1,1,1,1,1,1,1,0,1,0,0]) (OJ a1 b8 s9 s12 l46 x47 x48) (EO again ⟨[8,9,10,12,46,47,48],[10],[]⟩ k)=(cond (decide (x48 < x47)) (cond (decide (0≤x48)&&decide (x48 < ic (AG l46))) (cond (decide (x48 > 9)) (cond (decide (AF s12+AF {data:=#[113,117,101,114,121,32]}≤strMax)) (cond (decide (AF (s12++{data:=#[113,117,101,114,121,32]})+AF (HZ x48++FB x48)≤strMax)) (cond (decide (AF (s12++{data:=#[113,117,101,114,121,32]}++(HZ x48++FB x48))+AF {data:=#[10]}≤strMax)) (cond (decide (AF (IV.toStr (AI l46 (AD x48) default)) < 4294967281)) (cond (decide (AF (FH (E9 (ER (BP a1 0 (AD (min (ic (AF a1)) 60)))) (IV.toStr (AI l46 (AD x48) default))))≤strMax)) (cond (decide (AF (s12++{data:=#[113,117,101,114,121,32]}++(HZ x48++FB x48)++{data:=#[10]})+AF (FH (E9 (ER (BP a1 0 (AD (min (ic (AF a1)) 60)))) (IV.toStr (AI l46 (AD x48) default))))≤strMax)) (again (OJ a1 b8 s9 (s12++{data:=#[113,117,101,114,121,32]}++(HZ x48++FB x48)++{data:=#[10]}++FH (E9 (ER (BP a1 0 (AD (min (ic (AF a1)) 60)))) (IV.toStr (AI l46 (AD x48) default)))) l46 x47 (AA AB (x48+1)))) none) none) none) none) none) none) (cond (decide (AF s12+AF {data:=#[113,117,101,114,121,32]}≤strMax)) (cond (decide (AF (s12++{data:=#[113,117,101,114,121,32]})+AF (FB x48)≤strMax)) (cond (decide (AF (s12++{data:=#[113,117,101,114,121,32]}++FB x48)+AF {data:=#[10]}≤strMax)) (cond (decide (AF (IV.toStr (AI l46 (AD x48) default)) < 4294967281)) (cond (decide (AF (FH (E9 (ER (BP a1 0 (AD (min (ic (AF a1)) 60)))) (IV.toStr (AI l46 (AD x48) default))))≤strMax)) (cond (decide (AF (s12++{data:=#[113,117,101,114,121,32]}++FB x48++{data:=#[10]})+AF (FH (E9 (ER (BP a1 0 (AD (min (ic (AF a1)) 60)))) (IV.toStr (AI l46 (AD x48) default))))≤strMax)) (again (OJ a1 b8 s9 (s12++{data:=#[113,117,101,114,121,32]}++FB x48++{data:=#[10]}++FH (E9 (ER (BP a1 0 (AD (min (ic (AF a1)) 60)))) (IV.toStr (AI l46 (AD x48) default)))) l46 x47 (AA AB (x48+1)))) none) none) none) none) none) none)) none) (k (.exit 0) (OJ a1 b8 s9 s12 l46 x47 x48))):=by kernel_rfl
theorem Na (N:Nat) (f:Ft) (b8:Bool) (s9 s12:BA) (l46:LI) (x47 x48:Int):(DK 0 (DM (K2 N) (DE M0 [1,1,1,1,1,1,1,1]) (DP (K2 N) none [.tmp 8] [[.bool]]))) (.exit 0) (OI f b8 s9 s12 l46 x47 x48)=(cond (A3 s9==A3 s12) (some ((.bool true),[])) (some ((.bool false),[]))):=by kernel_rfl
theorem Nb (N:Nat) (a1:BA) (b8:Bool) (s9 s12:BA) (l46:LI) (x47 x48:Int):(DK 0 (DM (K2 N) (DE M0 [1,1,1,1,1,1,1,1]) (DP (K2 N) none [.tmp 8] [[.bool]]))) (.exit 0) (OJ a1 b8 s9 s12 l46 x47 x48)=(cond (A3 s9==A3 s12) (some ((.bool true),[])) (some ((.bool false),[]))):=by kernel_rfl
open Go Go.Proofs
def jB (i:Nat):Bool:=cond (decide (i < 10)) ((FB (i:Int)).toList==(DJ (i:Int)).toList) ((HZ (i:Int)++FB (i:Int)).toList==(DJ (i:Int)).toList)
theorem tG:(vav 100).all jB=true:=by kernel_rfl
theorem tH {i:Nat} (h:i < 10) (s:BA):s++FF++FB (i:Int)++FE=s++G6 i:=by
 have:=CP.1 tG i (vaH.2 (by omega))
 unfold jB at this;rw [AE h,DC,pU] at this;rw [A1 this];unfold G6;simp only [C3]
theorem tI {i:Nat} (h:10≤i) (h2:i < 100) (s:BA):s++FF++(HZ (i:Int)++FB (i:Int))++FE=s++G6 i:=by
 have:=CP.1 tG i (vaH.2 h2)
 unfold jB at this;rw [AL (show ¬ i < 10 by omega),DD,pU] at this;rw [A1 this];unfold G6;simp only [C3]
theorem o4 (N:Nat) (f:Ft) (s9:BA) (ls:LI) (hl:ls.length≤99) (hs:∀ x∈ls,x.toStr.size < 4294967281) (T:BA→DH) (K:Out→St→DH) (hx:∀ s12 x y,K (.exit 0) (OI f false s9 s12 ls x y)=T s12) :
  ∀ (d i n:Nat) (s12:BA),i+d=ls.length→d < n→s12.size≤4000028*i →
   DT (K2 N) (DE M0 [1,1,1,1,1,1,1,0,1,0,0]) ⟨[8,9,10,12,46,47,48],[10],[]⟩ n (OI f false s9 s12 ls (ic ls.length) (i:Int)) K =
    T (SJ s12 i ((ls.drop i).map fun x=>E9 (ER (FI f.M)) x.toStr))
 | 0,i,n+1,s12,hd,_,_=>by
  rw [D2,Cm,JC (by omega),DD,CN (by omega)];exact hx _ _ _
 | d+1,i,n+1,s12,hd,hn,h12=>by
  have hi:i < ls.length:=by omega
  have z2:=hs _ (CX hi);rw [D2,Cm,IN hi,I0,JB hi,HJ (by omega),A9 hi,AZ (f:=fun x:IV=>E9 (ER (FI f.M)) x.toStr),SJ];generalize ls[i]=b at z2 ⊢;have hv:=l6 (gT (ER (FI f.M)) b.toStr).2;have hh:=jW i (by omega);have e1:FE.size=1:=rfl;have e6:FF.size=6:=rfl;have ih:=o4 N f s9 ls hl hs T K hx d (i+1) n (s12++G6 i++FH (E9 (ER (FI f.M)) b.toStr)) (by omega) (by omega) (by rw [AP,AP]; omega);by_cases h9:i > 9
  ·have ed:=tI (show 10≤i by omega) (show i < 100 by omega) s12;have hsz:(s12++FF++(HZ (i:Int)++FB (i:Int))++FE).size=s12.size+(G6 i).size:=by rw [ed,AP]
   have hsz2:s12.size+FF.size+(HZ (i:Int)++FB (i:Int)).size+FE.size=s12.size+(G6 i).size:=by rw [← hsz,AP (a:=s12++FF++(HZ (i:Int)++FB (i:Int))),AP (a:=s12++FF),AP (a:=s12)]
   rw [AE (show ((i:Nat):Int) > 9 by omega)];rw [AE (show s12.size+AF { data:=#[113,117,101,114,121,32] }≤strMax by unfold strMax; show _+FF.size≤_; omega)];rw [AE (show (s12++FF).size+(HZ (i:Int)++FB (i:Int)).size≤strMax by rw [AP (a:=s12)]; unfold strMax; omega)];rw [AE (show (s12++FF++(HZ (i:Int)++FB (i:Int))).size+FE.size≤strMax by rw [AP (a:=s12++FF),AP (a:=s12)]; unfold strMax; omega)];rw [AE (show b.toStr.size < 4294967281 by omega),AE (show (FH (E9 (ER (FI f.M)) b.toStr)).size≤strMax by unfold strMax; omega)];rw [AE (show (s12++FF++(HZ (i:Int)++FB (i:Int))++FE).size+(FH (E9 (ER (FI f.M)) b.toStr)).size≤strMax by rw [hsz]; unfold strMax; omega)];simp only [DC,CE];rw [← ih];show DT _ _ _ n (OI f false s9 (s12++FF++(HZ (i:Int)++FB (i:Int))++FE++FH (E9 (ER (FI f.M)) b.toStr)) ls (ic ls.length) _) K=_;rw [ed]
  ·have ed:=tH (show i < 10 by omega) s12;have hsz:(s12++FF++FB (i:Int)++FE).size=s12.size+(G6 i).size:=by rw [ed,AP]
   have hsz2:s12.size+FF.size+(FB (i:Int)).size+FE.size=s12.size+(G6 i).size:=by rw [← hsz]; simp only [AP]
   rw [AL (show ¬ ((i:Nat):Int) > 9 by omega)];rw [AE (show s12.size+AF { data:=#[113,117,101,114,121,32] }≤strMax by unfold strMax; show _+FF.size≤_; omega)];rw [AE (show (s12++FF).size+(FB (i:Int)).size≤strMax by rw [AP]; unfold strMax; omega)];rw [AE (show (s12++FF++FB (i:Int)).size+FE.size≤strMax by rw [AP,AP]; unfold strMax; omega)];rw [AE (show b.toStr.size < 4294967281 by omega),AE (show (FH (E9 (ER (FI f.M)) b.toStr)).size≤strMax by unfold strMax; omega)];rw [AE (show (s12++FF++FB (i:Int)++FE).size+(FH (E9 (ER (FI f.M)) b.toStr)).size≤strMax by rw [hsz]; unfold strMax; omega)];simp only [DC,DD,CE];rw [← ih];show DT _ _ _ n (OI f false s9 (s12++FF++FB (i:Int)++FE++FH (E9 (ER (FI f.M)) b.toStr)) ls (ic ls.length) _) K=_;rw [ed]
 | 0,_,0,_,_,h,_=>by omega
 | _+1,_,0,_,_,h,_=>by omega
theorem o5 (N:Nat) (a1 s9:BA) (ls:LI) (hl:ls.length≤99) (hs:∀ x∈ls,x.toStr.size < 4294967281) (T:BA→DH) (K:Out→St→DH) (hx:∀ s12 x y,K (.exit 0) (OJ a1 false s9 s12 ls x y)=T s12) :
  ∀ (d i n:Nat) (s12:BA),i+d=ls.length→d < n→s12.size≤4000028*i →
   DT (K2 N) (DE M0 [1,1,1,1,1,1,1,0,1,0,0]) ⟨[8,9,10,12,46,47,48],[10],[]⟩ n (OJ a1 false s9 s12 ls (ic ls.length) (i:Int)) K =
    T (SJ s12 i ((ls.drop i).map fun x=>E9 (ER (a1.extract 0 (min (ic a1.size) 60).toNat)) x.toStr))
 | 0,i,n+1,s12,hd,_,_=>by
  rw [D2,Cn,JC (by omega),DD,CN (by omega)];exact hx _ _ _
 | d+1,i,n+1,s12,hd,hn,h12=>by
  have hi:i < ls.length:=by omega
  have z2:=hs _ (CX hi);rw [D2,Cn,IN hi,I0,JB hi,HJ (by omega),A9 hi,AZ (f:=fun x:IV=>E9 (ER (a1.extract 0 (min (ic a1.size) 60).toNat)) x.toStr),SJ];generalize ls[i]=b at z2 ⊢;have hv:=l6 (gT (ER (a1.extract 0 (min (ic a1.size) 60).toNat)) b.toStr).2;have hh:=jW i (by omega);have e1:FE.size=1:=rfl;have e6:FF.size=6:=rfl;have ih:=o5 N a1 s9 ls hl hs T K hx d (i+1) n (s12++G6 i++FH (E9 (ER (a1.extract 0 (min (ic a1.size) 60).toNat)) b.toStr)) (by omega) (by omega) (by rw [AP,AP]; omega);by_cases h9:i > 9
  ·have ed:=tI (show 10≤i by omega) (show i < 100 by omega) s12;have hsz:(s12++FF++(HZ (i:Int)++FB (i:Int))++FE).size=s12.size+(G6 i).size:=by rw [ed,AP]
   have hsz2:s12.size+FF.size+(HZ (i:Int)++FB (i:Int)).size+FE.size=s12.size+(G6 i).size:=by rw [← hsz,AP (a:=s12++FF++(HZ (i:Int)++FB (i:Int))),AP (a:=s12++FF),AP (a:=s12)]
   rw [AE (show ((i:Nat):Int) > 9 by omega)];rw [AE (show s12.size+AF { data:=#[113,117,101,114,121,32] }≤strMax by unfold strMax; show _+FF.size≤_; omega)];rw [AE (show (s12++FF).size+(HZ (i:Int)++FB (i:Int)).size≤strMax by rw [AP (a:=s12)]; unfold strMax; omega)];rw [AE (show (s12++FF++(HZ (i:Int)++FB (i:Int))).size+FE.size≤strMax by rw [AP (a:=s12++FF),AP (a:=s12)]; unfold strMax; omega)];rw [AE (show b.toStr.size < 4294967281 by omega),AE (show (FH (E9 (ER (a1.extract 0 (min (ic a1.size) 60).toNat)) b.toStr)).size≤strMax by unfold strMax; omega)];rw [AE (show (s12++FF++(HZ (i:Int)++FB (i:Int))++FE).size+(FH (E9 (ER (a1.extract 0 (min (ic a1.size) 60).toNat)) b.toStr)).size≤strMax by rw [hsz]; unfold strMax; omega)];simp only [DC,CE];rw [← ih];show DT _ _ _ n (OJ a1 false s9 (s12++FF++(HZ (i:Int)++FB (i:Int))++FE++FH (E9 (ER (a1.extract 0 (min (ic a1.size) 60).toNat)) b.toStr)) ls (ic ls.length) _) K=_;rw [ed]
  ·have ed:=tH (show i < 10 by omega) s12;have hsz:(s12++FF++FB (i:Int)++FE).size=s12.size+(G6 i).size:=by rw [ed,AP]
   have hsz2:s12.size+FF.size+(FB (i:Int)).size+FE.size=s12.size+(G6 i).size:=by rw [← hsz]; simp only [AP]
   rw [AL (show ¬ ((i:Nat):Int) > 9 by omega)];rw [AE (show s12.size+AF { data:=#[113,117,101,114,121,32] }≤strMax by unfold strMax; show _+FF.size≤_; omega)];rw [AE (show (s12++FF).size+(FB (i:Int)).size≤strMax by rw [AP]; unfold strMax; omega)];rw [AE (show (s12++FF++FB (i:Int)).size+FE.size≤strMax by rw [AP,AP]; unfold strMax; omega)];rw [AE (show b.toStr.size < 4294967281 by omega),AE (show (FH (E9 (ER (a1.extract 0 (min (ic a1.size) 60).toNat)) b.toStr)).size≤strMax by unfold strMax; omega)];rw [AE (show (s12++FF++FB (i:Int)++FE).size+(FH (E9 (ER (a1.extract 0 (min (ic a1.size) 60).toNat)) b.toStr)).size≤strMax by rw [hsz]; unfold strMax; omega)];simp only [DC,DD,CE];rw [← ih];show DT _ _ _ n (OJ a1 false s9 (s12++FF++FB (i:Int)++FE++FH (E9 (ER (a1.extract 0 (min (ic a1.size) 60).toNat)) b.toStr)) ls (ic ls.length) _) K=_;rw [ed]
 | 0,_,0,_,_,h,_=>by omega
 | _+1,_,0,_,_,h,_=>by omega
theorem zck:DQ PR B0 8 gS:=by
 refine D1 [(24,S2),(6,X6),(32,S6),(31,PY),(22,S7),(19,TJ),(20,PZ),(16,ZB),(15,ZC)] [(10,⟨[8,9,10,12,46,47,48],[10],[]⟩)] gS [[.bool]] Tryz.func8 Qq ⟨z8,zcl,Ad,nB,Ae,Ay,nE,zbT,zbU,trivial⟩ ?_;intro vs r hwf h;unfold gS at h;split at h
 ·rename_i f a b e;replace h:=Fc h;obtain ⟨f,rfl,h⟩:=h;rw [R.get_ok] at h;refine ⟨101,(Wz 101 f a b e).trans ?_⟩;rw [← h];obtain ⟨_,a1,a2⟩:=wD a 60;obtain ⟨_,b1,b2⟩:=wD b 60;rw [show ((60:Nat):Int)=60 from rfl] at a1 a2 b1 b2;rw [a1,b1,DC,DC];generalize b.extract 0 (min (ic b.size) 60).toNat=B at b2 ⊢;have hll:=Ve B;have eB:decide (B.size < 4294967281)=true:=AE (by omega);have hsm:=vR (s:=B) (n:=4294967281) (by omega);cases e with
  | true=>
   have hM:=Ii f;have hW:gG f.M:=Vm _ _ _ _;obtain ⟨t1,t2⟩:=zdv hM hW;have hps:=za3 hM;have hz:=y8 (FI f.M) B (by omega);rw [DC,AE (show (FI f.M).size < 4294967281 by omega),eB,AE (show (JU (FI f.M) B).size≤strMax by unfold strMax; omega),t1];simp only [B1,DC,A2,DD];refine (o4 101 f _ _ (by omega) hsm _ _ (fun s12 x y=>Na 101 f false _ s12 _ x y) _ 0 101 GA (BF _) (by omega) (AY _)).trans ?_;rw [B4,Et,mQ t1];unfold P1;rw [vaT];rfl
  | false=>
   have hz:=y8 (a.extract 0 (min (ic a.size) 60).toNat) B (by omega);rw [DD,AE (show (a.extract 0 (min (ic a.size) 60).toNat).size < 4294967281 by omega),eB,AE (show (JU (a.extract 0 (min (ic a.size) 60).toNat) B).size≤strMax by unfold strMax; omega)];simp only [B1,DC];cases ht:L6 (a.extract 0 (min (ic a.size) 60).toNat) with
   | false=>
    have hr:JU (a.extract 0 (min (ic a.size) 60).toNat) B=Ex:=by unfold JU; rw [ht]; rfl
    rw [hr,BB,DC,vaT];rfl
   | true=>
    rw [A2,DD];refine (o5 101 a _ _ (by omega) hsm _ _ (fun s12 x y=>Nb 101 a false _ s12 _ x y) _ 0 101 GA (BF _) (by omega) (AY _)).trans ?_;rw [B4,Et,mQ ht];unfold P1;rw [vaT];rfl
 ·simp [R.get] at h
open Go Go.Proofs Go.RowKit
theorem uR {P:Program} {w:World} {name:String} {g:Nat} {cs:Array Value} (hn:P.globalNamed name=some g) (hv:w.var? P name=some cs):∃ T fr,w.heap[g]?=some (.cells cs T fr):=by
 unfold World.var? at hv;rw [hn] at hv;simp only [Option.bind_some] at hv;split at hv
 ·rename_i c T fr hh;simp only [AC] at hv;subst hv;exact ⟨T,fr,hh⟩
 ·cases hv
theorem tT {w:World} {name:String} {g t:Nat} {ms:Array (String × TypeId)} {tn:String} {d:DataW Unit} (h:Lib.VarReads Tryz.prog w name (.iface tn d)) (hn:Tryz.prog.globalNamed name=some g)
  (ht:(Tryz.prog.globals[g]?).map (·.type)=some t) (hu:Tryz.prog.underlying t=some (.interface ms)):∃ c T fr te pe,w.heap[g]?=some (.cells c T fr)∧c[0]?=some (.iface te pe):=by
 obtain ⟨g',t',cs,fuel,p,h1,h2,h3,h4⟩:=h;obtain rfl:=CS (hn.symm.trans h1);obtain rfl:=CS (ht.symm.trans h2);obtain ⟨f',u,v,hcs,_,_⟩:=iface_of_trod hu h4;obtain ⟨T,fr,hh⟩:=uR hn h3;refine ⟨cs,T,fr,u,v,hh,?_⟩
 have:cs = #[.iface u v]:=by
  apply Array.ext';rw [hcs]
 rw [this];rfl
theorem Pc {W:World} {l:List (String × DataW Unit)} (hL:laidMet Tryz.prog l W) (hsh:W.ShapedOpen Tryz.prog)
  (hp:("internal/strconv.uint64pow10", Lib.tabData .u64 Lib.pow10Tab)∈l)
  {n1:String} {d1:DataW Unit} (h1:("strconv.ErrRange", .iface n1 d1)∈l)
  {n2:String} {d2:DataW Unit} (h2:("strconv.ErrSyntax", .iface n2 d2)∈l)
  : Glob B0 W:=by
 have hz:∀ g,g < 4→g < Tryz.prog.globals.size→g < W.heap.size:=fun g _ hg=>by
  have hb:((vav Tryz.prog.globals.size).all fun g=>(((begin Tryz.prog (fun _ _=>0) default).world.heap[g]?).bind Obj.row?).isSome)=true:=by kernel_rfl
  have:=CP.1 hb g (vaH.2 hg)
  obtain ⟨⟨z,t⟩,hz⟩:=Option.isSome_iff_exists.1 this;obtain ⟨cs,hh,_⟩:=hsh.1 g z t hg hz;exact (C9.1 hh).1
 have hsize:4≤W.heap.size:=by
  first
  | exact BZ _
  | (
    have:=hz (4 - 1) (by decide) (A1 (by kernel_rfl))
    omega)
 have low:∀ {g:Nat},g < 4→(fun b=>if b < B0.ng then W.heap[b]? else none) g=W.heap[g]?:=fun h=>BL (show _ < B0.ng from h)
 refine ⟨hsize,?_⟩;show GF _;constructor
 first | exact trivial | skip
 case gm=>
  obtain ⟨m,hm⟩:=cell_of_shapedOpen_int (P:=Tryz.prog) (g:=1) (t:=3) (zero:=#[.int .i64 0]) hsh (A1 (by kernel_rfl)) (by kernel_rfl) rfl (by kernel_rfl) (by kernel_rfl) Tryz.underlying3;simp only [vaF] at hm;split at hm
  ·rename_i c T fr' hh;exact ⟨c,T,fr',m,(low (by decide)).trans hh,hm⟩
  ·cases hm
 case gp=>
  have gp:Tryz.prog.globalNamed "internal/strconv.uint64pow10" = some 0:=by kernel_rfl
  obtain ⟨g',t',cp,fuel,p,e1,e2,e3,e4⟩:=vbo hL hp;obtain rfl:=CS (gp.symm.trans e1);obtain ⟨T,fr',hh⟩:=uR gp e3;refine ⟨T,fr',(low (by decide)).trans ?_⟩;rw [hh];have et:(Tryz.prog.globals[0]?).map (·.type)=some 262:=by kernel_rfl
  obtain rfl:=CS (et.symm.trans e2)
  have:=Lib.cells_of_tab (e:=103) (n:=20) (by kernel_rfl) (by kernel_rfl) (by kernel_rfl) (by kernel_rfl) e4
  congr 1;congr 1;apply Array.ext';exact this
 case gs=>
  obtain ⟨cs,Ts,fs,tes,pes,hs1,hs2⟩:=tT (g:=2) (vbo hL h2) (by kernel_rfl) (show _=some 120 by kernel_rfl) Tryz.underlying120;exact ⟨cs,Ts,fs,tes,pes,(low (by decide)).trans hs1,hs2⟩
 case gr=>
  obtain ⟨cr,Tr,fr,ter,per,hr1,hr2⟩:=tT (g:=3) (vbo hL h1) (by kernel_rfl) (show _=some 120 by kernel_rfl) Tryz.underlying120;exact ⟨cr,Tr,fr,ter,per,(low (by decide)).trans hr1,hr2⟩
def X0:Zone:=⟨fun _=>False,fun _=>False⟩
def γ0:Nat→Value:=fun _=>.nilIface
abbrev O0:Nat→Prop:=DI X0 γ0 []
theorem oW (b:Nat):¬ O0 b:=by
 rintro (⟨n,ob,h,_⟩ | h)
 ·simp [DG,EP] at h
 ·exact h
theorem yU (W:World):Rel B0.base 0 W X0 γ0 ⟨[],[]⟩ IU W:=by
 have no:∀ n ob,DG ([]:Store) n≠some ob:=fun n ob h=>by simp [DG,EP] at h
 refine ⟨rfl,rfl,fun i=>by simp only [St.get,EP,VRel],fun n ob h=>absurd h (no n ob),fun b h=>?_,fun n m ob ob' b _ h=>absurd h (no n ob),Keep.refl _ _,fun b h=>?_,fun b h=>h.elim,fun p _ ob h=>absurd h (no _ ob)⟩
 ·obtain ⟨n,ob,h,_⟩:=h;exact absurd h (no n ob)
 ·obtain ⟨n,ob,h,_⟩:=h;exact absurd h (no n ob)
theorem Kn {f:Nat} {fn:Func} (hf:PR.funcs[f]?=some fn) (hn:(fn.name == "runtime.NumGoroutine")=false) (hb:fn.body.isNone=false) {xs:List Value} {w:World} {R:Ending→World→Prop} (h:Does PR f xs w R):Calls PR f xs.toArray w R:=by
 have:(callFunc f xs.toArray).run PR w = .ok (.enter f xs.toArray) w:=by
  unfold callFunc;have hn':¬ fn.name = "runtime.NumGoroutine":=by simpa using hn
  have hb':¬ fn.body=none:=fun h=>by rw [h] at hb; cases hb
  simp [hf,hn',hb']
 unfold Does at h;rw [this] at h;exact h
theorem Ko {f:Nat} {fn:Func} {sp:DO} (hS:DQ PR B0 f sp) (hf:PR.funcs[f]?=some fn) (hn:(fn.name == "runtime.NumGoroutine")=false) (hb:fn.body.isNone=false) {vs:List V} {xs:List Value} {W:World}
  (hsp:(sp vs).get=some (.bool true,[])) (hbor:FW vs=none) (hG:Glob B0 W) (hV:VRels γ0 [] W O0 (vs.map EE) xs) :
  Calls PR f xs.toArray W fun e w'=>e = .returned (.bool true)∧Below W.heap.size W w':=by
 refine Kn hf hn hb ?_;have em:H3 vs=[]:=by unfold H3; rw [hbor]
 refine Does.mono (hS W X0 γ0 vs xs (.bool true) [] hsp hG (fun b h=>h.elim) (by rw [em]; exact yU W) (by rw [em]; exact hV)) ?_;rintro e w' ⟨x,rfl,γ',hR,hx,_⟩;simp only [LH,EE,VRel] at hx;subst hx;exact ⟨rfl,hR.keep.os,hR.keep.tape,hR.keep.output,hR.keep.size,fun b hb=>hR.keep.block b hb (fun h=>h)⟩
open Go
def Q8 (P:Program) (e:TypeId):Bool:=match P.underlying e with | some (.struct _)=>true | some (.array _ _)=>true | _=>false
def V8 (f:TypeId→Option (List Kd)) (cell:TypeId→Nat):Nat→List (TypeId × Nat)→Option (List Kd)
 | _,[]=>some []
 | off,(t,o) :: r=>match BI o off with
  | true=>match f t with
   | some ks=>match BI (cell t) ks.length with
    | true=>match V8 f cell (off+ks.length) r with
     | some ks'=>some (ks++ks')
     | none=>none
    | false=>none
   | none=>none
  | false=>none
def OZ (P:Program):Nat→TypeId→Option (List Kd)
 | 0,_=>none
 | n+1,t=>match P.underlying t with
  | some .bool=>some [.bool]
  | some (.int k)=>some [.int k]
  | some .string=>some [.str]
  | some (.slice e)=>match OZ P n e with
   | some ks=>match BW 1 (P.bytesOf e)&&(BI (P.cellsOf e) ks.length&&(BW 1 ks.length&&(Q8 P e||BI ks.length 1))) with
    | true=>some [.list (Q8 P e) ks]
    | false=>none
   | none=>none
  | some (.struct fs)=>match V8 (OZ P n) P.cellsOf 0 (fs.toList.map fun f=>(f.type,f.offset)) with
   | some ks=>match BI (P.cellsOf t) ks.length with | true=>some ks | false=>none
   | none=>none
  | some (.array m e)=>match V8 (OZ P n) P.cellsOf 0 ((vav m).map fun i=>(e,i*P.cellsOf e)) with
   | some ks=>match BI (P.cellsOf t) ks.length with | true=>some ks | false=>none
   | none=>none
  | _=>none
def CellsK (w:World) (O:Nat→Prop):List Kd→LI→List Value→Prop
 | [],[],[]=>True
 | k :: ks,x :: f,v :: cs=>Kd.Rel w O k x v∧CellsK w O ks f cs
 | _,_,_=>False
section
variable {w:World} {O:Nat→Prop}
theorem CellsK.append:∀ {ks:List Kd} {f:LI} {cs:List Value} {ks':List Kd} {f':LI} {cs':List Value},CellsK w O ks f cs→CellsK w O ks' f' cs'→CellsK w O (ks++ks') (f++f') (cs++cs')
 | [],[],[],_,_,_,_,h'=>h'
 | _ :: ks,_ :: f,_ :: cs,_,_,_,h,h'=>by
  simp only [CellsK] at h;simp only [vaa,CellsK];exact ⟨h.1,h.2.append h'⟩
 | [],_ :: _,_,_,_,_,h,_=>by simp [CellsK] at h
 | [],[],_ :: _,_,_,_,h,_=>by simp [CellsK] at h
 | _ :: _,[],_,_,_,_,h,_=>by simp [CellsK] at h
 | _ :: _,_ :: _,[],_,_,_,h,_=>by simp [CellsK] at h
theorem CellsK.get:∀ {ks:List Kd} {f:LI} {cs:List Value},CellsK w O ks f cs→∀ (j:Nat) (k:Kd),ks[j]?=some k→∃ v,cs[j]?=some v∧Kd.Rel w O k (LC f j) v
 | [],_,_,_,j,k,h=>by simp at h
 | k :: ks,x :: f,v :: cs,h,j,k',hj=>by
  simp only [CellsK] at h;cases j with
  | zero=>
   simp only [BK,AC] at hj;subst hj;exact ⟨v,rfl,by simpa only [LC] using h.1⟩
  | succ j=>
   obtain ⟨u,h1,h2⟩:=h.2.get j k' (by simpa using hj);exact ⟨u,by simpa using h1,by simpa only [LC] using h2⟩
 | _ :: _,[],_,h,_,_,_=>by simp [CellsK] at h
 | _ :: _,_ :: _,[],h,_,_,_=>by simp [CellsK] at h
theorem sP {α:Type} {Q:Nat→α→Prop}:∀ n,(∀ i,i < n→∃ x,Q i x)→∃ L:List α,L.length=n∧∀ i x,L[i]?=some x→Q i x
 | 0,_=>⟨[],rfl,fun i x h=>by simp at h⟩
 | n+1,h=>by
  obtain ⟨L,hl,hL⟩:=sP n (fun i hi=>h i (by omega));obtain ⟨x,hx⟩:=h n (by omega);refine ⟨L++[x],by simp [hl],fun i y hy=>?_⟩;rw [vaf] at hy;split at hy
  ·exact hL i y hy
  ·rename_i hi
   have:i - L.length=0:=by
    rcases Nat.eq_zero_or_pos (i - L.length) with e | e
    ·exact e
    ·rw [BM (by simp; omega)] at hy;cases hy
   rw [this] at hy;simp only [BK,AC] at hy;subst hy
   have:i=n:=by omega
   subst this;exact hx
end
theorem kX {H:Type} {P:Program}:∀ {ts:List TypeId} {ds:List (DataW H)} {i:Nat} {t:TypeId} {d:DataW H},ts[i]?=some t→ds[i]?=some d→∀ y∈d.weights P t,y∈vbF P ts ds
 | [],_,i,_,_,h,_,_,_=>by simp at h
 | _ :: _,[],i,_,_,_,h,_,_=>by simp at h
 | t0 :: ts,d0 :: ds,0,t,d,h,h',y,hy=>by
  simp only [BK,AC] at h h';subst h; subst h';simp only [vbF,AV];exact .inl hy
 | t0 :: ts,d0 :: ds,i+1,t,d,h,h',y,hy=>by
  simp only [vbF,AV];exact .inr (kX (by simpa using h) (by simpa using h') y hy)
theorem kW {H:Type} {P:Program} {e:TypeId}:∀ {ds:List (DataW H)} {d:DataW H},d∈ds→∀ y∈d.weights P e,y∈DataW.weightsAll P e ds
 | [],_,h,_,_=>by cases h
 | d0 :: ds,d,h,y,hy=>by
  simp only [DataW.weightsAll,AV];rcases AU.1 h with rfl | h
  ·exact .inl hy
  ·exact .inr (kW h y hy)
section
variable {H:Type} {enc:TypeId × Value→H} {P:Program} {w:World} {base:Nat} {sp:Nat→Bool} {held:Bool} {O:Nat→Prop}
theorem lV {f:TypeId→Option (List Kd)} {n:Nat} {cs:List Value}
  (ih:∀ (t:TypeId) (ks:List Kd) (cs:List Value) (d:DataW H) (p:List MemPlace),f t=some ks→DataW.trod enc P w base sp held n t cs=some (d,p)→(∀ y∈d.weights P t,y≤reachBytes)→∃ g,CellsK w O ks g cs) :
  ∀ (parts:List (TypeId × Nat)) (off:Nat) (ks:List Kd) (xs:List (DataW H × List MemPlace)),V8 f P.cellsOf off parts=some ks→xs.length=parts.length →
   (∀ (i:Nat) (t:TypeId) (o:Nat),parts[i]?=some (t,o)→DataW.trod enc P w base sp held n t ((cs.drop o).take (P.cellsOf t))=xs[i]?) →
   (∀ (i:Nat) (t:TypeId) (o:Nat) (x:DataW H × List MemPlace),parts[i]?=some (t,o)→xs[i]?=some x→∀ y∈x.1.weights P t,y≤reachBytes)→∃ g,CellsK w O ks g ((cs.drop off).take ks.length)
 | [],off,ks,xs,h,_,_,_=>by
  simp only [V8,AC] at h;subst h;exact ⟨[],by simp only [A7,List.take_zero,CellsK]⟩
 | (t,o) :: r,off,ks,[],h,hl,_,_=>by simp at hl
 | (t,o) :: r,off,ks,x :: xs,h,hl,ht,hw=>by
  simp only [V8] at h;split at h
  case h_2=>cases h
  rename_i ho;obtain rfl:=vaj ho;split at h
  case h_2=>cases h
  rename_i k1 hk1;split at h
  case h_2=>cases h
  rename_i hc;have hc:=vaj hc;split at h
  case h_2=>cases h
  rename_i k2 hk2;simp only [AC] at h;subst h;have h0:=ht 0 t o rfl;simp only [BK] at h0;obtain ⟨d,p⟩:=x;obtain ⟨g1,hg1⟩:=ih t k1 _ d p hk1 h0 (hw 0 t o (d,p) rfl rfl);obtain ⟨g2,hg2⟩:=lV ih r (o+k1.length) k2 xs hk2 (by simpa using hl) (fun i t' o' hi=>by simpa using ht (i+1) t' o' (by simpa using hi)) (fun i t' o' x hi hx=>hw (i+1) t' o' x (by simpa using hi) (by simpa using hx));refine ⟨g1++g2,?_⟩;rw [AW,List.take_add,List.drop_drop];rw [hc] at hg1;exact hg1.append hg2
theorem zde {a:Addr} {v:Value} (h:w.cell? a=some v):a.spot=none∧a.block < w.heap.size:=by
 unfold vaF at h;split at h
 ·rename_i c _ _ hc;split at h
  ·cases h
  ·rename_i hs;exact ⟨by simpa using hs,(C9.1 hc).1⟩
 ·cases h
theorem bN (hO:∀ b,¬ O b):∀ (n:Nat) (t:TypeId) (ks:List Kd) (fuel:Nat) (cs:List Value) (d:DataW H) (p:List MemPlace),OZ P n t=some ks →
  DataW.trod enc P w base sp held fuel t cs=some (d,p)→(∀ y∈d.weights P t,y≤reachBytes)→∃ g,CellsK w O ks g cs
 | 0,_,_,_,_,_,_,h,_,_=>by simp [OZ] at h
 | n+1,t,ks,fuel,cs,d,p,h,ht,hw=>by
  simp only [OZ] at h;split at h
  ·rename_i hu;simp only [AC] at h;subst h;obtain ⟨b,rfl,_⟩:=DataW.trod_bool hu ht;exact ⟨[.bool b],by simp only [CellsK,Kd.Rel,IV.toBool,and_self]⟩
  ·rename_i k hu;simp only [AC] at h;subst h;obtain ⟨m,rfl,_,hm⟩:=DataW.trod_int hu ht;simp only [Lit.wf,AH,AQ] at hm;exact ⟨[.int m],by simp only [CellsK,Kd.Rel,IV.toInt,BX,vaZ]; exact hm⟩
  ·rename_i hu;simp only [AC] at h;subst h;obtain ⟨s,rfl,hd,hs⟩:=DataW.trod_string hu ht;simp only [AS] at hd;refine ⟨[.str s],?_⟩;simp only [CellsK,Kd.Rel,IV.toStr,BX,vaZ];rw [hd.1] at hw
   have:=hw s.data.toList.length (by simp [vbs])
   have e:s.data.toList.length=s.size:=by rw [CR]; rfl
   rw [e] at this;unfold reachBytes at this;unfold strMax;omega
  ·rename_i e hu;split at h
   case h_2=>cases h
   rename_i k1 hk1;split at h
   case h_2=>cases h
   rename_i hc;simp only [AC] at h;subst h;simp only [AH,vax] at hc;obtain ⟨hb,hce,hk0,hag⟩:=hc;have hb:=AM hb;have hce:=vaj hce;have hk0:=AM hk0;rcases DataW.trod_slice hu ht with ⟨rfl,_⟩ | ⟨a,len,cap,elems,rest,m,_,rfl,hx,_,hlc,hcap,hlen,hel,_⟩
   ·refine ⟨[.list []],?_⟩;simp only [CellsK,Kd.Rel,IV.toList,BX];exact ⟨none,0,rfl,AY _,BZ _,BZ _,fun i y hi=>by simp at hi⟩
   ·simp only [AS] at hx;obtain ⟨rfl,_⟩:=hx;simp only [vbs,hu,AU,AV] at hw;have hsz:len≤strMax:=by
     have:=hw _ (.inl rfl)
     rw [B7,hlen] at this;have h1:len*1≤(len+(rest.map (·.1)).length)*P.bytesOf e:=Nat.mul_le_mul (by omega) hb;unfold reachBytes at this;unfold strMax;omega
    have hex:∀ i,i < len→∃ g:LI,∃ ci,w.cells? base (a.add (i*k1.length)) k1.length=some ci∧CellsK w O k1 g ci:=by
     intro i hi;have h1:=hel i hi;have hi':i < elems.length:=by omega
     rw [A6 hi',hce] at h1;simp only [Option.bind_eq_some_iff] at h1;obtain ⟨ci,h2,h3⟩:=h1;obtain ⟨g,hg⟩:=bN hO n e k1 m ci elems[i].1 elems[i].2 hk1 h3 (fun y hy=>hw y (.inr (.inl (kW (vaK (CX hi')) y hy))));exact ⟨g,ci,h2,hg⟩
    obtain ⟨L,hL,hLi⟩:=sP len hex;refine ⟨[.list (L.map fun g=>match Q8 P e with | true=>IV.agg g | false=>LC g 0)],?_⟩;simp only [CellsK,Kd.Rel,IV.toList,BX,B7,hL];refine ⟨some a,cap,rfl,hlc,hcap,hsz,fun i y hi=>?_⟩;rw [B5,C8] at hi;obtain ⟨g,hg,rfl⟩:=hi;obtain ⟨ci,hci,hgc⟩:=hLi i g hg;have hil:i < len:=by rw [← hL]; exact (BN.1 hg).1
    have cellAt:∀ j k,k1[j]?=some k→∃ u,w.cell? ((a.add (i*k1.length)).add j)=some u∧Kd.Rel w O k (LC g j) u:=by
     intro j k hk;obtain ⟨u,h1,h2⟩:=hgc.get j k hk;refine ⟨u,?_,h2⟩;have hj:j < k1.length:=(BN.1 hk).1;unfold World.cells? at hci;split at hci
     ·obtain ⟨b,hb1,hb2⟩:=Lib.mapM_at hci j j (by simp [hj]);rw [h1] at hb1;simp only [AC] at hb1;rw [hb2,hb1]
     ·cases hci
    have hspot:a.spot=none∧a.block < w.heap.size:=by
     obtain ⟨g0,hg0⟩:∃ g0,L[0]?=some g0:=⟨L[0]'(by omega),A6 (by omega)⟩;obtain ⟨c0,hc0,hgc0⟩:=hLi 0 g0 hg0;obtain ⟨u,h1,_⟩:=hgc0.get 0 k1[0] (A6 (by omega));unfold World.cells? at hc0;split at hc0
     ·obtain ⟨b,_,hb2⟩:=Lib.mapM_at hc0 0 0 (List.getElem?_range (show 0 < k1.length by omega))
      have:=zde hb2
      rw [Nat.zero_mul] at this;simpa [Addr.add] using this
     ·cases hc0
    obtain ⟨ab,ao,asp⟩:=a;obtain ⟨hs1,hs2⟩:=hspot;simp only at hs1 hs2;subst hs1;refine ⟨ab,ao,rfl,hO ab,hs2,?_⟩;rw [Kd.RelAll_iff];intro j k hk;obtain ⟨u,h1,h2⟩:=cellAt j k hk;rw [Lib.add_plain,Lib.add_plain] at h1;rw [BF];refine ⟨u,h1,?_⟩;cases hat:Q8 P e with
    | true=>
     show Kd.Rel w O k (LC g j) u;exact h2
    | false=>
     rw [hat] at hag;have h1l:k1.length=1:=vaj (by simpa using hag);have hj:j < k1.length:=(BN.1 hk).1
     have:j=0:=by omega
     subst this;exact h2
  ·rename_i fs hu;split at h
   case h_2=>cases h
   rename_i k1 hk1;split at h
   case h_2=>cases h
   rename_i hc;have hc:=vaj hc;simp only [AC] at h;subst h;obtain ⟨xs,m,_,hx,hcl,hxl,hall⟩:=DataW.trod_struct hu ht;simp only [AS] at hx;obtain ⟨rfl,_⟩:=hx;simp only [vbs,hu] at hw;have key:=lV (enc:=enc) (P:=P) (w:=w) (base:=base) (sp:=sp) (held:=held) (O:=O) (f:=OZ P n) (n:=m) (cs:=cs) (fun t ks cs d p h1 h2 h3=>bN hO n t ks m cs d p h1 h2 h3) (fs.toList.map fun f=>(f.type,f.offset)) 0 k1 xs hk1 (by simp [hxl]) (fun i t o hi=>by
     rw [B5,C8] at hi;obtain ⟨f,hf,he⟩:=hi;simp only [AS] at he;obtain ⟨rfl,rfl⟩:=he;exact hall i f (by simpa using hf)) (fun i t o x hi hx y hy=>by
     rw [B5,C8] at hi;obtain ⟨f,hf,he⟩:=hi;simp only [AS] at he;obtain ⟨rfl,rfl⟩:=he;exact hw y (kX (i:=i) (by rw [B5,hf]; rfl) (by rw [B5,hx]; rfl) y hy))
   obtain ⟨g,hg⟩:=key;rw [B4,CV (by omega)] at hg;exact ⟨g,hg⟩
  ·rename_i m0 e hu;split at h
   case h_2=>cases h
   rename_i k1 hk1;split at h
   case h_2=>cases h
   rename_i hc;have hc:=vaj hc;simp only [AC] at h;subst h;obtain ⟨xs,m,_,hx,hcl,hxl,hall⟩:=DataW.trod_array hu ht;simp only [AS] at hx;obtain ⟨rfl,_⟩:=hx;simp only [vbs,hu] at hw;have key:=lV (enc:=enc) (P:=P) (w:=w) (base:=base) (sp:=sp) (held:=held) (O:=O) (f:=OZ P n) (n:=m) (cs:=cs) (fun t ks cs d p h1 h2 h3=>bN hO n t ks m cs d p h1 h2 h3) ((vav m0).map fun i=>(e,i*P.cellsOf e)) 0 k1 xs hk1 (by simp [hxl]) (fun i t o hi=>by
     rw [B5,C8] at hi;obtain ⟨f,hf,he⟩:=hi;simp only [AS] at he;obtain ⟨rfl,rfl⟩:=he;have hfi:=BN.1 hf;obtain ⟨hl,he⟩:=hfi;rw [List.getElem_range] at he;subst he;exact hall i (by simpa using hl)) (fun i t o x hi hx y hy=>by
     rw [B5,C8] at hi;obtain ⟨f,hf,he⟩:=hi;simp only [AS] at he;obtain ⟨rfl,rfl⟩:=he;exact hw y (kW (vaK (vag hx)) y hy))
   obtain ⟨g,hg⟩:=key;rw [B4,CV (by omega)] at hg;exact ⟨g,hg⟩
  ·cases h
end
open Go Go.Proofs Go.RowKit Go.ChangeShapes Go.WideShapes
def UY:Kd→IV→V
 | .int k,x=>.int k x.toInt
 | .bool,x=>.bool x.toBool
 | .str,x=>.str x.toStr
 | .list ag ks,x=>.list ag ks x.toList
theorem Eo {γ:Nat→Value} {o:Store} {w:World} {O:Nat→Prop} {k:Kd} {x:IV} {v:Value} (h:Kd.Rel w O k x v):VRel γ o w O (UY k x) v:=by
 cases k with
 | int k=>simpa only [UY,VRel,Kd.Rel] using h
 | bool=>simpa only [UY,VRel,Kd.Rel] using h
 | str=>simpa only [UY,VRel,Kd.Rel] using h
 | list ag ks=>
  simp only [UY,VRel];simpa only [Kd.Rel,IV.toList] using h
def bP:List Kd→LI→List V
 | k :: ks,x :: f=>UY k x :: bP ks f
 | _,_=>[]
theorem Ew {γ:Nat→Value} {o:Store} {w:World} {O:Nat→Prop}:∀ {ks:List Kd} {f:LI} {cs:List Value},CellsK w O ks f cs→VRels γ o w O (bP ks f) cs
 | [],[],[],_=>by simp only [bP,VRels]
 | _ :: _,_ :: _,_ :: _,h=>by
  simp only [CellsK] at h;simp only [bP,VRels];exact ⟨Eo h.1,Ew h.2⟩
 | [],_ :: _,_,h=>by simp [CellsK] at h
 | [],[],_ :: _,h=>by simp [CellsK] at h
 | _ :: _,[],_,h=>by simp [CellsK] at h
 | _ :: _,_ :: _,[],h=>by simp [CellsK] at h
theorem CellsK.len {w:World} {O:Nat→Prop}:∀ {ks:List Kd} {f:LI} {cs:List Value},CellsK w O ks f cs→f.length=ks.length
 | [],[],[],_=>rfl
 | _ :: _,_ :: _,_ :: _,h=>by
  simp only [CellsK] at h;simp only [List.length_cons,h.2.len]
 | [],_ :: _,_,h=>by simp [CellsK] at h
 | [],[],_ :: _,h=>by simp [CellsK] at h
 | _ :: _,[],_,h=>by simp [CellsK] at h
 | _ :: _,_ :: _,[],h=>by simp [CellsK] at h
section
variable {H:Type} {enc:TypeId × Value→H} {P:Program} {W:World} {base b0:Nat} {sp:Nat→Bool} {held:Bool}
theorem Jg {n:Nat} {t:TypeId} {ks:List Kd} {v:Value} {d:DataW H} {p:List MemPlace} (hk:OZ P n t=some ks) (hu:Q8 P t=true) (hval:Value.okWide P W .any base t v)
  (h:DataW.Trod enc P W b0 sp held t v d p) (hw:∀ y∈d.weights P t,y≤reachBytes):∃ g:LI,g.length=ks.length∧VRel γ0 [] W O0 (.agg (bP ks g)) v:=by
 obtain ⟨cs,rfl⟩:∃ cs,v = .agg cs:=by
  unfold Q8 at hu;unfold Value.okWide at hval;split at hu
  ·rename_i hh; rw [hh] at hval; exact hval.imp (fun _ h=>h.1)
  ·rename_i hh; rw [hh] at hval; exact hval.imp (fun _ h=>h.1)
  ·cases hu
 obtain ⟨fuel,hf⟩:=h;obtain ⟨g,hg⟩:=bN (O:=O0) oW n t ks fuel _ d p hk hf hw;refine ⟨g,hg.len,?_⟩;simp only [VRel];exact ⟨cs,rfl,Ew hg⟩
theorem gY {n:Nat} {t:TypeId} {k:Kd} {v:Value} {d:DataW H} {p:List MemPlace} (hk:OZ P n t=some [k]) (hu:Q8 P t=false) (hval:Value.okWide P W .any base t v)
  (h:DataW.Trod enc P W b0 sp held t v d p) (hw:∀ y∈d.weights P t,y≤reachBytes):∃ x:IV,VRel γ0 [] W O0 (UY k x) v:=by
 obtain ⟨fuel,hf⟩:=h;obtain ⟨g,hg⟩:=bN (O:=O0) oW n t [k] fuel _ d p hk hf hw;have hc:v.cells.toList=[v]:=by
  cases v with
  | agg cs=>
   exfalso;unfold Q8 at hu;unfold Value.okWide at hval;split at hu
   ·cases hu
   ·cases hu
   ·rename_i h1 h2;split at hval
    ·rename_i hh; exact h1 _ hh
    ·rename_i hh; exact h2 _ _ hh
    ·unfold Cell.okWide Cell.ok at hval;split at hval <;> first | (split at hval <;> simp_all) | simp_all
  | _=>rfl
 rw [hc] at hg
 match g,hg with
 | [x],hg=>
  simp only [CellsK,and_true] at hg;exact ⟨x,Eo hg⟩
theorem Ej (hl:laidOutB P=true) {W':World} (hb:Below W.heap.size W W'):∀ {ts:List TypeId} {vs:List Value} {ds:List (DataW H)} {ps:List MemPlace},DataW.TrodAll enc P W 0 (fun _=>true) true ts vs ds ps →
  (∀ t∈ts,P.readableRec t=true∧t < P.types.size)→(∀ x∈ps,x.block < W.heap.size)→DataW.TrodAll enc P W' 0 (fun b=>decide (b < W.heap.size)) true ts vs ds ps
 | [],vs,ds,ps,h,_,_=>by
  obtain ⟨rfl,rfl,rfl⟩:=trodAll_nil h;rfl
 | t :: ts,vs,ds,ps,h,ht,hp=>by
  obtain ⟨v,vs1,d,ds1,a,b,rfl,rfl,rfl,h1,h2⟩:=trodAll_cons h;have hh:=ht t (List.mem_cons_self ..);exact ⟨a,b,Below.trod hl hh.1 hh.2 h1 hb (fun x hx=>hp x (List.mem_append.2 (.inl hx))),Ej hl hb h2 (fun t' h'=>ht t' (List.mem_cons_of_mem _ h')) (fun x hx=>hp x (List.mem_append.2 (.inr hx))),rfl⟩
end
theorem zO:ownKnob Tryz.prog.godebug=none:=by kernel_rfl
theorem zN:laidOutB Tryz.prog=true:=by kernel_rfl
theorem Uo {os:Os} (started:os.Started) {H:Type} {enc:TypeId × Value→H} {spec:ChangeSpec} {f:Nat} {fn:Func} {sp:DO} {laid:List (String × DataW Unit)} (hS:DQ PR B0 f sp) (hf:Tryz.prog.funcs[f]?=some fn)
  (hn:(fn.name == "runtime.NumGoroutine")=false) (hb:fn.body.isNone=false) (hini:Tryz.prog.inits.idxOf? f=none) (hres:fn.resultTypes = #[4]) (hvars:spec.vars=[])
  (hspec:∀ (ds:List (DataW H)),ds.length=fn.params.toList.length→spec.fn H ds={ results:=[.lit (.bool true)],args:=ds })
  (hpar:fn.params.toList.all (fun t=>Tryz.prog.readableRec t&&decide (t < Tryz.prog.types.size))=true)
  (hglob:∀ W:World,laidMetH Tryz.prog laid W→W.ShapedOpen Tryz.prog→Glob B0 W)
  (witness:∃ (w:World) (tape:Tape) (i:Input),w.os=os∧(w.forCall tape i).Shaped Tryz.prog∧i.vars=[]∧Input.okWide Tryz.prog (w.forCall tape i) .any w.heap.size f i ∧
   (OpenSpec.ofChange spec).preRow enc Tryz.prog fn [] false laid (w.forCall tape i).memory i.args∧({}:Assume).holds Tryz.prog (lone (Frame.enter Tryz.prog f i.args .normal) [] (w.forCall tape i)))
  (harg:∀ (W:World) (base:Nat) (vs:List Value) (ds:List (DataW H)) (p:List MemPlace),DataW.TrodAll enc Tryz.prog W 0 (fun _=>true) true fn.params.toList vs ds p →
   (∀ (j:Nat) t v,fn.params.toList[j]?=some t→vs[j]?=some v→Value.okWide Tryz.prog W .any base t v) →
   (∀ (j:Nat) t d,fn.params.toList[j]?=some t→ds[j]?=some d→∀ y∈d.weights Tryz.prog t,y≤reachBytes) →
   ∃ l:List V,(sp l).get=some (.bool true,[])∧FW l=none∧VRels γ0 [] W O0 (l.map EE) vs) :
  ReturnsInHanded {} Tryz.checked os f .any ((OpenSpec.ofChange spec).preRow enc Tryz.prog fn [] false laid) (spec.post enc Tryz.prog fn false true false false):=by
 refine returnsInHanded_of_row (C:=Tryz.checked) (s:=OpenSpec.ofChange spec) (F:=fun _ _ _=>0) zO started hini hf witness ?_;intro W base args ds gs before hval hW _ _ hwt hL hsh _;have hW':=hW;obtain ⟨p,q,hA,hV,rfl,_,_⟩:=hW;have hvars':(OpenSpec.ofChange spec).vars=[]:=hvars;rw [hvars'] at hV;obtain ⟨rfl,rfl⟩:=trodVars_none hV;have hlen:ds.length=fn.params.toList.length:=by
  have:∀ {ts:List TypeId} {vs:List Value} {ds:List (DataW H)} {ps:List MemPlace},DataW.TrodAll enc Tryz.prog W 0 (fun _=>true) true ts vs ds ps→ds.length=ts.length:=by
   intro ts
   induction ts with
   | nil=>intro vs ds ps h; obtain ⟨_,rfl,_⟩:=trodAll_nil h; rfl
   | cons t ts ih=>
    intro vs ds ps h;obtain ⟨v,vs1,d,ds1,a,b,rfl,rfl,rfl,h1,h2⟩:=trodAll_cons h;simp only [List.length_cons,ih h2]
  exact this hA
 simp only [List.append_nil] at hW' hwt;obtain ⟨l,hl,hbor,hrel⟩:=harg W base args.toList ds p hA (fun j t v h1 h2=>hval j t v (by simpa using h1) (by simpa using h2)) (fun j t d h1 h2 y hy=>by
  have hm:=kX (P:=Tryz.prog) (ts:=fn.params.toList++(OpenSpec.ofChange spec).bare.plain.varTypes Tryz.prog) (ds:=ds) (i:=j) (t:=t) (d:=d) (by
   rw [List.getElem?_append_left (by rw [← hlen]; exact (List.getElem?_eq_some_iff.1 h2).1)];exact h1) h2 y hy
  have:=List.all_eq_true.1 hwt y hm
  simpa using this)
 have hc:=Ko hS hf hn hb hl hbor (hglob W hL hsh) hrel;have ea:args.toList.toArray=args:=by simp
 rw [ea] at hc;refine hc.mono ?_;rintro e W' ⟨rfl,bel⟩;have hfn:spec.fn H (ds++[])={ results:=[.lit (.bool true)],args:=ds }:=by rw [List.append_nil]; exact hspec ds hlen
 have hlt:∀ x∈p,x.block < W.heap.size:=fun x hx=>hW'.lt x hx
 have post:spec.post enc Tryz.prog fn false true false false W args (.bool true) W':=by
  refine ⟨ds,[],p,[],p,[],hW',?_,?_,?_,bel.frame _,fun h=>by cases h⟩
  ·rw [hfn,hres];exact trodAll_mk1 (shut_bool Tryz.underlying4 _)
  ·rw [hfn];exact Ej zN bel hA (fun t ht=>by
    have:=List.all_eq_true.1 hpar t ht
    simpa using this) hlt
  ·rw [hvars,hfn];rfl
 exact ⟨_,rfl,post⟩
end Go.FM
namespace Go.Proofs.YtehhekmihbaghaaGreatDoor
open Go Go.ChangeShapes Go.WideShapes Go.ChangeAt Go.RowKit Go.FM
theorem zO:ownKnob Tryz.prog.godebug=none:=by kernel_rfl
theorem zN:laidOutB Tryz.prog=true:=by kernel_rfl
abbrev bB:List (String × DataW Unit):=Rows.topLinesRow.laid
noncomputable def zP (os:Os):World:=
 let w0:=World.doorLaid Tryz.prog 72 os
 { w0 with heap:=w0.heap.modify 4 fun
  | .cells _ t frozen=>.cells (Lib.firstTab.map fun z=>Value.int .u8 z).toArray t frozen
  | o=>o }
theorem zbM (os:Os) (args:Array Value):laidMetH Tryz.prog bB ((zP os).forCall (fun _ _=>0) ⟨#[],args,[]⟩).memory:=
 laidMetH_of_parts3 (fuel:=8) (laidMet_of_run' 8 (by kernel_rfl) (by kernel_rfl)) (by kernel_rfl) (by kernel_rfl)
theorem zbL {W:World} (hL:laidMetH Tryz.prog bB W) (hsh:W.ShapedOpen Tryz.prog):Glob B0 W:=by
 have hL':laidMet Tryz.prog bB W:=by
  rw [MakeChecks.laidMetH_plain _ _ _ (by kernel_rfl)] at hL;exact hL
 exact Pc hL' hsh (n1 := "*errors.errorString") (n2 := "*errors.errorString") (.tail _ (.tail _ (.head _))) (.tail _ (.tail _ (.tail _ (.tail _ (.head _))))) (.tail _ (.tail _ (.tail _ (.tail _ (.tail _ (.head _))))))
end Go.Proofs.YtehhekmihbaghaaGreatDoor
