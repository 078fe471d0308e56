/-
  A small machine that reckons what a call comes to; the functions of the program, one by one. (NORMAL FORMS: what the functions' runs come to (written by a, ask's FUNCTIONS COME TO WHAT IS SAID (1)., NORMAL FORMS: what the functions' runs come to (written by a, and so on.)
-/
import Derived.Test.YtihliihljmfhlaaGreatDoorAd
set_option linter.all false
set_option maxRecDepth 100000
open Array renaming length_toList→C1,toList_append→vaj
open BitVec renaming ofInt→A0,toNat→B1
open Bool renaming and_eq_true→AQ,not_true→A9,not_false→BF,true_and→BI,false_and→BP,and_self→BR,not_eq_true'→CE,and_true→CK,and_false→DE,or_eq_false_iff→vag,or_eq_true→vap,eq_iff_iff→vaB,false_or→vaF,true→AC,false→AD
open ByteArray renaming size→AP,toList→A7,size_append→BC,empty→CQ,append_assoc→vai,size_extract→vay,extract→vaT,size_push→va5
open Decidable renaming decide→AE
open Go.IntKind renaming wrap→AI,i64→AJ,bits→AT
open Go.Lib renaming decDigits→CS,indexByte→var
open Go.ResultVar renaming tmp→B7,cell→va6
open Int renaming toNat→AM,toNat_natCast→BE,le_refl→DH
open List renaming length→AN,getD→AR,take→AU,length_cons→AV,mem_cons→AW,mem_cons_self→AY,length_append→A2,drop→A3,mem_append→A5,mem_cons_of_mem→A6,map_cons→A8,getElem?_eq_getElem→BD,map→BG,drop_eq_getElem_cons→BJ,length_take→BL,length_nil→BN,take_length→BS,length_map→BW,getD_eq_getElem?_getD→BY,mem_singleton→BZ,getElem?_eq_some_iff→B4,replicate→B6,getElem?_eq_none→B8,not_mem_nil→CC,drop_zero→CD,getElem?_map→CJ,map_nil→CN,mem_map→CU,all_eq_true→CZ,getElem_mem→C0,take_of_length_le→C2,getElem?_take→C3,drop_length→C8,cons_append→C9,length_drop→DA,drop_of_length_le→DC,length_singleton→DG,size_toArray→DM,append_nil→vab,nil_append→vac,getElem?_append→vah,all_cons→van,getElem?_drop→vat,append_assoc→vaz,flatMap_cons→vaA,length_set→vaL,mem_of_mem_take→vaO,mem_of_mem_drop→va7,sum_cons→vbb,isPrefixOf→vbu
open List.cons renaming injEq→vaD
open Nat renaming le_of_ble_eq_true→AX,le_refl→A4,zero_add→BU,blt→BV,ble→CG,zero_le→CH,ble_eq_true_of_le→CV,le_trans→DD,add_zero→DJ,sub_zero→vas,add_assoc→vaJ,lt_of_le_of_lt→vbn
open Option renaming getD_some→vam,getD→vbq,some→AA,none→AB
open Option.some renaming injEq→AK,inj→CB
open Prod.mk renaming injEq→A1
namespace Go.FM
open Go Go.Proofs
def Vx(N:Nat):Env:=EE [] [] 39 N
theorem wt(N:Nat)(u04 u01 u06 u05 u08 u07 u0a u09 u0c u0b u0e u0d q_Lo q_Hi u03:Int)(u02:Bool)(u00 dim:Int):EA (Vx N) Ae [.cell 4 39] [[.z,.z,.z,.z,.z,.z,.z,.z,.z,.z,.z,.z,.z,.z,.z,.bool,.z]] [.agg [.i u04,.i u01,.i u06,.i u05,.i u08,.i u07,.i u0a,.i u09,.i u0c,.i u0b,.i u0e,.i u0d,.i q_Lo,.i q_Hi,.i u03,.bool u02,.i u00],.i dim]=(cond (AE (0<=dim)&&AE (dim<=ic 5)) (cond (AE (0<=dim)&&AE (dim<=ic 5)) (cond (AE (ic (min (AM dim) (AM dim))=ic 0)) (cond (u04==1) (AA (.agg [.i u04,.i u01,.i 0,.i 0,.i 0,.i 0,.i 0,.i 0,.i 0,.i 0,.i 0,.i 0,.i q_Lo,.i q_Hi,.i 0,.bool AD,.i u00],[])) (cond (u04==3) (AA (.agg [.i u04,.i u01,.i 0,.i 0,.i 0,.i 0,.i 0,.i 0,.i 0,.i 0,.i 0,.i 0,.i 0,.i 0,.i u03,.bool u02,.i u00],[])) (AA (.agg [.i u04,.i u01,.i 0,.i 0,.i 0,.i 0,.i 0,.i 0,.i 0,.i 0,.i 0,.i 0,.i 0,.i 0,.i 0,.bool AD,.i u00],[])))) (cond (AE (ic (min (AM dim) (AM dim))=ic 1)) (cond (u04==1) (AA (.agg [.i u04,.i u01,.i u06,.i u05,.i 0,.i 0,.i 0,.i 0,.i 0,.i 0,.i 0,.i 0,.i q_Lo,.i q_Hi,.i 0,.bool AD,.i u00],[])) (cond (u04==3) (AA (.agg [.i u04,.i u01,.i u06,.i u05,.i 0,.i 0,.i 0,.i 0,.i 0,.i 0,.i 0,.i 0,.i 0,.i 0,.i u03,.bool u02,.i u00],[])) (AA (.agg [.i u04,.i u01,.i u06,.i u05,.i 0,.i 0,.i 0,.i 0,.i 0,.i 0,.i 0,.i 0,.i 0,.i 0,.i 0,.bool AD,.i u00],[])))) (cond (AE (ic (min (AM dim) (AM dim))=ic 2)) (cond (u04==1) (AA (.agg [.i u04,.i u01,.i u06,.i u05,.i u08,.i u07,.i 0,.i 0,.i 0,.i 0,.i 0,.i 0,.i q_Lo,.i q_Hi,.i 0,.bool AD,.i u00],[])) (cond (u04==3) (AA (.agg [.i u04,.i u01,.i u06,.i u05,.i u08,.i u07,.i 0,.i 0,.i 0,.i 0,.i 0,.i 0,.i 0,.i 0,.i u03,.bool u02,.i u00],[])) (AA (.agg [.i u04,.i u01,.i u06,.i u05,.i u08,.i u07,.i 0,.i 0,.i 0,.i 0,.i 0,.i 0,.i 0,.i 0,.i 0,.bool AD,.i u00],[])))) (cond (AE (ic (min (AM dim) (AM dim))=ic 3)) (cond (u04==1) (AA (.agg [.i u04,.i u01,.i u06,.i u05,.i u08,.i u07,.i u0a,.i u09,.i 0,.i 0,.i 0,.i 0,.i q_Lo,.i q_Hi,.i 0,.bool AD,.i u00],[])) (cond (u04==3) (AA (.agg [.i u04,.i u01,.i u06,.i u05,.i u08,.i u07,.i u0a,.i u09,.i 0,.i 0,.i 0,.i 0,.i 0,.i 0,.i u03,.bool u02,.i u00],[])) (AA (.agg [.i u04,.i u01,.i u06,.i u05,.i u08,.i u07,.i u0a,.i u09,.i 0,.i 0,.i 0,.i 0,.i 0,.i 0,.i 0,.bool AD,.i u00],[])))) (cond (AE (ic (min (AM dim) (AM dim))=ic 4)) (cond (u04==1) (AA (.agg [.i u04,.i u01,.i u06,.i u05,.i u08,.i u07,.i u0a,.i u09,.i u0c,.i u0b,.i 0,.i 0,.i q_Lo,.i q_Hi,.i 0,.bool AD,.i u00],[])) (cond (u04==3) (AA (.agg [.i u04,.i u01,.i u06,.i u05,.i u08,.i u07,.i u0a,.i u09,.i u0c,.i u0b,.i 0,.i 0,.i 0,.i 0,.i u03,.bool u02,.i u00],[])) (AA (.agg [.i u04,.i u01,.i u06,.i u05,.i u08,.i u07,.i u0a,.i u09,.i u0c,.i u0b,.i 0,.i 0,.i 0,.i 0,.i 0,.bool AD,.i u00],[])))) (cond (AE (ic (min (AM dim) (AM dim))=ic 5)) (cond (u04==1) (AA (.agg [.i u04,.i u01,.i u06,.i u05,.i u08,.i u07,.i u0a,.i u09,.i u0c,.i u0b,.i u0e,.i u0d,.i q_Lo,.i q_Hi,.i 0,.bool AD,.i u00],[])) (cond (u04==3) (AA (.agg [.i u04,.i u01,.i u06,.i u05,.i u08,.i u07,.i u0a,.i u09,.i u0c,.i u0b,.i u0e,.i u0d,.i 0,.i 0,.i u03,.bool u02,.i u00],[])) (AA (.agg [.i u04,.i u01,.i u06,.i u05,.i u08,.i u07,.i u0a,.i u09,.i u0c,.i u0b,.i u0e,.i u0d,.i 0,.i 0,.i 0,.bool AD,.i u00],[])))) AB)))))) AB) AB):=AF
def Vw(N:Nat):Env:=EE [] [] 9 N
theorem wr(N:Nat)(n:Int):EA (Vw N) Ad [.tmp 2] [[.bool]] [.i n]=(cond (AE (n>=0)) (AA (.bool (AE (n<=1073741824)),[])) (AA (.bool AD,[]))):=AF
def Vu(N:Nat):Env:=EE [(122,R0)] [] 11 N
theorem wn(N:Nat)(s:BA):EA (Vu N) Aa [.tmp 2] [[.z]] [.str s]=(AA (.i (FT s),[])):=AF
def Vv(N:Nat):Env:=EE [(131,XE)] [] 11 N
theorem wq(N:Nat)(s:BA):EA (Vv N) Ac [.tmp 2] [[.z]] [.str s]=(cond (AE (AP s<4294967281)) (AA (.i (GL s),[])) AB):=AF
def RZ(N:Nat):Env:=EE [] [(2,⟨[0,1,4,7,8],[],[]⟩)] 19 N
abbrev W0(l0:LI)(s1:BA)(x4 x7 x8:Int):St:=⟨[(0,(.list AD [.str] l0)),(1,(.str s1)),(4,(.i x4)),(7,(.i x7)),(8,(.i x8))],[]⟩
theorem zaI(N:Nat)(s:LI)(v:BA):EA (RZ N) VL [.tmp 4] [[.z]] [.list AD [.str] s,.str v]=(D3 (RZ N) (DS VL [1,0,1,0,0]) ⟨[0,1,4,7,8],[],[]⟩ N (W0 s v 0 (ic (AN s)) 0) (DW 0 (DX (RZ N) (DS VL [1,1]) (D2 (RZ N) AB [.tmp 4] [[.z]])))):=AF
theorem Tg(N:Nat)(l0:LI)(s1:BA)(x4 x7 x8:Int)(again:St->DU)(k:Out->St->DU):EY (RZ N) (DS VL [1,0,1,0,0]) (W0 l0 s1 x4 x7 x8) (ES again ⟨[0,1,4,7,8],[],[]⟩ k)=(cond (AE (x8<x7)) (cond (AE (0<=x8)&&AE (x8<ic (AN l0))) (cond (A7 s1==A7 (IV.toStr (AR l0 (AM x8) default))) (k .ret (W0 l0 s1 x8 x7 x8)) (again (W0 l0 s1 x4 x7 (AI AJ (x8+1))))) AB) (k (.exit 0) (W0 l0 s1 x4 x7 x8))):=AF
theorem kh(N:Nat)(l0:LI)(s1:BA)(x4 x7 x8:Int):(DW 0 (DX (RZ N) (DS VL [1,1]) (D2 (RZ N) AB [.tmp 4] [[.z]]))) (.exit 0) (W0 l0 s1 x4 x7 x8)=(AA (.i (-1),[])):=AF
theorem ki(N:Nat)(l0:LI)(s1:BA)(x4 x7 x8:Int):(DW 0 (DX (RZ N) (DS VL [1,1]) (D2 (RZ N) AB [.tmp 4] [[.z]]))) .ret (W0 l0 s1 x4 x7 x8)=(AA (.i x4,[])):=AF
def pE(N:Nat):Env:=EE [(84,W5),(83,W6),(138,kL)] [] 46 N
theorem wo(N:Nat)(l:LI):EA (pE N) Ab [.cell 2 39] [[.z,.z,.z,.z,.z,.z,.z,.z,.z,.z,.z,.z,.z,.z,.z,.bool,.z]] [.list AD [.str] l]=(cond (AE (AN l<=4294967296)) (cond (AE ((AN l+AN (B6 (AM 6) (IV.str {data:=#[]})))*TI.bytes (Env.tyd (pE N) 9)<=EL)) (cond (AE (0<=1)&&AE (1<ic (AN l+AN (B6 (AM 6) (IV.str {data:=#[]}))-0))) (cond (AE (0<=0)&&AE (0<ic (AN l+AN (B6 (AM 6) (IV.str {data:=#[]}))-0))) (cond (A7 (IV.toStr (AR (AU (AN l) l++B6 (AM 6) (IV.str {data:=#[]})) 0 default))==A7 {data:=#[114,97,110,103,101]}) (cond (AE (0<=3)&&AE (3<ic (AN l+AN (B6 (AM 6) (IV.str {data:=#[]}))-0))) (cond (AE (AP (IV.toStr (AR (AU (AN l) l++B6 (AM 6) (IV.str {data:=#[]})) 3 default))<4294967281)) (cond (AE (0<=5)&&AE (5<ic (AN l+AN (B6 (AM 6) (IV.str {data:=#[]}))-0))) (cond (AE (AP (IV.toStr (AR (AU (AN l) l++B6 (AM 6) (IV.str {data:=#[]})) 5 default))<4294967281)) (AA ((.agg [.i 1,(.i (FT (IV.toStr (AR (AU (AN l) l++B6 (AM 6) (IV.str {data:=#[]})) 1 default)))),.i 0,.i 0,.i 0,.i 0,.i 0,.i 0,.i 0,.i 0,.i 0,.i 0,(.i (GL (IV.toStr (AR (AU (AN l) l++B6 (AM 6) (IV.str {data:=#[]})) 3 default)))),(.i (GL (IV.toStr (AR (AU (AN l) l++B6 (AM 6) (IV.str {data:=#[]})) 5 default)))),.i 0,.bool AD,.i 0]),[])) AB) AB) AB) AB) (cond (A7 (IV.toStr (AR (AU (AN l) l++B6 (AM 6) (IV.str {data:=#[]})) 0 default))==A7 {data:=#[98,101,115,116]}) (AA ((.agg [.i 2,(.i (FT (IV.toStr (AR (AU (AN l) l++B6 (AM 6) (IV.str {data:=#[]})) 1 default)))),.i 0,.i 0,.i 0,.i 0,.i 0,.i 0,.i 0,.i 0,.i 0,.i 0,.i 0,.i 0,.i 0,.bool AD,.i 0]),[])) (cond (A7 (IV.toStr (AR (AU (AN l) l++B6 (AM 6) (IV.str {data:=#[]})) 0 default))==A7 {data:=#[114,105,115,101,115]}) (cond (AE (0<=3)&&AE (3<ic (AN l+AN (B6 (AM 6) (IV.str {data:=#[]}))-0))) (cond (AE (0<=0)&&AE (0<ic (AN l+AN (B6 (AM 6) (IV.str {data:=#[]}))-0))) (AA ((.agg [.i 3,(.i (FT (IV.toStr (AR (AU (AN l) l++B6 (AM 6) (IV.str {data:=#[]})) 1 default)))),.i 0,.i 0,.i 0,.i 0,.i 0,.i 0,.i 0,.i 0,.i 0,.i 0,.i 0,.i 0,(.i (FT (IV.toStr (AR (AU (AN l) l++B6 (AM 6) (IV.str {data:=#[]})) 3 default)))),(.bool (A7 (IV.toStr (AR (AU (AN l) l++B6 (AM 6) (IV.str {data:=#[]})) 0 default))==A7 {data:=#[102,97,108,108,115]})),.i 0]),[])) AB) AB) (cond (A7 (IV.toStr (AR (AU (AN l) l++B6 (AM 6) (IV.str {data:=#[]})) 0 default))==A7 {data:=#[102,97,108,108,115]}) (cond (AE (0<=3)&&AE (3<ic (AN l+AN (B6 (AM 6) (IV.str {data:=#[]}))-0))) (cond (AE (0<=0)&&AE (0<ic (AN l+AN (B6 (AM 6) (IV.str {data:=#[]}))-0))) (AA ((.agg [.i 3,(.i (FT (IV.toStr (AR (AU (AN l) l++B6 (AM 6) (IV.str {data:=#[]})) 1 default)))),.i 0,.i 0,.i 0,.i 0,.i 0,.i 0,.i 0,.i 0,.i 0,.i 0,.i 0,.i 0,(.i (FT (IV.toStr (AR (AU (AN l) l++B6 (AM 6) (IV.str {data:=#[]})) 3 default)))),(.bool (A7 (IV.toStr (AR (AU (AN l) l++B6 (AM 6) (IV.str {data:=#[]})) 0 default))==A7 {data:=#[102,97,108,108,115]})),.i 0]),[])) AB) AB) (AA ((.agg [.i 0,(.i (FT (IV.toStr (AR (AU (AN l) l++B6 (AM 6) (IV.str {data:=#[]})) 1 default)))),.i 0,.i 0,.i 0,.i 0,.i 0,.i 0,.i 0,.i 0,.i 0,.i 0,.i 0,.i 0,.i 0,.bool AD,.i 0]),[])))))) AB) AB) AB) AB):=AF
open Go Go.Proofs
theorem zds:D6 PR B0 41 c8:=by
 refine EF [] [] c8 [[.bool]] Tryz.func41 mp trivial ?_;intro vs r hwf h;unfold c8 at h;split at h
 .rename_i n;refine⟨0,?_⟩;rw[<-h];refine(wr 0 n).trans ?_;simp only[R.get_ok];unfold KS
  have:AE (n>=0)=AE (0<=n):=rfl
  rw[this];cases AE (0<=n)<;>rfl
 .simp[R.get]at h
theorem Pj:D6 PR B0 84 W5:=by
 refine EF [(122,R0)] [] W5 [[.z]] Tryz.func84 mm ⟨oH,trivial⟩ ?_;intro vs r hwf h;unfold W5 at h;split at h
 .rename_i s;refine⟨0,?_⟩;rw[<-h];exact wn 0 s
 .simp[R.get]at h
theorem Pk:D6 PR B0 83 W6:=by
 refine EF [(131,XE)] [] W6 [[.z]] Tryz.func83 mo ⟨Ps,trivial⟩ ?_;intro vs r hwf h;unfold W6 at h;split at h
 .rename_i s;refine⟨0,?_⟩;rw[<-h];refine(wq 0 s).trans ?_;simp only[R.get_br,R.get_ok,R.get_no]
 .simp[R.get]at h
theorem zdt:D6 PR B0 40 c9:=by
 refine EF [] [] c9 [[.z,.z,.z,.z,.z,.z,.z,.z,.z,.z,.z,.z,.z,.z,.z,.bool,.z]] Tryz.func40 mq trivial ?_;intro vs r hwf h;unfold c9 at h;split at h
 .rename_i k c a0 b0 a1 b1 a2 b2 a3 b3 a4 b4 lo hi ft fl bu d;refine⟨0,?_⟩;cases hc:(AE (0<=d)&&AE (d<=5))with
  |false=>rw[hc]at h;simp[R.get]at h
  |true=>
   rw[hc,R.get_br,DQ,R.get_ok]at h;rw[<-h];refine(wt 0 k c a0 b0 a1 b1 a2 b2 a3 b3 a4 b4 lo hi ft fl bu d).trans ?_;have e5:(AE (0<=d)&&AE (d<=ic 5))=AC:=hc;rw[e5,DQ,DQ];simp only[AQ,AZ]at hc;obtain⟨n,rfl⟩:∃n:Nat,d=n:=⟨d.toNat,by omega⟩;simp only[BE,Nat.min_self];unfold F5;have hn:n=0\/n=1\/n=2\/n=3\/n=4\/n=5:=by omega
   have h13:(k==1)=AC->(k==3)=AD:=λh1=>by
    rw[U7]at h1 ⊢
    have:=BB h1
    exact AS AG
   generalize(k==1)=e1 at h13 ⊢;generalize(k==3)=e3 at h13 ⊢;rcases hn with rfl|rfl|rfl|rfl|rfl|rfl<;>cases e1<;>cases e3<;>first|rfl|exact absurd (h13 rfl) (by decide)
 .simp[R.get]at h
theorem Hd(N:Nat)(l:LI)(s:BA)(hl:l.length<=strMax)(K:Out->St->DU)
  (hx:∀l0 s1 x4 x7 x8,K (.exit 0) ⟨[(0,(.list AD [.str] l0)),(1,(.str s1)),(4,(.i x4)),(7,(.i x7)),(8,(.i x8))],[]⟩=AA (.i (-1),[]))
  (hr:∀l0 s1 x4 x7 x8,K .ret ⟨[(0,(.list AD [.str] l0)),(1,(.str s1)),(4,(.i x4)),(7,(.i x7)),(8,(.i x8))],[]⟩=AA (.i x4,[])):
  ∀(d i n:Nat) (x4:Int),i+d=l.length->d<n->
   D3 (RZ N) (DS VL [1,0,1,0,0]) ⟨[0,1,4,7,8],[],[]⟩ n ⟨[(0,(.list AD [.str] l)),(1,(.str s)),(4,(.i x4)),(7,(.i (ic l.length))),(8,(.i (i:Int)))],[]⟩ K=AA (.i (GB (l.drop i) s (i:Int)),[])
 |0,i,n+1,x4,hd,hn=>by
  rw[D8,Tg,IZ AG,DR,hx,DC AG];rfl
 |d+1,i,n+1,x4,hd,hn=>by
  have hi:i<l.length:=by omega
  unfold strMax at hl;have ih:=Hd N l s (by unfold strMax;omega) K hx hr d (i+1) n x4 AG AG;rw[D8,Tg,HY hi,IM,CK,DQ,DQ,IX hi,GM AG,BJ hi];unfold GB;cases(A7 s==A7 (IV.toStr l[i]))with
  |true=>rw[DQ,DQ,hr]
  |false=>
   rw[DR,DR,ih];rfl
 |_,_,0,_,_,h=>by omega
theorem zeK:D6 PR B0 80 f8:=by
 refine EF [] [(2,⟨[0,1,4,7,8],[],[]⟩)] f8 [[.z]] Tryz.func80 sb trivial ?_;intro vs r hwf h;unfold f8 at h;split at h
 .rename_i l s;refine⟨l.length+1,?_⟩;rw[<-h];refine(zaI (l.length+1) l s).trans ?_;simp only[R.get_ok];have hl:=(hwf (by simp[MX])).1;simp only[SU,wfL]at hl
  have:=Hd (l.length+1) l s hl.1 _ (λl0 s1 x4 x7 x8=>kh (l.length+1) l0 s1 x4 x7 x8) (λl0 s1 x4 x7 x8=>ki (l.length+1) l0 s1 x4 x7 x8) l.length 0 (l.length+1) 0 AG AG
  rw[CD]at this;exact this
 .simp[R.get]at h
theorem zbT(l:LI)(i m:Nat)(x:IV)(hx:x.toStr=CQ):IV.toStr (AR (l++B6 m x) i default)=D9 l i:=by
 unfold D9;by_cases h:i<l.length
 .simp[AR,vah,h]
 .have e0:(AR l i default).toStr=CQ:=by simp[AR,h];rfl
  rw[e0];by_cases h6:i-l.length<m
  .have e:AR (l++B6 m x) i default=x:=by simp[AR,vah,h,h6]
   rw[e,hx]
  .have e:AR (l++B6 m x) i default=default:=by simp[AR,vah,h,h6]
   rw[e];rfl
theorem zbU(l:LI)(i:Nat):IV.toStr (AR (AU (AN l) l++B6 (AM 6) (IV.str {data:=#[]})) i default)=D9 l i:=by
 rw[BS];exact zbT l i _ _ rfl
theorem zdr:D6 PR B0 81 c7:=by
 refine EF [(84,W5),(83,W6),(138,kL)] [] c7 [[.z,.z,.z,.z,.z,.z,.z,.z,.z,.z,.z,.z,.z,.z,.z,.bool,.z]] Tryz.func81 mn
  ⟨Pj,Pk,zeH,trivial⟩ ?_
 intro vs r hwf h;unfold c7 at h;split at h
 .rename_i l;refine⟨0,?_⟩;cases hc:(AE (l.length<=4294967290)&&l.all (λx=>AE (x.toStr.size<4294967281)))with
  |false=>rw[hc]at h;simp[R.get]at h
  |true=>
   rw[hc,R.get_br,DQ,R.get_ok]at h;rw[<-h];refine(wo 0 l).trans ?_;simp only[AQ,AZ,CZ]at hc;obtain⟨hl,hz⟩:=hc;have hw:∀i,(D9 l i).size<4294967281:=λi=>by
    unfold D9;by_cases hi:i<l.length
    .have:AR l i default=l[i]:=by simp[hi]
     rw[this];exact hz _ (C0 hi)
    .have:AR l i default=default:=by simp[AR,hi]
     rw[this];decide
   have hb:TI.bytes (Env.tyd (pE 0) 9)=16:=by rfl
   have hr6:(B6 (AM 6) (IV.str {data:=#[]})).length=6:=rfl;simp only[zbU];rw[hb,hr6];have ge:∀k:Nat,k<6->AE ((k:Int)<ic (AN l+6-0))=AC:=λk hk=>AL (by simp only[ic];omega)
   have g0:=ge 0 AG;have g1:=ge 1 AG;have g3:=ge 3 AG;have g5:=ge 5 AG;rw[AL (show AN l<=4294967296 by omega),DQ,AL (show(AN l+6)*16<=EL by unfold EL;omega),DQ];have n0:AE ((0:Nat)<=0)=AC:=rfl;have d1:(AE (0<=1)&&AE (1<ic (AN l+6-0)))=AC:=by simpa using g1
   have d0:(AE (0<=0)&&AE (0<ic (AN l+6-0)))=AC:=by simpa using g0
   have d3:(AE (0<=3)&&AE (3<ic (AN l+6-0)))=AC:=by simpa using g3
   have d5:(AE (0<=5)&&AE (5<ic (AN l+6-0)))=AC:=by simpa using g5
   rw[d1,d0,d3,d5,AL (hw 3),AL (hw 5)];simp only[DQ];unfold E5;cases((D9 l 0).toList==N1.toList)with
   |true=>rfl
   |false=>
    cases((D9 l 0).toList==PM.toList)with
    |true=>rfl
    |false=>
     cases((D9 l 0).toList==N2.toList)<;>cases((D9 l 0).toList==M5.toList)<;>rfl
 .simp[R.get]at h
open Go Go.Proofs
def HW(N:Nat):Env:=EE [(41,c8),(40,c9),(43,TA),(42,PZ),(44,Z1)] [(18,⟨[2,4,6,75,76,77],[2,500],[⟨.tmp 6,500,9,AD,[.str]⟩]⟩)] 100 N
abbrev PP(s4:BA)(n6 n75:Nat)(x76 x77 u02 u03 u0a u0b u0c u0d u0e u0f u0g u0h u04 u05 u06 u07 u08:Int)(u00:Bool)(u09:Int)(u01:LI):St:=⟨[(2,(.ptr 2 0 0)),(4,(.str s4)),(6,(.row 500 0 n6)),(75,(.bview 2 2 5 2 n75)),(76,(.i x76)),(77,(.i x77))],[(2,(AA (.box [.i u02,.i u03,.i u0a,.i u0b,.i u0c,.i u0d,.i u0e,.i u0f,.i u0g,.i u0h,.i u04,.i u05,.i u06,.i u07,.i u08,.bool u00,.i u09]))),(500,(AA (.row AC 9 AD [.str] u01)))]⟩
theorem wm(N:Nat)(u04 u01 u06 u05 u08 u07 u0a u09 u0c u0b u0e u0d q_Lo q_Hi u03:Int)(u02:Bool)(u00 a1:Int):EA (HW N) ML [.tmp 4] [[.str]] [.agg [.i u04,.i u01,.i u06,.i u05,.i u08,.i u07,.i u0a,.i u09,.i u0c,.i u0b,.i u0e,.i u0d,.i q_Lo,.i q_Hi,.i u03,.bool u02,.i u00],.i a1]=(cond (AE (a1<1)) (AA ((.str ({data:=#[]})),[])) (cond (AE (a1>4)) (AA ((.str ({data:=#[]})),[])) (cond (AE (0<=a1)&&AE (a1<=5)) (cond (! (u04==Qy.k (F5 {k:=u04,c:=u01,a0:=u06,b0:=u05,a1:=u08,b1:=u07,a2:=u0a,b2:=u09,a3:=u0c,b3:=u0b,a4:=u0e,b4:=u0d,lo:=q_Lo,hi:=q_Hi,ft:=u03,fl:=u02,bu:=u00} a1)&&(u01==Qy.c (F5 {k:=u04,c:=u01,a0:=u06,b0:=u05,a1:=u08,b1:=u07,a2:=u0a,b2:=u09,a3:=u0c,b3:=u0b,a4:=u0e,b4:=u0d,lo:=q_Lo,hi:=q_Hi,ft:=u03,fl:=u02,bu:=u00} a1)&&(u06==Qy.a0 (F5 {k:=u04,c:=u01,a0:=u06,b0:=u05,a1:=u08,b1:=u07,a2:=u0a,b2:=u09,a3:=u0c,b3:=u0b,a4:=u0e,b4:=u0d,lo:=q_Lo,hi:=q_Hi,ft:=u03,fl:=u02,bu:=u00} a1)&&(u05==Qy.b0 (F5 {k:=u04,c:=u01,a0:=u06,b0:=u05,a1:=u08,b1:=u07,a2:=u0a,b2:=u09,a3:=u0c,b3:=u0b,a4:=u0e,b4:=u0d,lo:=q_Lo,hi:=q_Hi,ft:=u03,fl:=u02,bu:=u00} a1)&&(u08==Qy.a1 (F5 {k:=u04,c:=u01,a0:=u06,b0:=u05,a1:=u08,b1:=u07,a2:=u0a,b2:=u09,a3:=u0c,b3:=u0b,a4:=u0e,b4:=u0d,lo:=q_Lo,hi:=q_Hi,ft:=u03,fl:=u02,bu:=u00} a1)&&(u07==Qy.b1 (F5 {k:=u04,c:=u01,a0:=u06,b0:=u05,a1:=u08,b1:=u07,a2:=u0a,b2:=u09,a3:=u0c,b3:=u0b,a4:=u0e,b4:=u0d,lo:=q_Lo,hi:=q_Hi,ft:=u03,fl:=u02,bu:=u00} a1)&&(u0a==Qy.a2 (F5 {k:=u04,c:=u01,a0:=u06,b0:=u05,a1:=u08,b1:=u07,a2:=u0a,b2:=u09,a3:=u0c,b3:=u0b,a4:=u0e,b4:=u0d,lo:=q_Lo,hi:=q_Hi,ft:=u03,fl:=u02,bu:=u00} a1)&&(u09==Qy.b2 (F5 {k:=u04,c:=u01,a0:=u06,b0:=u05,a1:=u08,b1:=u07,a2:=u0a,b2:=u09,a3:=u0c,b3:=u0b,a4:=u0e,b4:=u0d,lo:=q_Lo,hi:=q_Hi,ft:=u03,fl:=u02,bu:=u00} a1)&&(u0c==Qy.a3 (F5 {k:=u04,c:=u01,a0:=u06,b0:=u05,a1:=u08,b1:=u07,a2:=u0a,b2:=u09,a3:=u0c,b3:=u0b,a4:=u0e,b4:=u0d,lo:=q_Lo,hi:=q_Hi,ft:=u03,fl:=u02,bu:=u00} a1)&&(u0b==Qy.b3 (F5 {k:=u04,c:=u01,a0:=u06,b0:=u05,a1:=u08,b1:=u07,a2:=u0a,b2:=u09,a3:=u0c,b3:=u0b,a4:=u0e,b4:=u0d,lo:=q_Lo,hi:=q_Hi,ft:=u03,fl:=u02,bu:=u00} a1)&&(u0e==Qy.a4 (F5 {k:=u04,c:=u01,a0:=u06,b0:=u05,a1:=u08,b1:=u07,a2:=u0a,b2:=u09,a3:=u0c,b3:=u0b,a4:=u0e,b4:=u0d,lo:=q_Lo,hi:=q_Hi,ft:=u03,fl:=u02,bu:=u00} a1)&&(u0d==Qy.b4 (F5 {k:=u04,c:=u01,a0:=u06,b0:=u05,a1:=u08,b1:=u07,a2:=u0a,b2:=u09,a3:=u0c,b3:=u0b,a4:=u0e,b4:=u0d,lo:=q_Lo,hi:=q_Hi,ft:=u03,fl:=u02,bu:=u00} a1)&&(q_Lo==Qy.lo (F5 {k:=u04,c:=u01,a0:=u06,b0:=u05,a1:=u08,b1:=u07,a2:=u0a,b2:=u09,a3:=u0c,b3:=u0b,a4:=u0e,b4:=u0d,lo:=q_Lo,hi:=q_Hi,ft:=u03,fl:=u02,bu:=u00} a1)&&(q_Hi==Qy.hi (F5 {k:=u04,c:=u01,a0:=u06,b0:=u05,a1:=u08,b1:=u07,a2:=u0a,b2:=u09,a3:=u0c,b3:=u0b,a4:=u0e,b4:=u0d,lo:=q_Lo,hi:=q_Hi,ft:=u03,fl:=u02,bu:=u00} a1)&&(u03==Qy.ft (F5 {k:=u04,c:=u01,a0:=u06,b0:=u05,a1:=u08,b1:=u07,a2:=u0a,b2:=u09,a3:=u0c,b3:=u0b,a4:=u0e,b4:=u0d,lo:=q_Lo,hi:=q_Hi,ft:=u03,fl:=u02,bu:=u00} a1)&&(u02==Qy.fl (F5 {k:=u04,c:=u01,a0:=u06,b0:=u05,a1:=u08,b1:=u07,a2:=u0a,b2:=u09,a3:=u0c,b3:=u0b,a4:=u0e,b4:=u0d,lo:=q_Lo,hi:=q_Hi,ft:=u03,fl:=u02,bu:=u00} a1)&&(u00==Qy.bu (F5 {k:=u04,c:=u01,a0:=u06,b0:=u05,a1:=u08,b1:=u07,a2:=u0a,b2:=u09,a3:=u0c,b3:=u0b,a4:=u0e,b4:=u0d,lo:=q_Lo,hi:=q_Hi,ft:=u03,fl:=u02,bu:=u00} a1)&&AC)))))))))))))))))) (AA ((.str ({data:=#[]})),[])) (cond (!KS u01) (AA ((.str ({data:=#[]})),[])) (cond (!KS u03) (AA ((.str ({data:=#[]})),[])) (cond (!KS u00) (AA ((.str ({data:=#[]})),[])) (cond (u04==1) (cond (AE (0<=a1)&&AE (a1<=ic 5)) (D3 (HW N) (DS ML [1,1,1,1,1,1,0,1,0,0]) ⟨[2,4,6,75,76,77],[2,500],[⟨(.tmp 6),500,9,AD,[.str]⟩]⟩ N (PP ({data:=#[]}) 7 (AM a1) (ic (AM a1)) 0 u04 u01 u06 u05 u08 u07 u0a u09 u0c u0b u0e u0d q_Lo q_Hi u03 u02 u00 [(IV.str {data:=#[114,97,110,103,101]}),(IV.str (DZ u01)),(IV.str {data:=#[102,114,111,109]}),(IV.str (D5 q_Lo)),(IV.str {data:=#[116,111]}),(IV.str (D5 q_Hi)),(IV.str {data:=#[105,110]})]) (DW 1 (DX (HW N) (DS ML [1,1,1,1,1,1,1]) (D2 (HW N) AB [.tmp 4] [[.str]])))) AB) (cond (u04==2) (cond (AE (0<=a1)&&AE (a1<=ic 5)) (D3 (HW N) (DS ML [1,1,1,1,1,1,0,1,0,0]) ⟨[2,4,6,75,76,77],[2,500],[⟨(.tmp 6),500,9,AD,[.str]⟩]⟩ N (PP ({data:=#[]}) 3 (AM a1) (ic (AM a1)) 0 u04 u01 u06 u05 u08 u07 u0a u09 u0c u0b u0e u0d q_Lo q_Hi u03 u02 u00 [(IV.str {data:=#[98,101,115,116]}),(IV.str (DZ u01)),(IV.str {data:=#[105,110]})]) (DW 1 (DX (HW N) (DS ML [1,1,1,1,1,1,1]) (D2 (HW N) AB [.tmp 4] [[.str]])))) AB) (cond (u04==3) (cond u02 (cond (AE (0<=a1)&&AE (a1<=ic 5)) (D3 (HW N) (DS ML [1,1,1,1,1,1,0,1,0,0]) ⟨[2,4,6,75,76,77],[2,500],[⟨(.tmp 6),500,9,AD,[.str]⟩]⟩ N (PP ({data:=#[]}) 5 (AM a1) (ic (AM a1)) 0 u04 u01 u06 u05 u08 u07 u0a u09 u0c u0b u0e u0d q_Lo q_Hi u03 u02 u00 [(IV.str {data:=#[102,97,108,108,115]}),(IV.str (DZ u01)),(IV.str {data:=#[98,121]}),(IV.str (DZ u03)),(IV.str {data:=#[105,110]})]) (DW 1 (DX (HW N) (DS ML [1,1,1,1,1,1,1]) (D2 (HW N) AB [.tmp 4] [[.str]])))) AB) (cond (AE (0<=a1)&&AE (a1<=ic 5)) (D3 (HW N) (DS ML [1,1,1,1,1,1,0,1,0,0]) ⟨[2,4,6,75,76,77],[2,500],[⟨(.tmp 6),500,9,AD,[.str]⟩]⟩ N (PP ({data:=#[]}) 5 (AM a1) (ic (AM a1)) 0 u04 u01 u06 u05 u08 u07 u0a u09 u0c u0b u0e u0d q_Lo q_Hi u03 u02 u00 [(IV.str {data:=#[114,105,115,101,115]}),(IV.str (DZ u01)),(IV.str {data:=#[98,121]}),(IV.str (DZ u03)),(IV.str {data:=#[105,110]})]) (DW 1 (DX (HW N) (DS ML [1,1,1,1,1,1,1]) (D2 (HW N) AB [.tmp 4] [[.str]])))) AB)) (AA ((.str ({data:=#[]})),[]))))))))) AB))):=AF
theorem Rm(N:Nat)(s4:BA)(n6 n75:Nat)(x76 x77 u02 u03 u0a u0b u0c u0d u0e u0f u0g u0h u04 u05 u06 u07 u08:Int)(u00:Bool)(u09:Int)(u01:LI)(again:St->DU)(k:Out->St->DU):EY (HW N) (DS ML [1,1,1,1,1,1,0,1,0,0]) (PP s4 n6 n75 x76 x77 u02 u03 u0a u0b u0c u0d u0e u0f u0g u0h u04 u05 u06 u07 u08 u00 u09 u01) (ES again ⟨[2,4,6,75,76,77],[2,500],[⟨(.tmp 6),500,9,AD,[.str]⟩]⟩ k)=(cond (AE (x77<x76)) (cond (AE (x77<ic n75)) (cond (AE (x77=ic 0)) (cond (AE (AP (D5 u0a)+AP {data:=#[46,46]}<=strMax)) (cond (AE (AP (D5 u0a++{data:=#[46,46]})+AP (D5 u0b)<=strMax)) (cond (AE ((n6+AN (A3 0 (AU 1 [IV.str (D5 u0a++{data:=#[46,46]}++D5 u0b)])))*TI.bytes (Env.tyd (HW N) 9)<=EL)) (again (PP s4 (n6+AN (A3 0 (AU 1 [IV.str (D5 u0a++{data:=#[46,46]}++D5 u0b)]))) n75 x76 (AI AJ (x77+1)) u02 u03 u0a u0b u0c u0d u0e u0f u0g u0h u04 u05 u06 u07 u08 u00 u09 (AU n6 u01++A3 0 (AU 1 [IV.str (D5 u0a++{data:=#[46,46]}++D5 u0b)])))) AB) AB) AB) (cond (AE (x77=ic 1)) (cond (AE (AP (D5 u0c)+AP {data:=#[46,46]}<=strMax)) (cond (AE (AP (D5 u0c++{data:=#[46,46]})+AP (D5 u0d)<=strMax)) (cond (AE ((n6+AN (A3 0 (AU 1 [IV.str (D5 u0c++{data:=#[46,46]}++D5 u0d)])))*TI.bytes (Env.tyd (HW N) 9)<=EL)) (again (PP s4 (n6+AN (A3 0 (AU 1 [IV.str (D5 u0c++{data:=#[46,46]}++D5 u0d)]))) n75 x76 (AI AJ (x77+1)) u02 u03 u0a u0b u0c u0d u0e u0f u0g u0h u04 u05 u06 u07 u08 u00 u09 (AU n6 u01++A3 0 (AU 1 [IV.str (D5 u0c++{data:=#[46,46]}++D5 u0d)])))) AB) AB) AB) (cond (AE (x77=ic 2)) (cond (AE (AP (D5 u0e)+AP {data:=#[46,46]}<=strMax)) (cond (AE (AP (D5 u0e++{data:=#[46,46]})+AP (D5 u0f)<=strMax)) (cond (AE ((n6+AN (A3 0 (AU 1 [IV.str (D5 u0e++{data:=#[46,46]}++D5 u0f)])))*TI.bytes (Env.tyd (HW N) 9)<=EL)) (again (PP s4 (n6+AN (A3 0 (AU 1 [IV.str (D5 u0e++{data:=#[46,46]}++D5 u0f)]))) n75 x76 (AI AJ (x77+1)) u02 u03 u0a u0b u0c u0d u0e u0f u0g u0h u04 u05 u06 u07 u08 u00 u09 (AU n6 u01++A3 0 (AU 1 [IV.str (D5 u0e++{data:=#[46,46]}++D5 u0f)])))) AB) AB) AB) (cond (AE (x77=ic 3)) (cond (AE (AP (D5 u0g)+AP {data:=#[46,46]}<=strMax)) (cond (AE (AP (D5 u0g++{data:=#[46,46]})+AP (D5 u0h)<=strMax)) (cond (AE ((n6+AN (A3 0 (AU 1 [IV.str (D5 u0g++{data:=#[46,46]}++D5 u0h)])))*TI.bytes (Env.tyd (HW N) 9)<=EL)) (again (PP s4 (n6+AN (A3 0 (AU 1 [IV.str (D5 u0g++{data:=#[46,46]}++D5 u0h)]))) n75 x76 (AI AJ (x77+1)) u02 u03 u0a u0b u0c u0d u0e u0f u0g u0h u04 u05 u06 u07 u08 u00 u09 (AU n6 u01++A3 0 (AU 1 [IV.str (D5 u0g++{data:=#[46,46]}++D5 u0h)])))) AB) AB) AB) (cond (AE (x77=ic 4)) (cond (AE (AP (D5 u04)+AP {data:=#[46,46]}<=strMax)) (cond (AE (AP (D5 u04++{data:=#[46,46]})+AP (D5 u05)<=strMax)) (cond (AE ((n6+AN (A3 0 (AU 1 [IV.str (D5 u04++{data:=#[46,46]}++D5 u05)])))*TI.bytes (Env.tyd (HW N) 9)<=EL)) (again (PP s4 (n6+AN (A3 0 (AU 1 [IV.str (D5 u04++{data:=#[46,46]}++D5 u05)]))) n75 x76 (AI AJ (x77+1)) u02 u03 u0a u0b u0c u0d u0e u0f u0g u0h u04 u05 u06 u07 u08 u00 u09 (AU n6 u01++A3 0 (AU 1 [IV.str (D5 u04++{data:=#[46,46]}++D5 u05)])))) AB) AB) AB) AB))))) AB) (k (.exit 1) (PP s4 n6 n75 x76 x77 u02 u03 u0a u0b u0c u0d u0e u0f u0g u0h u04 u05 u06 u07 u08 u00 u09 u01))):=AF
theorem fw(N:Nat)(s4:BA)(n6 n75:Nat)(x76 x77 u02 u03 u0a u0b u0c u0d u0e u0f u0g u0h u04 u05 u06 u07 u08:Int)(u00:Bool)(u09:Int)(u01:LI):(DW 1 (DX (HW N) (DS ML [1,1,1,1,1,1,1]) (D2 (HW N) AB [.tmp 4] [[.str]]))) (.exit 1) (PP s4 n6 n75 x76 x77 u02 u03 u0a u0b u0c u0d u0e u0f u0g u0h u04 u05 u06 u07 u08 u00 u09 u01)=(cond (AE ((n6+AN (A3 0 (AU 2 [IV.str {data:=#[98,117,100,103,101,116]},IV.str (DZ u09)])))*TI.bytes (Env.tyd (HW N) 9)<=EL)) (cond (AE (AN (A3 0 (AU (n6+AN (A3 0 (AU 2 [IV.str {data:=#[98,117,100,103,101,116]},IV.str (DZ u09)]))) (AU n6 u01++A3 0 (AU 2 [IV.str {data:=#[98,117,100,103,101,116]},IV.str (DZ u09)]))))<=strMax)&&AE (AP (GU (BG IV.toStr (A3 0 (AU (n6+AN (A3 0 (AU 2 [IV.str {data:=#[98,117,100,103,101,116]},IV.str (DZ u09)]))) (AU n6 u01++A3 0 (AU 2 [IV.str {data:=#[98,117,100,103,101,116]},IV.str (DZ u09)]))))) {data:=#[32]})<=strMax)) (AA ((.str (GU (BG IV.toStr (A3 0 (AU (n6+AN (A3 0 (AU 2 [IV.str {data:=#[98,117,100,103,101,116]},IV.str (DZ u09)]))) (AU n6 u01++A3 0 (AU 2 [IV.str {data:=#[98,117,100,103,101,116]},IV.str (DZ u09)]))))) {data:=#[32]})),[])) AB) AB):=AF
open Go
theorem Hm(l:List BA)(h:∀w∈l,w.size<=100):(GU l HI).size<=101*l.length:=by
 have hs:(GU l HI).size=(Lib.join (l.map (·.data.toList)) [32]).length:=by
  show(Array.size (List.toArray _))=_;rw[DM]
 rw[hs];cases l with
 |nil=>simp[Lib.join_nil]
 |cons x r=>
  rw[A8,Lib.join_length]
  have:∀(r:List BA),(∀w∈r,w.size<=100)->Lib.lens (r.map (·.data.toList))<=100*r.length:=λr=>by
   induction r with
   |nil=>intro _;simp[Lib.lens]
   |cons y r ih=>
    intro h;have h1:=h y (AY ..);rw[UC]at h1;have h2:=ih (λw hw=>h w (A6 _ hw));rw[A8,AV];simp only[Lib.lens,A8,vbb]at h2 ⊢;omega
  have:=this (x::r) h
  rw[A8]at this;simp only[AV,BW,BN]at this ⊢;omega
theorem Qz{a b:Int}(ha:EN a)(hb:EN b):(NZ a b).size<=82:=by
 unfold NZ;have h1:=(Y6 a ha).2;have h2:=(Y6 b hb).2;have h3:AP cL=2:=rfl;rw[BC,BC,h3];omega
theorem sF{n:Int}(h:EN n):(DZ n).size<=21:=aT h.1 h.2
structure Qy.In (q:Qy):Prop where
 k:EN q.k
 c:EN q.c
 a0:EN q.a0
 b0:EN q.b0
 a1:EN q.a1
 b1:EN q.b1
 a2:EN q.a2
 b2:EN q.b2
 a3:EN q.a3
 b3:EN q.b3
 a4:EN q.a4
 b4:EN q.b4
 lo:EN q.lo
 hi:EN q.hi
 ft:EN q.ft
 bu:EN q.bu
open Go Go.Proofs
abbrev p7(q:Qy):Ob:=.box [.i q.k,.i q.c,.i q.a0,.i q.b0,.i q.a1,.i q.b1,.i q.a2,.i q.b2,.i q.a3,.i q.b3,.i q.a4,.i q.b4,.i q.lo,.i q.hi,.i q.ft,.bool q.fl,.i q.bu]
abbrev oL(q:Qy)(s4:BA)(W:LI)(D:Nat)(i:Int):St:=⟨[(2,(.ptr 2 0 0)),(4,(.str s4)),(6,(.row 500 0 W.length)),(75,(.bview 2 2 5 2 D)),(76,(.i (ic D))),(77,(.i i))],[(2,(AA (p7 q))),(500,(AA (.row AC 9 AD [.str] W)))]⟩
theorem Tt(N:Nat):TI.bytes (Env.tyd (HW N) 9)=16:=by rfl
theorem zb6(N:Nat)(q:Qy)(hq:q.In)(s4:BA)(W:LI)(hW:W.length<=20)(hs:∀w∈W,w.toStr.size<=100)(D:Nat)(i:Int):
  (DW 1 (DX (HW N) (DS ML [1,1,1,1,1,1,1]) (D2 (HW N) AB [(B7 4)] [[.str]]))) (.exit 1) (oL q s4 W D i)=AA (.str (GU (W.map IV.toStr++[WH,DZ q.bu]) HI),[]):=by
 refine(fw N s4 W.length D (ic D) i q.k q.c q.a0 q.b0 q.a1 q.b1 q.a2 q.b2 q.a3 q.b3 q.a4 q.b4 q.lo q.hi q.ft q.fl q.bu W).trans ?_;have e2:(A3 0 (AU 2 [IV.str {data:=#[98,117,100,103,101,116]},IV.str (DZ q.bu)]))=[IV.str {data:=#[98,117,100,103,101,116]},IV.str (DZ q.bu)]:=rfl;rw[Tt,e2,BS];have e3:A3 0 (AU (W.length+AN [IV.str {data:=#[98,117,100,103,101,116]},IV.str (DZ q.bu)]) (W++[IV.str {data:=#[98,117,100,103,101,116]},IV.str (DZ q.bu)]))=W++[IV.str {data:=#[98,117,100,103,101,116]},IV.str (DZ q.bu)]:=by
  rw[CD,C2 (by simp)]
 rw[e3];have e4:BG IV.toStr (W++[IV.str {data:=#[98,117,100,103,101,116]},IV.str (DZ q.bu)])=W.map IV.toStr++[WH,DZ q.bu]:=by simp[IV.toStr]
 rw[e4];have hz:=Hm (W.map IV.toStr++[WH,DZ q.bu]) (λw hw=>by
  rcases A5.1 hw with h|h
  .obtain⟨x,hx,rfl⟩:=CU.1 h;exact hs x hx
  .simp only[AW,CC,C7]at h;rcases h with rfl|rfl
   .decide
   .have:=sF hq.bu
    omega)
 simp only[A2,BW,AV,BN]at hz ⊢;rw[AL (show(W.length+(0+1+1))*16<=EL by unfold EL;omega),DQ,AL (show W.length+(0+1+1)<=strMax by unfold strMax;omega),
  AL (show AP (GU (W.map IV.toStr++[WH,DZ q.bu]) {data:=#[32]})<=strMax from DD hz (by unfold strMax;omega)),CK,DQ]
def oI(a b:Int):IV:=.str (NZ a b)
theorem zb8(N:Nat)(q:Qy)(s4:BA)(W:LI)(hW:W.length<=20)(D i:Nat)(hiD:i<D)(a b:Int)(again:St->DU)(k:Out->St->DU)(ha:EN a)(hb:EN b)
  (hab:(i=0/\a=q.a0/\b=q.b0)\/(i=1/\a=q.a1/\b=q.b1)\/(i=2/\a=q.a2/\b=q.b2)\/(i=3/\a=q.a3/\b=q.b3)):
  EY (HW N) (DS ML [1,1,1,1,1,1,0,1,0,0]) (oL q s4 W D (i:Int)) (ES again ⟨[2,4,6,75,76,77],[2,500],[⟨.tmp 6,500,9,AD,[.str]⟩]⟩ k)=again (oL q s4 (W++[oI a b]) D ((i+1:Nat):Int)):=by
 refine(Rm N s4 W.length D (ic D) i q.k q.c q.a0 q.b0 q.a1 q.b1 q.a2 q.b2 q.a3 q.b3 q.a4 q.b4 q.lo q.hi q.ft q.fl q.bu W again k).trans ?_;have d1:AE ((i:Int)<ic D)=AC:=AL (by simp only[ic];omega);rw[d1,DQ,DQ];have h3:AP {data:=#[46,46]}=2:=rfl;have sz:∀x y:Int,EN x->EN y->AE (AP (D5 x)+AP {data:=#[46,46]}<=strMax)=AC/\AE (AP (D5 x++{data:=#[46,46]})+AP (D5 y)<=strMax)=AC:=λx y hx hy=>by
  have h1:=(Y6 x hx).2;have h2:=(Y6 y hy).2;refine⟨AL (by rw[h3];unfold strMax;omega),AL (by rw[BC,h3];unfold strMax;omega)⟩
 have e1:∀x:IV,(A3 0 (AU 1 [x]))=[x]:=λ_=>rfl
 have g16:∀x:IV,AE ((W.length+AN [x])*TI.bytes (Env.tyd (HW N) 9)<=EL)=AC:=λx=>AL (by rw[Tt];simp only[AV,BN];unfold EL;omega)
 have hl:∀x:IV,W.length+AN [x]=(W++[x]).length:=λx=>by simp
 obtain⟨s1,s2⟩:=sz a b ha hb;simp only[e1,g16,DQ,BS];rcases hab with⟨rfl,rfl,rfl⟩|⟨rfl,rfl,rfl⟩|⟨rfl,rfl,rfl⟩|⟨rfl,rfl,rfl⟩
 .rw[s1,s2,show AE (((0:Nat):Int)=ic 0)=AC from rfl,DQ,DQ,DQ,hl];rfl
 .rw[s1,s2,show AE (((1:Nat):Int)=ic 0)=AD from rfl,show AE (((1:Nat):Int)=ic 1)=AC from rfl,DR,DQ,DQ,DQ,hl];rfl
 .rw[s1,s2,show AE (((2:Nat):Int)=ic 0)=AD from rfl,show AE (((2:Nat):Int)=ic 1)=AD from rfl,show AE (((2:Nat):Int)=ic 2)=AC from rfl,DR,DR,DQ,DQ,DQ,hl];rfl
 .rw[s1,s2,show AE (((3:Nat):Int)=ic 0)=AD from rfl,show AE (((3:Nat):Int)=ic 1)=AD from rfl,show AE (((3:Nat):Int)=ic 2)=AD from rfl,show AE (((3:Nat):Int)=ic 3)=AC from rfl,DR,DR,DR,DQ,DQ,DQ,hl];rfl
theorem Lw(N:Nat)(q:Qy)(hq:q.In)(s4:BA)(D:Nat)(hD:D<=4):
  ∀(d i n:Nat) (W:LI),i+d=D->d<n->W.length+d<=20->(∀w∈W,w.toStr.size<=100)->
   D3 (HW N) (DS ML [1,1,1,1,1,1,0,1,0,0]) ⟨[2,4,6,75,76,77],[2,500],[⟨.tmp 6,500,9,AD,[.str]⟩]⟩ n (oL q s4 W D (i:Int)) (DW 1 (DX (HW N) (DS ML [1,1,1,1,1,1,1]) (D2 (HW N) AB [(B7 4)] [[.str]])))=
    AA (.str (GU (W.map IV.toStr++(((q.spans.take D).drop i).map λs=>NZ s.1 s.2)++[WH,DZ q.bu]) HI),[])
 |0,i,n+1,W,hd,hn,hW,hs=>by
  have hi:i=D:=by omega
  rw[D8];refine(Rm N s4 W.length D (ic D) i q.k q.c q.a0 q.b0 q.a1 q.b1 q.a2 q.b2 q.a3 q.b3 q.a4 q.b4 q.lo q.hi q.ft q.fl q.bu W _ _).trans ?_;rw[AS (show¬(i:Int)<ic D by simp only[ic];omega),DR];refine(zb6 N q hq s4 W AG hs D i).trans ?_;rw[DC (by rw[BL];omega)];simp
 |d+1,i,n+1,W,hd,hn,hW,hs=>by
  obtain⟨a,b,ha,hb,hab,hsp⟩:∃a b,EN a/\EN b/\((i=0/\a=q.a0/\b=q.b0)\/(i=1/\a=q.a1/\b=q.b1)\/(i=2/\a=q.a2/\b=q.b2)\/(i=3/\a=q.a3/\b=q.b3))/\(q.spans.take D).drop i=(a,b)::(q.spans.take D).drop (i+1):=by
   have hi:i=0\/i=1\/i=2\/i=3:=by omega
   have hDD:D=0\/D=1\/D=2\/D=3\/D=4:=by omega
   rcases hi with rfl|rfl|rfl|rfl
   .exact⟨q.a0,q.b0,hq.a0,hq.b0,.inl ⟨rfl,rfl,rfl⟩,by rcases hDD with rfl|rfl|rfl|rfl|rfl<;>first|rfl|omega⟩
   .exact⟨q.a1,q.b1,hq.a1,hq.b1,.inr (.inl ⟨rfl,rfl,rfl⟩),by rcases hDD with rfl|rfl|rfl|rfl|rfl<;>first|rfl|omega⟩
   .exact⟨q.a2,q.b2,hq.a2,hq.b2,.inr (.inr (.inl ⟨rfl,rfl,rfl⟩)),by rcases hDD with rfl|rfl|rfl|rfl|rfl<;>first|rfl|omega⟩
   .exact⟨q.a3,q.b3,hq.a3,hq.b3,.inr (.inr (.inr ⟨rfl,rfl,rfl⟩)),by rcases hDD with rfl|rfl|rfl|rfl|rfl<;>first|rfl|omega⟩
  rw[D8,zb8 N q s4 W AG D i AG a b _ _ ha hb hab,hsp];have ih:=Lw N q hq s4 D hD d (i+1) n (W++[oI a b]) AG AG (by simp only[A2,AV,BN];omega) (λw hw=>by
   rcases A5.1 hw with h|h
   .exact hs w h
   .rw[BZ]at h;subst h
    have:=Qz ha hb
    simp only[oI,IV.toStr];omega)
  refine ih.trans ?_;simp[oI,IV.toStr]
 |_,_,0,_,_,h,_,_=>by omega
theorem Pi:D6 PR B0 10 W4:=by
 refine EF [(41,c8),(40,c9),(43,TA),(42,PZ),(44,Z1)] [(18,⟨[2,4,6,75,76,77],[2,500],[⟨.tmp 6,500,9,AD,[.str]⟩]⟩)] W4 [[.str]] Tryz.func10 ml
  ⟨zds,zdt,wS,jV,Qi,trivial⟩ ?_
 intro vs r hwf h;unfold W4 at h;split at h
 .rename_i k c a0 b0 a1 b1 a2 b2 a3 b3 a4 b4 lo hi ft fl bu d;refine⟨20,?_⟩;rw[R.get_ok]at h;rw[<-h];refine(wm 20 k c a0 b0 a1 b1 a2 b2 a3 b3 a4 b4 lo hi ft fl bu d).trans ?_;have hb:=hwf (by simp[MX]);have hq:Qy.In ⟨k,c,a0,b0,a1,b1,a2,b2,a3,b3,a4,b4,lo,hi,ft,fl,bu⟩:=by
   have:=hb.1
   simp only[SU,wfLs,wfL,CI,vaS]at this;obtain⟨h1,h2,h3,h4,h5,h6,h7,h8,h9,h10,h11,h12,h13,h14,h15,h16⟩:=this;exact⟨h1,h2,h3,h4,h5,h6,h7,h8,h9,h10,h11,h12,h13,h14,h15,h16⟩
  show cond (AE (d<1)) _ (cond (AE (d>4)) _ (cond _ (cond (!(Qy.eq ⟨k,c,a0,b0,a1,b1,a2,b2,a3,b3,a4,b4,lo,hi,ft,fl,bu⟩ (F5 ⟨k,c,a0,b0,a1,b1,a2,b2,a3,b3,a4,b4,lo,hi,ft,fl,bu⟩ d))) _ _) _))=_;generalize hQ:(⟨k,c,a0,b0,a1,b1,a2,b2,a3,b3,a4,b4,lo,hi,ft,fl,bu⟩:Qy)=q at hq ⊢;unfold EW PG;cases h1:AE (d<1)with
  |true=>simp only[DQ,DR,A9,BP]
  |false=>
   cases h4:AE (d>4)with
   |true=>simp only[DQ,DR,A9,BF,BP,DE]
   |false=>
    have h1:=BM h1;have h4:=BM h4;rw[AL (show 0<=d by omega),AL (show d<=5 by omega),AL (show d<=ic 5 by simp only[ic];omega)];simp only[CK,DQ,DR,BF,BI];cases he:q.eq (F5 q d)with
    |false=>simp only[BF,DQ,DR,BP]
    |true=>
     have ec:q.c=c:=by rw[<-hQ]
     have ef:q.ft=ft:=by rw[<-hQ]
     have eb:q.bu=bu:=by rw[<-hQ]
     have ek:q.k=k:=by rw[<-hQ]
     rw[ec,ef,eb,ek];cases hc:KS c with
     |false=>simp only[A9,BF,DQ,DR,BP,BI]
     |true=>
      cases hf:KS ft with
      |false=>simp only[A9,BF,DQ,DR,BP,BI]
      |true=>
       cases hbu:KS bu with
       |false=>simp only[A9,BF,DQ,DR,BP,BI]
       |true=>
        simp only[A9,DR,BI];have hDn:d.toNat<=4:=by omega
        have run:=λ(W:LI) (hW:W.length<=16) (hs:∀w∈W,w.toStr.size<=100)=>Lw 20 q hq ⟨#[]⟩ d.toNat hDn d.toNat 0 20 W AG AG AG hs
        have zi:∀{n:Int},EN n->(DZ n).size<=100:=λh=>by have:=sF h;omega
        have zp:∀{n:Int},EN n->(D5 n).size<=100:=λh=>by have:=(Y6 _ h).2;omega
        have fin:∀(W:LI) (l:List BA),W.map IV.toStr=l++[OS]->IB q=l->GU (W.map IV.toStr++(((q.spans.take d.toNat).drop 0).map λs=>NZ s.1 s.2)++[WH,DZ q.bu]) HI=GU (JW q d.toNat) HI:=λW l hWl hl=>by
         unfold JW;rw[hWl,hl,CD];simp
        subst hQ;cases k1:(k==1)with
        |true=>
         simp only[DQ,Bool.true_or];refine(run [IV.str N1,IV.str (DZ c),IV.str WI,IV.str (D5 lo),IV.str WM,IV.str (D5 hi),IV.str OS] (by simp) (λw hw=>?_)).trans ?_
         .simp only[AW,CC,C7]at hw;rcases hw with rfl|rfl|rfl|rfl|rfl|rfl|rfl
          .decide
          .exact zi hq.c
          .decide
          .exact zp hq.lo
          .decide
          .exact zp hq.hi
          .decide
         .rw[fin _ [N1,DZ c,WI,D5 lo,WM,D5 hi] rfl (by unfold IB;simp only[k1,DQ])]
        |false=>
         simp only[DR,vaF];cases k2:(k==2)with
         |true=>
          simp only[DQ,Bool.true_or];refine(run [IV.str PM,IV.str (DZ c),IV.str OS] (by simp) (λw hw=>?_)).trans ?_
          .simp only[AW,CC,C7]at hw;rcases hw with rfl|rfl|rfl
           .decide
           .exact zi hq.c
           .decide
          .rw[fin _ [PM,DZ c] rfl (by unfold IB;simp only[k1,k2,DQ,DR])]
         |false=>
          simp only[DR,vaF];cases k3:(k==3)with
          |false=>simp only[DR]
          |true=>
           simp only[DQ];cases fl with
           |true=>
            simp only[DQ];refine(run [IV.str M5,IV.str (DZ c),IV.str PN,IV.str (DZ ft),IV.str OS] (by simp) (λw hw=>?_)).trans ?_
            .simp only[AW,CC,C7]at hw;rcases hw with rfl|rfl|rfl|rfl|rfl
             .decide
             .exact zi hq.c
             .decide
             .exact zi hq.ft
             .decide
            .rw[fin _ [M5,DZ c,PN,DZ ft] rfl (by unfold IB;simp only[k1,k2,DQ,DR])]
           |false=>
            simp only[DR];refine(run [IV.str N2,IV.str (DZ c),IV.str PN,IV.str (DZ ft),IV.str OS] (by simp) (λw hw=>?_)).trans ?_
            .simp only[AW,CC,C7]at hw;rcases hw with rfl|rfl|rfl|rfl|rfl
             .decide
             .exact zi hq.c
             .decide
             .exact zi hq.ft
             .decide
            .rw[fin _ [N2,DZ c,PN,DZ ft] rfl (by unfold IB;simp only[k1,k2,DR])]
 .simp[R.get]at h
open Go Go.Proofs
def QU(N:Nat):Env:=EE [(10,W4),(84,W5),(81,c7),(83,W6),(80,f8),(82,U4),(64,N6)] [(9,⟨[0,2,3,4,5,7,8,9,45,46,47],[2,9],[]⟩)] 82 N
abbrev SW(s0:BA)(x3:Int)(b4:Bool)(l5:LI)(x7 x8:Int)(l45:LI)(x46 x47 u02 u03 u0a u0b u0c u0d u0e u0f u0g u0h u04 u05 u06 u07 u08:Int)(u00:Bool)(u09 u0i u0j u0q u0r u0s u0t u0u u0v u0w u0x u0k u0l u0m u0n u0o:Int)(u01:Bool)(u0p:Int):St:=⟨[(0,(.str s0)),(2,(.ptr 2 0 0)),(3,(.i x3)),(4,(.bool b4)),(5,(.list AD [.str] l5)),(7,(.i x7)),(8,(.i x8)),(9,(.ptr 9 0 0)),(45,(.list AD [.str] l45)),(46,(.i x46)),(47,(.i x47))],[(2,(AA (.box [.i u02,.i u03,.i u0a,.i u0b,.i u0c,.i u0d,.i u0e,.i u0f,.i u0g,.i u0h,.i u04,.i u05,.i u06,.i u07,.i u08,.bool u00,.i u09]))),(9,(AA (.box [.i u0i,.i u0j,.i u0q,.i u0r,.i u0s,.i u0t,.i u0u,.i u0v,.i u0w,.i u0x,.i u0k,.i u0l,.i u0m,.i u0n,.i u0o,.bool u01,.i u0p])))]⟩
theorem wl(N:Nat)(s:BA):EA (QU N) TM [.cell 2 39,.tmp 3,.tmp 4] [[.z,.z,.z,.z,.z,.z,.z,.z,.z,.z,.z,.z,.z,.z,.z,.bool,.z],[.z],[.bool]] [.str s]=(cond (AE (AP s<4294967281)&&AE (1<=AP {data:=#[32]})) (cond (AE (GB (BG IV.str (EH s {data:=#[32]})) {data:=#[105,110]} 0<0)) (AA (.tup [.agg [.i 0,.i 0,.i 0,.i 0,.i 0,.i 0,.i 0,.i 0,.i 0,.i 0,.i 0,.i 0,.i 0,.i 0,.i 0,.bool AD,.i 0],.i 0,.bool AD],[])) (cond (AE (AI AJ (AI AJ (AI AJ (ic (AN (BG IV.str (EH s {data:=#[32]})))-2)-GB (BG IV.str (EH s {data:=#[32]})) {data:=#[105,110]} 0)-1)<1)) (AA (.tup [.agg [.i 0,.i 0,.i 0,.i 0,.i 0,.i 0,.i 0,.i 0,.i 0,.i 0,.i 0,.i 0,.i 0,.i 0,.i 0,.bool AD,.i 0],.i 0,.bool AD],[])) (cond (AE (AI AJ (AI AJ (AI AJ (ic (AN (BG IV.str (EH s {data:=#[32]})))-2)-GB (BG IV.str (EH s {data:=#[32]})) {data:=#[105,110]} 0)-1)>4)) (AA (.tup [.agg [.i 0,.i 0,.i 0,.i 0,.i 0,.i 0,.i 0,.i 0,.i 0,.i 0,.i 0,.i 0,.i 0,.i 0,.i 0,.bool AD,.i 0],.i 0,.bool AD],[])) (cond (AE (0<=GB (BG IV.str (EH s {data:=#[32]})) {data:=#[105,110]} 0)&&AE (GB (BG IV.str (EH s {data:=#[32]})) {data:=#[105,110]} 0<=ic (AN (BG IV.str (EH s {data:=#[32]}))))) (cond (AE (AN (A3 0 (AU (AM (GB (BG IV.str (EH s {data:=#[32]})) {data:=#[105,110]} 0)) (BG IV.str (EH s {data:=#[32]}))))<=4294967290)&&List.all (A3 0 (AU (AM (GB (BG IV.str (EH s {data:=#[32]})) {data:=#[105,110]} 0)) (BG IV.str (EH s {data:=#[32]})))) λx=>AE (AP (IV.toStr x)<4294967281)) (cond (AE (0<=AI AJ (GB (BG IV.str (EH s {data:=#[32]})) {data:=#[105,110]} 0+1))&&(AE (AI AJ (GB (BG IV.str (EH s {data:=#[32]})) {data:=#[105,110]} 0+1)<=AI AJ (ic (AN (BG IV.str (EH s {data:=#[32]})))-2))&&AE (AI AJ (ic (AN (BG IV.str (EH s {data:=#[32]})))-2)<=ic (AN (BG IV.str (EH s {data:=#[32]})))))) (D3 (QU N) (DS TM [1,1,1,1,1,1,1,0,1,0,0]) ⟨[0,2,3,4,5,7,8,9,45,46,47],[2,9],[]⟩ N (SW s 0 AD (BG IV.str (EH s {data:=#[32]})) (AI AJ (ic (AN (BG IV.str (EH s {data:=#[32]})))-2)) (AI AJ (AI AJ (AI AJ (ic (AN (BG IV.str (EH s {data:=#[32]})))-2)-GB (BG IV.str (EH s {data:=#[32]})) {data:=#[105,110]} 0)-1)) (A3 (AM (AI AJ (GB (BG IV.str (EH s {data:=#[32]})) {data:=#[105,110]} 0+1))) (AU (AM (AI AJ (ic (AN (BG IV.str (EH s {data:=#[32]})))-2))) (BG IV.str (EH s {data:=#[32]})))) (ic (AN (A3 (AM (AI AJ (GB (BG IV.str (EH s {data:=#[32]})) {data:=#[105,110]} 0+1))) (AU (AM (AI AJ (ic (AN (BG IV.str (EH s {data:=#[32]})))-2))) (BG IV.str (EH s {data:=#[32]})))))) 0 0 0 0 0 0 0 0 0 0 0 0 0 0 0 0 AD 0 (Qy.k (E5 (A3 0 (AU (AM (GB (BG IV.str (EH s {data:=#[32]})) {data:=#[105,110]} 0)) (BG IV.str (EH s {data:=#[32]})))))) (Qy.c (E5 (A3 0 (AU (AM (GB (BG IV.str (EH s {data:=#[32]})) {data:=#[105,110]} 0)) (BG IV.str (EH s {data:=#[32]})))))) (Qy.a0 (E5 (A3 0 (AU (AM (GB (BG IV.str (EH s {data:=#[32]})) {data:=#[105,110]} 0)) (BG IV.str (EH s {data:=#[32]})))))) (Qy.b0 (E5 (A3 0 (AU (AM (GB (BG IV.str (EH s {data:=#[32]})) {data:=#[105,110]} 0)) (BG IV.str (EH s {data:=#[32]})))))) (Qy.a1 (E5 (A3 0 (AU (AM (GB (BG IV.str (EH s {data:=#[32]})) {data:=#[105,110]} 0)) (BG IV.str (EH s {data:=#[32]})))))) (Qy.b1 (E5 (A3 0 (AU (AM (GB (BG IV.str (EH s {data:=#[32]})) {data:=#[105,110]} 0)) (BG IV.str (EH s {data:=#[32]})))))) (Qy.a2 (E5 (A3 0 (AU (AM (GB (BG IV.str (EH s {data:=#[32]})) {data:=#[105,110]} 0)) (BG IV.str (EH s {data:=#[32]})))))) (Qy.b2 (E5 (A3 0 (AU (AM (GB (BG IV.str (EH s {data:=#[32]})) {data:=#[105,110]} 0)) (BG IV.str (EH s {data:=#[32]})))))) (Qy.a3 (E5 (A3 0 (AU (AM (GB (BG IV.str (EH s {data:=#[32]})) {data:=#[105,110]} 0)) (BG IV.str (EH s {data:=#[32]})))))) (Qy.b3 (E5 (A3 0 (AU (AM (GB (BG IV.str (EH s {data:=#[32]})) {data:=#[105,110]} 0)) (BG IV.str (EH s {data:=#[32]})))))) (Qy.a4 (E5 (A3 0 (AU (AM (GB (BG IV.str (EH s {data:=#[32]})) {data:=#[105,110]} 0)) (BG IV.str (EH s {data:=#[32]})))))) (Qy.b4 (E5 (A3 0 (AU (AM (GB (BG IV.str (EH s {data:=#[32]})) {data:=#[105,110]} 0)) (BG IV.str (EH s {data:=#[32]})))))) (Qy.lo (E5 (A3 0 (AU (AM (GB (BG IV.str (EH s {data:=#[32]})) {data:=#[105,110]} 0)) (BG IV.str (EH s {data:=#[32]})))))) (Qy.hi (E5 (A3 0 (AU (AM (GB (BG IV.str (EH s {data:=#[32]})) {data:=#[105,110]} 0)) (BG IV.str (EH s {data:=#[32]})))))) (Qy.ft (E5 (A3 0 (AU (AM (GB (BG IV.str (EH s {data:=#[32]})) {data:=#[105,110]} 0)) (BG IV.str (EH s {data:=#[32]})))))) (Qy.fl (E5 (A3 0 (AU (AM (GB (BG IV.str (EH s {data:=#[32]})) {data:=#[105,110]} 0)) (BG IV.str (EH s {data:=#[32]})))))) (Qy.bu (E5 (A3 0 (AU (AM (GB (BG IV.str (EH s {data:=#[32]})) {data:=#[105,110]} 0)) (BG IV.str (EH s {data:=#[32]}))))))) (DW 0 (DX (QU N) (DS TM [1,1,1,1,1,1,1,1]) (D2 (QU N) AB [.cell 2 39,.tmp 3,.tmp 4] [[.z,.z,.z,.z,.z,.z,.z,.z,.z,.z,.z,.z,.z,.z,.z,.bool,.z],[.z],[.bool]])))) AB) AB) AB)))) AB):=AF
theorem Rl(N:Nat)(s0:BA)(x3:Int)(b4:Bool)(l5:LI)(x7 x8:Int)(l45:LI)(x46 x47 u02 u03 u0a u0b u0c u0d u0e u0f u0g u0h u04 u05 u06 u07 u08:Int)(u00:Bool)(u09 u0i u0j u0q u0r u0s u0t u0u u0v u0w u0x u0k u0l u0m u0n u0o:Int)(u01:Bool)(u0p:Int)(again:St->DU)(k:Out->St->DU):EY (QU N) (DS TM [1,1,1,1,1,1,1,0,1,0,0]) (SW s0 x3 b4 l5 x7 x8 l45 x46 x47 u02 u03 u0a u0b u0c u0d u0e u0f u0g u0h u04 u05 u06 u07 u08 u00 u09 u0i u0j u0q u0r u0s u0t u0u u0v u0w u0x u0k u0l u0m u0n u0o u01 u0p) (ES again ⟨[0,2,3,4,5,7,8,9,45,46,47],[2,9],[]⟩ k)=(cond (AE (x47<x46)) (cond (AE (0<=x47)&&AE (x47<ic (AN l45))) (cond (AE (AP (IV.toStr (AR l45 (AM x47) default))<4294967281)) (cond (AE (AP (cutL (IV.toStr (AR l45 (AM x47) default)) {data:=#[46,46]})<4294967281)) (cond (AE (AP (GA (IV.toStr (AR l45 (AM x47) default)) {data:=#[46,46]})<4294967281)) (cond (AE (x47=ic 0)) (again (SW s0 x3 b4 l5 x7 x8 l45 x46 (AI AJ (x47+1)) u02 u03 u0a u0b u0c u0d u0e u0f u0g u0h u04 u05 u06 u07 u08 u00 u09 u0i u0j (GL (cutL (IV.toStr (AR l45 (AM x47) default)) {data:=#[46,46]})) (GL (GA (IV.toStr (AR l45 (AM x47) default)) {data:=#[46,46]})) u0s u0t u0u u0v u0w u0x u0k u0l u0m u0n u0o u01 u0p)) (cond (AE (x47=ic 1)) (again (SW s0 x3 b4 l5 x7 x8 l45 x46 (AI AJ (x47+1)) u02 u03 u0a u0b u0c u0d u0e u0f u0g u0h u04 u05 u06 u07 u08 u00 u09 u0i u0j u0q u0r (GL (cutL (IV.toStr (AR l45 (AM x47) default)) {data:=#[46,46]})) (GL (GA (IV.toStr (AR l45 (AM x47) default)) {data:=#[46,46]})) u0u u0v u0w u0x u0k u0l u0m u0n u0o u01 u0p)) (cond (AE (x47=ic 2)) (again (SW s0 x3 b4 l5 x7 x8 l45 x46 (AI AJ (x47+1)) u02 u03 u0a u0b u0c u0d u0e u0f u0g u0h u04 u05 u06 u07 u08 u00 u09 u0i u0j u0q u0r u0s u0t (GL (cutL (IV.toStr (AR l45 (AM x47) default)) {data:=#[46,46]})) (GL (GA (IV.toStr (AR l45 (AM x47) default)) {data:=#[46,46]})) u0w u0x u0k u0l u0m u0n u0o u01 u0p)) (cond (AE (x47=ic 3)) (again (SW s0 x3 b4 l5 x7 x8 l45 x46 (AI AJ (x47+1)) u02 u03 u0a u0b u0c u0d u0e u0f u0g u0h u04 u05 u06 u07 u08 u00 u09 u0i u0j u0q u0r u0s u0t u0u u0v (GL (cutL (IV.toStr (AR l45 (AM x47) default)) {data:=#[46,46]})) (GL (GA (IV.toStr (AR l45 (AM x47) default)) {data:=#[46,46]})) u0k u0l u0m u0n u0o u01 u0p)) (cond (AE (x47=ic 4)) (again (SW s0 x3 b4 l5 x7 x8 l45 x46 (AI AJ (x47+1)) u02 u03 u0a u0b u0c u0d u0e u0f u0g u0h u04 u05 u06 u07 u08 u00 u09 u0i u0j u0q u0r u0s u0t u0u u0v u0w u0x (GL (cutL (IV.toStr (AR l45 (AM x47) default)) {data:=#[46,46]})) (GL (GA (IV.toStr (AR l45 (AM x47) default)) {data:=#[46,46]})) u0m u0n u0o u01 u0p)) AB))))) AB) AB) AB) AB) (k (.exit 0) (SW s0 x3 b4 l5 x7 x8 l45 x46 x47 u02 u03 u0a u0b u0c u0d u0e u0f u0g u0h u04 u05 u06 u07 u08 u00 u09 u0i u0j u0q u0r u0s u0t u0u u0v u0w u0x u0k u0l u0m u0n u0o u01 u0p))):=AF
theorem fu(N:Nat)(s0:BA)(x3:Int)(b4:Bool)(l5:LI)(x7 x8:Int)(l45:LI)(x46 x47 u02 u03 u0a u0b u0c u0d u0e u0f u0g u0h u04 u05 u06 u07 u08:Int)(u00:Bool)(u09 u0i u0j u0q u0r u0s u0t u0u u0v u0w u0x u0k u0l u0m u0n u0o:Int)(u01:Bool)(u0p:Int):(DW 0 (DX (QU N) (DS TM [1,1,1,1,1,1,1,1]) (D2 (QU N) AB [.cell 2 39,.tmp 3,.tmp 4] [[.z,.z,.z,.z,.z,.z,.z,.z,.z,.z,.z,.z,.z,.z,.z,.bool,.z],[.z],[.bool]]))) (.exit 0) (SW s0 x3 b4 l5 x7 x8 l45 x46 x47 u02 u03 u0a u0b u0c u0d u0e u0f u0g u0h u04 u05 u06 u07 u08 u00 u09 u0i u0j u0q u0r u0s u0t u0u u0v u0w u0x u0k u0l u0m u0n u0o u01 u0p)=(cond (AE (0<=AI AJ (x7+1))&&AE (AI AJ (x7+1)<ic (AN l5))) (cond (!A7 (EW {k:=u0i,c:=u0j,a0:=u0q,b0:=u0r,a1:=u0s,b1:=u0t,a2:=u0u,b2:=u0v,a3:=u0w,b3:=u0x,a4:=u0k,b4:=u0l,lo:=u0m,hi:=u0n,ft:=u0o,fl:=u01,bu:=FT (IV.toStr (AR l5 (AM (AI AJ (x7+1))) default))} x8)==A7 s0) (AA (.tup [.agg [.i 0,.i 0,.i 0,.i 0,.i 0,.i 0,.i 0,.i 0,.i 0,.i 0,.i 0,.i 0,.i 0,.i 0,.i 0,.bool AD,.i 0],.i 0,.bool AD],[])) (AA (.tup [.agg [.i u0i,.i u0j,.i u0q,.i u0r,.i u0s,.i u0t,.i u0u,.i u0v,.i u0w,.i u0x,.i u0k,.i u0l,.i u0m,.i u0n,.i u0o,.bool u01,.i (FT (IV.toStr (AR l5 (AM (AI AJ (x7+1))) default)))],.i x8,.bool AC],[]))) AB):=AF
open Go Go.Proofs
theorem tc(l:LI):(E5 l).a0=0/\(E5 l).b0=0/\(E5 l).a1=0/\(E5 l).b1=0/\(E5 l).a2=0/\(E5 l).b2=0/\(E5 l).a3=0/\(E5 l).b3=0/\(E5 l).a4=0/\(E5 l).b4=0/\(E5 l).bu=0:=by
 unfold E5;cases((D9 l 0).toList==N1.toList)<;>cases((D9 l 0).toList==PM.toList)<;>cases((D9 l 0).toList==N2.toList||(D9 l 0).toList==M5.toList)<;>exact⟨rfl,rfl,rfl,rfl,rfl,rfl,rfl,rfl,rfl,rfl,rfl⟩
def rq(l:LI)(i d:Nat):Qy:=
 ⟨(
  E5 (l.take i)).k,(E5 (l.take i)).c,
  cond (BV 0 d) (SQ l (i+1)) 0,cond (BV 0 d) (SR l (i+1)) 0,cond (BV 1 d) (SQ l (i+2)) 0,cond (BV 1 d) (SR l (i+2)) 0,cond (BV 2 d) (SQ l (i+3)) 0,cond (BV 2 d) (SR l (i+3)) 0,cond (BV 3 d) (SQ l (i+4)) 0,cond (BV 3 d) (SR l (i+4)) 0,0,0,
  (E5 (l.take i)).lo,(E5 (l.take i)).hi,(E5 (l.take i)).ft,(E5 (l.take i)).fl,0⟩
theorem zc4(l:LI)(i:Nat):E5 (l.take i)=rq l i 0:=by
 obtain⟨h1,h2,h3,h4,h5,h6,h7,h8,h9,h10,h11⟩:=tc (l.take i);unfold rq;generalize E5 (l.take i)=q at*;cases q;simp only at*;subst h1 h2 h3 h4 h5 h6 h7 h8 h9 h10 h11;rfl
abbrev oM(s:BA)(W:LI)(x7 x8:Int)(L:LI)(q:Qy)(i:Int):St:=
 ⟨[(0,(.str s)),(2,(.ptr 2 0 0)),(3,(.i 0)),(4,(.bool AD)),(5,(.list AD [.str] W)),(7,(.i x7)),(8,(.i x8)),(9,(.ptr 9 0 0)),(45,(.list AD [.str] L)),(46,(.i (ic L.length))),(47,(.i i))],[(2,(AA (p7 Qy.none))),(9,(AA (p7 q)))]⟩
theorem di(w sep:BA)(h:w.size<4294967281):AE (AP w<4294967281)=AC/\AE (AP (cutL w sep)<4294967281)=AC/\AE (AP (GA w sep)<4294967281)=AC:=by
 obtain⟨h1,h2⟩:=lI w sep;exact⟨AL h,AL AG,AL AG⟩
theorem zbW(N:Nat)(s:BA)(W:LI)(x7 x8:Int)(L:LI)(I i:Nat)(hi:i<L.length)(h4:i<4)(hL:IV.toStr (L.getD i default)=D9 W (I+1+i))(hw:(D9 W (I+1+i)).size<4294967281)(again:St->DU)(k:Out->St->DU):
  EY (QU N) (DS TM [1,1,1,1,1,1,1,0,1,0,0]) (oM s W x7 x8 L (rq W I i) (i:Int)) (ES again ⟨[0,2,3,4,5,7,8,9,45,46,47],[2,9],[]⟩ k)=again (oM s W x7 x8 L (rq W I (i+1)) ((i+1:Nat):Int)):=by
 refine(Rl N s 0 AD W x7 x8 L (ic L.length) i 0 0 0 0 0 0 0 0 0 0 0 0 0 0 0 AD 0 (rq W I i).k (rq W I i).c (rq W I i).a0 (rq W I i).b0 (rq W I i).a1 (rq W I i).b1 (rq W I i).a2 (rq W I i).b2 (rq W I i).a3 (rq W I i).b3 (rq W I i).a4 (rq W I i).b4 (rq W I i).lo (rq W I i).hi (rq W I i).ft (rq W I i).fl (rq W I i).bu again k).trans ?_;rw[HY hi,IM,CK,DQ,DQ,BE,hL];obtain⟨c1,c2,c3⟩:=di (D9 W (I+1+i)) {data:=#[46,46]} hw;rw[c1,c2,c3,DQ,DQ,DQ];have hi4:i=0\/i=1\/i=2\/i=3:=by omega
 rcases hi4 with rfl|rfl|rfl|rfl
 .rw[show AE (((0:Nat):Int)=ic 0)=AC from rfl,DQ];rfl
 .rw[show AE (((1:Nat):Int)=ic 0)=AD from rfl,show AE (((1:Nat):Int)=ic 1)=AC from rfl,DR,DQ];rfl
 .rw[show AE (((2:Nat):Int)=ic 0)=AD from rfl,show AE (((2:Nat):Int)=ic 1)=AD from rfl,show AE (((2:Nat):Int)=ic 2)=AC from rfl,DR,DR,DQ];rfl
 .rw[show AE (((3:Nat):Int)=ic 0)=AD from rfl,show AE (((3:Nat):Int)=ic 1)=AD from rfl,show AE (((3:Nat):Int)=ic 2)=AD from rfl,show AE (((3:Nat):Int)=ic 3)=AC from rfl,DR,DR,DR,DQ];rfl
theorem Lh(N:Nat)(s:BA)(W:LI)(x7 x8:Int)(L:LI)(I:Nat)(h4:L.length<=4)(hL:∀i,i<L.length->IV.toStr (L.getD i default)=D9 W (I+1+i))(hw:∀i,(D9 W i).size<4294967281)(K:Out->St->DU):
  ∀(d i n:Nat),i+d=L.length->d<n->
   D3 (QU N) (DS TM [1,1,1,1,1,1,1,0,1,0,0]) ⟨[0,2,3,4,5,7,8,9,45,46,47],[2,9],[]⟩ n (oM s W x7 x8 L (rq W I i) (i:Int)) K=K (.exit 0) (oM s W x7 x8 L (rq W I L.length) (ic L.length))
 |0,i,n+1,hd,hn=>by
  have hi:i=L.length:=by omega
  subst hi;rw[D8];refine(Rl N s 0 AD W x7 x8 L (ic L.length) _ 0 0 0 0 0 0 0 0 0 0 0 0 0 0 0 AD 0 (rq W I L.length).k (rq W I L.length).c (rq W I L.length).a0 (rq W I L.length).b0 (rq W I L.length).a1 (rq W I L.length).b1 (rq W I L.length).a2 (rq W I L.length).b2 (rq W I L.length).a3 (rq W I L.length).b3 (rq W I L.length).a4 (rq W I L.length).b4 (rq W I L.length).lo (rq W I L.length).hi (rq W I L.length).ft (rq W I L.length).fl (rq W I L.length).bu _ _).trans ?_;rw[IZ (A4 _),DR];rfl
 |d+1,i,n+1,hd,hn=>by
  rw[D8,zbW N s W x7 x8 L I i AG AG (hL i AG) (hw _)];exact Lh N s W x7 x8 L I h4 hL hw K d (i+1) n AG AG
 |_,_,0,_,h=>by omega
theorem Gx(w:BA):∀(l:LI) (k:Int),0<=k->GB l w k= -1\/(k<=GB l w k/\GB l w k<k+(l.length:Int))
 |[],_,_=>.inl rfl
 |x::l,k,hk=>by
  unfold GB;cases(w.toList==x.toStr.toList)with
  |true=>rw[DQ];exact .inr ⟨DH _,by simp only[AV];omega⟩
  |false=>
   rw[DR];rcases Gx w l (k+1) AG with h|⟨h1,h2⟩
   .exact .inl h
   .exact .inr ⟨by omega,by simp only[AV];omega⟩
theorem vc(s:BA)(hs:s.size<4294967281):(HT s).length<=4294967282/\∀i,(D9 (HT s) i).size<4294967281:=by
 have h1:=Lib.splitB_all HI (by decide) 0 _ s rfl;have h2:=Lib.countB_le HI (by decide) s.size s (A4 _);refine⟨?_,λi=>?_⟩
 .have e:(HT s).length=Lib.countB s HI+1:=by
   unfold HT EH;rw[BW];exact h1
  omega
 .unfold D9;by_cases hi:i<(HT s).length
  .have:AR (HT s) i default=(HT s)[i]:=by simp[hi]
   rw[this];have hm:=C0 hi;unfold HT at hm;obtain⟨p,hp,hpe⟩:=CU.1 hm;have hz:=(ZC HI _ s).2 p hp
   have:((HT s)[i]).toStr=p:=by
    show(BG IV.str (EH s HI))[i].toStr=p;rw[<-hpe];rfl
   rw[this];omega
  .have:AR (HT s) i default=default:=by simp[AR,hi]
   rw[this];decide
theorem wJ:D6 PR B0 23 S2:=by
 refine EF [(10,W4),(84,W5),(81,c7),(83,W6),(80,f8),(82,U4),(64,N6)] [(9,⟨[0,2,3,4,5,7,8,9,45,46,47],[2,9],[]⟩)] S2
  [[.z,.z,.z,.z,.z,.z,.z,.z,.z,.z,.z,.z,.z,.z,.z,.bool,.z],[.z],[.bool]] Tryz.func23 mj
  ⟨Pi,Pj,zdr,Pk,zeK,wW,cD,trivial⟩ ?_
 intro vs r hwf h;unfold S2 at h;split at h
 .rename_i s;refine⟨20,?_⟩;cases hs:AE (s.size<4294967281)with
  |false=>rw[hs]at h;simp[R.get]at h
  |true=>
   rw[hs,R.get_br,DQ,R.get_ok]at h;rw[<-h];refine(wl 20 s).trans ?_;have hs':=BB hs;rw[hs];obtain⟨hl,hw⟩:=vc s hs';have eW:BG IV.str (EH s {data:=#[32]})=HT s:=rfl;have eI:GB (HT s) {data:=#[105,110]} 0=OG s:=rfl;rw[eW,eI,show AE (1<=AP {data:=#[32]})=AC from rfl,CK,DQ];have hr:=Gx OS (HT s) 0 (DH _)
   change OG s= -1\/(0<=OG s/\OG s<0+((HT s).length:Int))at hr
   have w2:AI AJ (ic (AN (HT s))-2)=ic (AN (HT s))-2:=ER (by simp only[ic];omega) (by simp only[ic];omega);rw[w2];have wd:AI AJ (AI AJ (ic (AN (HT s))-2-OG s)-1)=PC s:=by
    unfold PC;rw[ER (n:=ic (AN (HT s))-2-OG s) (by simp only[ic];omega) (by simp only[ic];omega),ER (by simp only[ic];omega) (by simp only[ic];omega)]
   rw[wd];unfold E1 ND LZ;cases h1:AE (OG s<0)with
   |true=>simp only[DQ,DR,A9,BP];rfl
   |false=>
    cases h2:AE (PC s<1)with
    |true=>simp only[DQ,DR,A9,BF,BP,DE];rfl
    |false=>
     cases h3:AE (PC s>4)with
     |true=>simp only[DQ,DR,A9,BF,BP,DE];rfl
     |false=>
      simp only[DR,BF,BI];have h1:=BM h1;have h2:=BM h2;have h3:=BM h3;obtain⟨I,hI⟩:∃I:Nat,OG s=I:=⟨(OG s).toNat,by omega⟩;obtain⟨D,hD⟩:∃D:Nat,PC s=D:=⟨(PC s).toNat,by omega⟩;have hD1:1<=D:=by omega
      have hD4:D<=4:=by omega
      unfold iP;have hDd:(D:Int)=((HT s).length:Int)-2-I-1:=by
       rw[<-hD,<-hI];rfl
      rw[hI,hD]at*;generalize HT s=W at*;have wi:AI AJ ((I:Int)+1)=((I+1:Nat):Int):=by rw[ER AG AG];rfl
      have eb:ic (AN W)-2=((W.length-2:Nat):Int):=by simp only[ic];omega
      rw[wi,eb];simp only[BE,CD];have hall:List.all (AU I W) (λx=>AE (AP (IV.toStr x)<4294967281))=AC:=by
       rw[CZ];intro x hx;obtain⟨j,hj,rfl⟩:=List.mem_iff_getElem.1 (vaO hx)
       have:=hw j
       unfold D9 at this;have e:AR W j default=W[j]:=by simp[hj]
       rw[e]at this;exact AL this
      rw[hall,AL (show(0:Int)<=(I:Int) by omega),AL (show(I:Int)<=ic (AN W) by simp only[ic];omega),AL (show AN (AU I W)<=4294967290 by rw[BL];omega),
       AL (show(0:Int)<=((I+1:Nat):Int) by omega),AL (show((I+1:Nat):Int)<=((W.length-2:Nat):Int) by omega),AL (show((W.length-2:Nat):Int)<=ic (AN W) by simp only[ic];omega)]
      simp only[CK,DQ];have hLl:(A3 (I+1) (AU (W.length-2) W)).length=D:=by rw[DA,BL];omega
      have hLg:∀i,i<(A3 (I+1) (AU (W.length-2) W)).length->IV.toStr ((A3 (I+1) (AU (W.length-2) W)).getD i default)=D9 W (I+1+i):=λi hi=>by
       rw[hLl]at hi;unfold D9;congr 1;simp only[AR,vat,C3];rw[BX AG]
      rw[zc4 W I];have run:=Lh 20 s W ((W.length-2:Nat):Int) (D:Int) (A3 (I+1) (AU (W.length-2) W)) I (by rw[hLl];exact hD4) hLg hw (DW 0 (DX (QU 20) (DS TM [1,1,1,1,1,1,1,1]) (D2 (QU 20) AB [(va6 2 39),(B7 3),(B7 4)] [[.z,.z,.z,.z,.z,.z,.z,.z,.z,.z,.z,.z,.z,.z,.z,.bool,.z],[.z],[.bool]]))) D 0 20 (by rw[hLl];omega) AG;refine run.trans ?_;rw[hLl];refine(fu 20 s 0 AD W ((W.length-2:Nat):Int) (D:Int) (A3 (I+1) (AU (W.length-2) W)) (ic (A3 (I+1) (AU (W.length-2) W)).length) _ 0 0 0 0 0 0 0 0 0 0 0 0 0 0 0 AD 0 (rq W I D).k (rq W I D).c (rq W I D).a0 (rq W I D).b0 (rq W I D).a1 (rq W I D).b1 (rq W I D).a2 (rq W I D).b2 (rq W I D).a3 (rq W I D).b3 (rq W I D).a4 (rq W I D).b4 (rq W I D).lo (rq W I D).hi (rq W I D).ft (rq W I D).fl (rq W I D).bu).trans ?_;have e7:AI AJ (((W.length-2:Nat):Int)+1)=((W.length-1:Nat):Int):=by rw[ER AG AG];omega
      rw[e7,BE,AL (show(0:Int)<=((W.length-1:Nat):Int) by omega),AL (show((W.length-1:Nat):Int)<ic (AN W) by simp only[ic];omega),CK,DQ];have eq:(⟨(rq W I D).k,(rq W I D).c,(rq W I D).a0,(rq W I D).b0,(rq W I D).a1,(rq W I D).b1,(rq W I D).a2,(rq W I D).b2,(rq W I D).a3,(rq W I D).b3,(rq W I D).a4,(rq W I D).b4,(rq W I D).lo,(rq W I D).hi,(rq W I D).ft,(rq W I D).fl,FT (IV.toStr (AR W (W.length-1) default))⟩:Qy)=jI W I D:=rfl;rw[eq];cases((EW (jI W I D) (D:Int)).toList==s.toList)with
      |false=>rfl
      |true=>rfl
 .simp[R.get]at h
open Go Go.Proofs
def Yf(N:Nat):Env:=EE [(93,NB),(38,XJ)] [] 26 N
theorem zay(N:Nat)(m:Md)(q:Qy):EA (Yf N) Cq [.tmp 4] [[.list AD []]] [(Md.V m),(Qy.V q)]=(cond (!E8 m q) (AA (.bor (GD m q [.zs,.zs,.i 4,.zs,.i 0,.i 0,.i 0,.i 0,.i 0,.i 0,.i 0]),[])) (AA (.bor (GD m q [.vec 37 AC ET [(Bx.I (FG q))],.zs,.i 0,.zs,.i 0,.i 0,.i 0,.i 0,.i 0,.i 0,.i 0]),[]))):=AF
def kG(N:Nat):Env:=EE [(172,kK)] [] 22 N
theorem zaC(N:Nat)(m:Md)(q:Qy)(left u00:LI)(k w0 w1 w2 w3 tw vs sp:Int):EA (kG N) gR [.cell 2 50] [[.z,.list AC [.bool,.z,.z],.z,.z,.z,.z,.z,.z]] [.bor (GD m q [.vec 37 AC ET left,.vec 101 AC EO u00,.i k,.zs,.i w0,.i w1,.i w2,.i w3,.i tw,.i vs,.i sp])]=(cond (k==0) (AA (.agg [.i 3,.list AC EO [],.i w0,.i w1,.i w2,.i w3,.i tw,.i sp],[(GD m q [.vec 37 AC ET (AU (AN left) left),.vec 101 AC EO (AU (AN u00) u00),.i k,.zs,.i w0,.i w1,.i w2,.i w3,.i tw,.i vs,.i sp])])) (AA (.agg [.i k,.list AC EO [],.i w0,.i w1,.i w2,.i w3,.i tw,.i sp],[(GD m q [.vec 37 AC ET (AU (AN left) left),.vec 101 AC EO (AU (AN u00) u00),.i k,.zs,.i w0,.i w1,.i w2,.i w3,.i tw,.i vs,.i sp])]))):=AF
theorem zaD(N:Nat)(m:Md)(q:Qy)(left:LI)(k w0 w1 w2 w3 tw vs sp:Int):EA (kG N) gR [.cell 2 50] [[.z,.list AC [.bool,.z,.z],.z,.z,.z,.z,.z,.z]] [.bor (GD m q [.vec 37 AC ET left,.zs,.i k,.zs,.i w0,.i w1,.i w2,.i w3,.i tw,.i vs,.i sp])]=(cond (k==0) (AA (.agg [.i 3,.list AC EO [],.i w0,.i w1,.i w2,.i w3,.i tw,.i sp],[(GD m q [.vec 37 AC ET (AU (AN left) left),.zs,.i k,.zs,.i w0,.i w1,.i w2,.i w3,.i tw,.i vs,.i sp])])) (AA (.agg [.i k,.list AC EO [],.i w0,.i w1,.i w2,.i w3,.i tw,.i sp],[(GD m q [.vec 37 AC ET (AU (AN left) left),.zs,.i k,.zs,.i w0,.i w1,.i w2,.i w3,.i tw,.i vs,.i sp])]))):=AF
theorem zaE(N:Nat)(m:Md)(q:Qy)(left u00 vp:LI)(k w0 w1 w2 w3 tw vs sp:Int):EA (kG N) gR [.cell 2 50] [[.z,.list AC [.bool,.z,.z],.z,.z,.z,.z,.z,.z]] [.bor (GD m q [.vec 37 AC ET left,.list AC EO u00,.i k,.list AC EO vp,.i w0,.i w1,.i w2,.i w3,.i tw,.i vs,.i sp])]=(cond (k==0) (cond (CG (AN vp) 100000) (AA (.agg [.i 3,.list AC EO (A3 0 (AU (AN vp) vp)),.i w0,.i w1,.i w2,.i w3,.i tw,.i sp],[(GD m q [.vec 37 AC ET (AU (AN left) left),.list AC EO u00,.i k,.list AC EO vp,.i w0,.i w1,.i w2,.i w3,.i tw,.i vs,.i sp])])) AB) (cond (CG (AN vp) 100000) (AA (.agg [.i k,.list AC EO (A3 0 (AU (AN vp) vp)),.i w0,.i w1,.i w2,.i w3,.i tw,.i sp],[(GD m q [.vec 37 AC ET (AU (AN left) left),.list AC EO u00,.i k,.list AC EO vp,.i w0,.i w1,.i w2,.i w3,.i tw,.i vs,.i sp])])) AB)):=AF
theorem zaF(N:Nat)(m:Md)(q:Qy)(k w0 w1 w2 w3 tw vs sp:Int):EA (kG N) gR [.cell 2 50] [[.z,.list AC [.bool,.z,.z],.z,.z,.z,.z,.z,.z]] [.bor (GD m q [.zs,.zs,.i k,.zs,.i w0,.i w1,.i w2,.i w3,.i tw,.i vs,.i sp])]=(cond (k==0) (AA (.agg [.i 3,.list AC EO [],.i w0,.i w1,.i w2,.i w3,.i tw,.i sp],[(GD m q [.zs,.zs,.i k,.zs,.i w0,.i w1,.i w2,.i w3,.i tw,.i vs,.i sp])])) (AA (.agg [.i k,.list AC EO [],.i w0,.i w1,.i w2,.i w3,.i tw,.i sp],[(GD m q [.zs,.zs,.i k,.zs,.i w0,.i w1,.i w2,.i w3,.i tw,.i vs,.i sp])]))):=AF
def kF(N:Nat):Env:=EE [(124,QV),(169,e9),(170,fA),(171,fB),(62,XI)] [] 165 N
theorem Jp(N:Nat)(m:Md)(q:Qy)(left u00:LI)(k w0 w1 w2 w3 tw vs sp:Int):EA (kF N) gQ [.tmp 2] [[.bool]] [.bor (GD m q [.vec 37 AC ET left,.vec 101 AC EO u00,.i k,.zs,.i w0,.i w1,.i w2,.i w3,.i tw,.i vs,.i sp])]=(cond (k !=0) (AA (.bool AD,[(GD m q [.vec 37 AC ET (AU (AN left) left),.vec 101 AC EO (AU (AN u00) u00),.i k,.zs,.i w0,.i w1,.i w2,.i w3,.i tw,.i vs,.i sp])])) (cond (AE (sp>=Qy.bu q)) (AA (.bool AD,[(GD m q [.vec 37 AC ET (AU (AN left) left),.vec 101 AC EO (AU (AN u00) u00),.i k,.zs,.i w0,.i w1,.i w2,.i w3,.i tw,.i vs,.i sp])])) (cond (AE (0<=AI AJ (ic (AN left-0)-1))&&AE (AI AJ (ic (AN left-0)-1)<ic (AN left-0))) (cond (AE (0<=AI AJ (ic (AN left-0)-1))&&AE (AI AJ (ic (AN left-0)-1)<=ic (AN left-0))) (cond (G4 m q (EG (AR left (0+AM (AI AJ (ic (AN left-0)-1))) default))) (cond (AE ((AN u00+1)*24<=EL)) (cond (ic (0+AM (AI AJ (ic (AN left-0)-1))-0)==0) (AA (.bool AC,[(GD m q [.vec 37 AC ET (AU (0+AM (AI AJ (ic (AN left-0)-1))) left),.list AC EO (A3 0 (AU (AN u00+1) (AU (AN u00) u00++[IV.agg [IV.bool AC,IV.int 0,IV.int 0]]))),.i 1,.list AC EO (A3 0 (AU (AN u00+1) (AU (AN u00) u00++[IV.agg [IV.bool AC,IV.int 0,IV.int 0]]))),.i 0,.i 0,.i 0,.i 0,.i 0,.i 0,.i (AI AJ (sp+1))])])) (AA (.bool AC,[(GD m q [.vec 37 AC ET (AU (0+AM (AI AJ (ic (AN left-0)-1))) left),.vec 101 AC EO (AU (AN u00+1) (AU (AN u00) u00++[IV.agg [IV.bool AC,IV.int 0,IV.int 0]])),.i k,.zs,.i w0,.i w1,.i w2,.i w3,.i tw,.i vs,.i (AI AJ (sp+1))])]))) AB) (cond (GH m q (Bx.low (EG (AR left (0+AM (AI AJ (ic (AN left-0)-1))) default))) (Sp.hi (Bx.s4 (EG (AR left (0+AM (AI AJ (ic (AN left-0)-1))) default))))) (AA (.bool AC,[(GD m q [.vec 37 AC ET (AU (0+AM (AI AJ (ic (AN left-0)-1))) left),.vec 101 AC EO (AU (AN u00) u00),.i 2,.zs,.i (Pt.p0 (Bx.low (EG (AR left (0+AM (AI AJ (ic (AN left-0)-1))) default)))),.i (Pt.p1 (Bx.low (EG (AR left (0+AM (AI AJ (ic (AN left-0)-1))) default)))),.i (Pt.p2 (Bx.low (EG (AR left (0+AM (AI AJ (ic (AN left-0)-1))) default)))),.i (Pt.p3 (Bx.low (EG (AR left (0+AM (AI AJ (ic (AN left-0)-1))) default)))),.i (Sp.hi (Bx.s4 (EG (AR left (0+AM (AI AJ (ic (AN left-0)-1))) default)))),.i 0,.i (AI AJ (sp+1))])])) (cond (EU m) (cond (!Option.isSome (FI m q (EG (AR left (0+AM (AI AJ (ic (AN left-0)-1))) default)))) (AA (.bool AC,[(GD m q [.vec 37 AC ET (AU (0+AM (AI AJ (ic (AN left-0)-1))) left),.vec 101 AC EO (AU (AN u00) u00),.i 3,.zs,.i 0,.i 0,.i 0,.i 0,.i 0,.i 0,.i (AI AJ (sp+1))])])) (cond (HC (KT (FI m q (EG (AR left (0+AM (AI AJ (ic (AN left-0)-1))) default))))) (cond (AE ((0+AM (AI AJ (ic (AN left-0)-1))+2)*80<=EL)) (cond (AE ((AN u00+1)*24<=EL)) (AA (.bool AC,[(GD m q [.vec 37 AC ET (AU (0+AM (AI AJ (ic (AN left-0)-1))+2) (AU (0+AM (AI AJ (ic (AN left-0)-1))) left++[(Bx.I (Bx.cutH (EG (AR left (0+AM (AI AJ (ic (AN left-0)-1))) default)) (KT (FI m q (EG (AR left (0+AM (AI AJ (ic (AN left-0)-1))) default)))) (JM (FI m q (EG (AR left (0+AM (AI AJ (ic (AN left-0)-1))) default)))))),(Bx.I (Bx.cutL (EG (AR left (0+AM (AI AJ (ic (AN left-0)-1))) default)) (KT (FI m q (EG (AR left (0+AM (AI AJ (ic (AN left-0)-1))) default)))) (JM (FI m q (EG (AR left (0+AM (AI AJ (ic (AN left-0)-1))) default))))))])),.vec 101 AC EO (AU (AN u00+1) (AU (AN u00) u00++[IV.agg [IV.bool AD,IV.int (KT (FI m q (EG (AR left (0+AM (AI AJ (ic (AN left-0)-1))) default)))),IV.int (JM (FI m q (EG (AR left (0+AM (AI AJ (ic (AN left-0)-1))) default))))]])),.i k,.zs,.i w0,.i w1,.i w2,.i w3,.i tw,.i vs,.i (AI AJ (sp+1))])])) AB) AB) AB)) AB))) AB) AB))):=AF
theorem Jq(N:Nat)(m:Md)(q:Qy)(left:LI)(k w0 w1 w2 w3 tw vs sp:Int):EA (kF N) gQ [.tmp 2] [[.bool]] [.bor (GD m q [.vec 37 AC ET left,.zs,.i k,.zs,.i w0,.i w1,.i w2,.i w3,.i tw,.i vs,.i sp])]=(cond (k !=0) (AA (.bool AD,[(GD m q [.vec 37 AC ET (AU (AN left) left),.zs,.i k,.zs,.i w0,.i w1,.i w2,.i w3,.i tw,.i vs,.i sp])])) (cond (AE (sp>=Qy.bu q)) (AA (.bool AD,[(GD m q [.vec 37 AC ET (AU (AN left) left),.zs,.i k,.zs,.i w0,.i w1,.i w2,.i w3,.i tw,.i vs,.i sp])])) (cond (AE (0<=AI AJ (ic (AN left-0)-1))&&AE (AI AJ (ic (AN left-0)-1)<ic (AN left-0))) (cond (AE (0<=AI AJ (ic (AN left-0)-1))&&AE (AI AJ (ic (AN left-0)-1)<=ic (AN left-0))) (cond (G4 m q (EG (AR left (0+AM (AI AJ (ic (AN left-0)-1))) default))) (cond (ic (0+AM (AI AJ (ic (AN left-0)-1))-0)==0) (AA (.bool AC,[(GD m q [.vec 37 AC ET (AU (0+AM (AI AJ (ic (AN left-0)-1))) left),.list AC EO [(IV.agg [IV.bool AC,IV.int 0,IV.int 0])],.i 1,.list AC EO [(IV.agg [IV.bool AC,IV.int 0,IV.int 0])],.i 0,.i 0,.i 0,.i 0,.i 0,.i 0,.i (AI AJ (sp+1))])])) (AA (.bool AC,[(GD m q [.vec 37 AC ET (AU (0+AM (AI AJ (ic (AN left-0)-1))) left),.vec 101 AC EO [(IV.agg [IV.bool AC,IV.int 0,IV.int 0])],.i k,.zs,.i w0,.i w1,.i w2,.i w3,.i tw,.i vs,.i (AI AJ (sp+1))])]))) (cond (GH m q (Bx.low (EG (AR left (0+AM (AI AJ (ic (AN left-0)-1))) default))) (Sp.hi (Bx.s4 (EG (AR left (0+AM (AI AJ (ic (AN left-0)-1))) default))))) (AA (.bool AC,[(GD m q [.vec 37 AC ET (AU (0+AM (AI AJ (ic (AN left-0)-1))) left),.zs,.i 2,.zs,.i (Pt.p0 (Bx.low (EG (AR left (0+AM (AI AJ (ic (AN left-0)-1))) default)))),.i (Pt.p1 (Bx.low (EG (AR left (0+AM (AI AJ (ic (AN left-0)-1))) default)))),.i (Pt.p2 (Bx.low (EG (AR left (0+AM (AI AJ (ic (AN left-0)-1))) default)))),.i (Pt.p3 (Bx.low (EG (AR left (0+AM (AI AJ (ic (AN left-0)-1))) default)))),.i (Sp.hi (Bx.s4 (EG (AR left (0+AM (AI AJ (ic (AN left-0)-1))) default)))),.i 0,.i (AI AJ (sp+1))])])) (cond (EU m) (cond (!Option.isSome (FI m q (EG (AR left (0+AM (AI AJ (ic (AN left-0)-1))) default)))) (AA (.bool AC,[(GD m q [.vec 37 AC ET (AU (0+AM (AI AJ (ic (AN left-0)-1))) left),.zs,.i 3,.zs,.i 0,.i 0,.i 0,.i 0,.i 0,.i 0,.i (AI AJ (sp+1))])])) (cond (HC (KT (FI m q (EG (AR left (0+AM (AI AJ (ic (AN left-0)-1))) default))))) (cond (AE ((0+AM (AI AJ (ic (AN left-0)-1))+2)*80<=EL)) (AA (.bool AC,[(GD m q [.vec 37 AC ET (AU (0+AM (AI AJ (ic (AN left-0)-1))+2) (AU (0+AM (AI AJ (ic (AN left-0)-1))) left++[(Bx.I (Bx.cutH (EG (AR left (0+AM (AI AJ (ic (AN left-0)-1))) default)) (KT (FI m q (EG (AR left (0+AM (AI AJ (ic (AN left-0)-1))) default)))) (JM (FI m q (EG (AR left (0+AM (AI AJ (ic (AN left-0)-1))) default)))))),(Bx.I (Bx.cutL (EG (AR left (0+AM (AI AJ (ic (AN left-0)-1))) default)) (KT (FI m q (EG (AR left (0+AM (AI AJ (ic (AN left-0)-1))) default)))) (JM (FI m q (EG (AR left (0+AM (AI AJ (ic (AN left-0)-1))) default))))))])),.vec 101 AC EO [(IV.agg [IV.bool AD,IV.int (KT (FI m q (EG (AR left (0+AM (AI AJ (ic (AN left-0)-1))) default)))),IV.int (JM (FI m q (EG (AR left (0+AM (AI AJ (ic (AN left-0)-1))) default))))])],.i k,.zs,.i w0,.i w1,.i w2,.i w3,.i tw,.i vs,.i (AI AJ (sp+1))])])) AB) AB)) AB))) AB) AB))):=AF
theorem zaA(N:Nat)(m:Md)(q:Qy)(left u00 vp:LI)(k w0 w1 w2 w3 tw vs sp:Int):EA (kF N) gQ [.tmp 2] [[.bool]] [.bor (GD m q [.vec 37 AC ET left,.list AC EO u00,.i k,.list AC EO vp,.i w0,.i w1,.i w2,.i w3,.i tw,.i vs,.i sp])]=(cond (k !=0) (AA (.bool AD,[(GD m q [.vec 37 AC ET (AU (AN left) left),.list AC EO u00,.i k,.list AC EO vp,.i w0,.i w1,.i w2,.i w3,.i tw,.i vs,.i sp])])) (cond (AE (sp>=Qy.bu q)) (AA (.bool AD,[(GD m q [.vec 37 AC ET (AU (AN left) left),.list AC EO u00,.i k,.list AC EO vp,.i w0,.i w1,.i w2,.i w3,.i tw,.i vs,.i sp])])) (cond (AE (0<=AI AJ (ic (AN left-0)-1))&&AE (AI AJ (ic (AN left-0)-1)<ic (AN left-0))) (cond (AE (0<=AI AJ (ic (AN left-0)-1))&&AE (AI AJ (ic (AN left-0)-1)<=ic (AN left-0))) (cond (G4 m q (EG (AR left (0+AM (AI AJ (ic (AN left-0)-1))) default))) AB (cond (GH m q (Bx.low (EG (AR left (0+AM (AI AJ (ic (AN left-0)-1))) default))) (Sp.hi (Bx.s4 (EG (AR left (0+AM (AI AJ (ic (AN left-0)-1))) default))))) (AA (.bool AC,[(GD m q [.vec 37 AC ET (AU (0+AM (AI AJ (ic (AN left-0)-1))) left),.list AC EO u00,.i 2,.zs,.i (Pt.p0 (Bx.low (EG (AR left (0+AM (AI AJ (ic (AN left-0)-1))) default)))),.i (Pt.p1 (Bx.low (EG (AR left (0+AM (AI AJ (ic (AN left-0)-1))) default)))),.i (Pt.p2 (Bx.low (EG (AR left (0+AM (AI AJ (ic (AN left-0)-1))) default)))),.i (Pt.p3 (Bx.low (EG (AR left (0+AM (AI AJ (ic (AN left-0)-1))) default)))),.i (Sp.hi (Bx.s4 (EG (AR left (0+AM (AI AJ (ic (AN left-0)-1))) default)))),.i 0,.i (AI AJ (sp+1))])])) (cond (EU m) (cond (!Option.isSome (FI m q (EG (AR left (0+AM (AI AJ (ic (AN left-0)-1))) default)))) (AA (.bool AC,[(GD m q [.vec 37 AC ET (AU (0+AM (AI AJ (ic (AN left-0)-1))) left),.list AC EO u00,.i 3,.zs,.i 0,.i 0,.i 0,.i 0,.i 0,.i 0,.i (AI AJ (sp+1))])])) (cond (HC (KT (FI m q (EG (AR left (0+AM (AI AJ (ic (AN left-0)-1))) default))))) (cond (AE ((0+AM (AI AJ (ic (AN left-0)-1))+2)*80<=EL)) AB AB) AB)) AB))) AB) AB))):=AF
theorem zaB(N:Nat)(m:Md)(q:Qy)(k w0 w1 w2 w3 tw vs sp:Int):EA (kF N) gQ [.tmp 2] [[.bool]] [.bor (GD m q [.zs,.zs,.i k,.zs,.i w0,.i w1,.i w2,.i w3,.i tw,.i vs,.i sp])]=(cond (k !=0) (AA (.bool AD,[(GD m q [.zs,.zs,.i k,.zs,.i w0,.i w1,.i w2,.i w3,.i tw,.i vs,.i sp])])) (cond (AE (sp>=Qy.bu q)) (AA (.bool AD,[(GD m q [.zs,.zs,.i k,.zs,.i w0,.i w1,.i w2,.i w3,.i tw,.i vs,.i sp])])) AB)):=AF
open Go Go.Proofs Go.RowKit Go.Sort Go.Lib
theorem zfa:(PR.info? 101).map (λi=>(i.zero,i.size,i.bytes))=AA (AA (.agg #[.bool AD,.int .i64 0,.int .i64 0]),3,24):=AF
set_option maxHeartbeats 4000000 in
theorem cn (b:Addr) (n c:Nat) (news:List Value) (w:World) (hl:news.length=n*3) (hn:n≤maxLen) (hbig:n*24≤140737488355328)
  (hc:∀ j u,news[j]?=some u→w.cell? (b.add j)=some u) (h1:∀ u∈news,u.oneCell'=true) :
  Calls Tryz.prog 172 #[.slice (some b) n c] w fun e w'=>∃ v',e = .returned v'∧w'.ownsRow w.heap.size 101 3 v' n news∧Below w.heap.size w w':=by
 obtain ⟨i0,hi,hz0,hz1,hz2⟩:∃ i,PR.info? 101=some i∧i.zero=some (.agg #[.bool false,.int .i64 0,.int .i64 0])∧i.size=3∧i.bytes=24:=by
  have h:=zfa;rw [Option.map_eq_some_iff] at h;obtain ⟨i,hi,he⟩:=h;simp only [Prod.mk.injEq] at he;exact ⟨i,hi,he⟩
 have qS:∀ (w:World) (a:Option Addr) (n c n' c':Nat),(binOp .eql 46 (.slice a n c) (.slice none n' c')).run Tryz.prog w = .ok (.bool a.isNone) w:=fun w a n c n' c'=>Lib.run_eql_slice_nil w _ _ a n c n' c' Tryz.underlying46
 have A:Aside (∀ j u,news[j]?=some u→w.cell? (b.add j)=some u):=hc;clear hc
 go_enter Tryz.func172,Tryz.ntmps172
 go_wp2_with (at_builtin; refine wpList_append_own _ rfl _ _ 46 rfl w.heap.size 101 i0 (.agg #[.bool false,.int .i64 0,.int .i64 0]) 3 24 Tryz.underlying46 hi hz0 hz1 hz2 rfl (by decide) _ _ _ rfl (World.ownsRow_made w #[] 0 (Nat.le_refl _) (Nat.zero_le _) (by simp)) b n c news rfl ?qc1 ?qc2 ?qc3 ?qc4 ?qc5 ?qc6 ?_)
 case qc1=>exact hl
 case qc2=>
  intro j u hj;exact Lib.cell?_alloc_some _ (A.out j u hj)
 case qc3=>exact h1
 case qc4=>rw [Nat.zero_add]; exact hn
 case qc5=>rw [Nat.zero_add]; exact hbig
 case qc6=>simp
 intro v' w1 hown hgrow hnil
 go_wp2
 go_ret
 refine ⟨v',rfl,by simpa using hown,?_⟩;exact ((Below.refl _ w).alloc (Nat.le_refl _) _).grown hgrow (by simp) (by intro k hk; simp [Value.ownBlock] at hk; omega)
set_option maxHeartbeats 1000000 in
theorem cq (n c:Nat) (w:World):Calls Tryz.prog 172 #[.slice none n c] w fun e w'=>e = .returned (.slice none 0 0)∧w'=w:=by
 have qS:∀ (w:World) (a:Option Addr) (n c n' c':Nat),(binOp .eql 46 (.slice a n c) (.slice none n' c')).run Tryz.prog w = .ok (.bool a.isNone) w:=fun w a n c n' c'=>Lib.run_eql_slice_nil w _ _ a n c n' c' Tryz.underlying46
 go_enter Tryz.func172,Tryz.ntmps172
 go_wp2
 go_ret
 exact ⟨rfl,rfl⟩
def QN(y:IV):Nat->Value
 |0=>.bool (I1 y)
 |1=>.int .i64 (FP y)
 |_=>.int .i64 (GE y)
def RG(l:LI):List Value:=l.flatMap λy=>[QN y 0,QN y 1,QN y 2]
theorem xC:∀l:LI,(RG l).length=l.length*3
 |[]=>rfl
 |y::r=>by
  have:=xC r
  unfold RG at this ⊢;rw[vaA,A2,this,AV];simp;omega
theorem oJ:∀(l:LI) (j:Nat) (u:Value),(RG l)[j]?=AA u->∃i y k,j=i*3+k/\k<3/\l[i]?=AA y/\u=QN y k
 |[],j,u,h=>by simp[RG]at h
 |y::r,j,u,h=>by
  have e:RG (y::r)=[QN y 0,QN y 1,QN y 2]++RG r:=by unfold RG;rw[vaA]
  rw[e]at h
  match j,h with
  |0,h=>exact⟨0,y,0,rfl,by omega,rfl,by simpa using h.symm⟩
  |1,h=>exact⟨0,y,1,rfl,by omega,rfl,by simpa using h.symm⟩
  |2,h=>exact⟨0,y,2,rfl,by omega,rfl,by simpa using h.symm⟩
  |j+3,h=>
   obtain⟨i,z,k,rfl,hk,hi,hu⟩:=oJ r j u (by simpa using h);exact⟨i+1,z,k,by omega,hk,by simpa using hi,hu⟩
theorem ze2(l:LI)(i:Nat)(y:IV)(hy:l[i]?=AA y)(k:Nat)(hk:k<3):(RG l)[i*3+k]?=AA (QN y k):=by
 have hi:i<l.length:=(B4.1 hy).1;have hlt:i*3+k<(RG l).length:=by rw[xC];omega
 obtain⟨i',y',k',h1,h2,h3,h4⟩:=oJ l (i*3+k) _ (BD hlt);obtain rfl:i'=i:=by omega
 obtain rfl:k'=k:=by omega
 rw[hy]at h3;simp only[AK]at h3;subst h3;rw[BD hlt,h4]
theorem zeG:D6 PR B0 172 kK:=by
 intro w X γ vs xs r out hsp hg hx hR hV;unfold kK at hsp;simp only at hsp;split at hsp
 .rename_i l;cases hc:CG l.length 100000 with
  |false=>rw[hc]at hsp;simp[R.get]at hsp
  |true=>
   rw[hc]at hsp;have hc:=AX hc;simp only[R.get,AK,A1]at hsp;obtain⟨rfl,rfl⟩:=hsp;obtain⟨x0,rfl⟩:∃x0,xs=[x0]:=by
    have:=hV.length
    simp at this
    match xs,this with
    |[a],_=>exact⟨a,rfl⟩
   simp only[A8,CN,EV,VRels,VRel,CI]at hV;simp only[Kd.Rel,IV.toList]at hV;obtain⟨p,c,rfl,hc1,hc2,hc3,hcell⟩:=hV;have key:∀i y,l[i]?=AA y->∃b o,p=AA ⟨b,o,AB⟩/\(∀k,k<3->w.cell? ⟨b,o+i*3+k,AB⟩=AA (QN y k))/\(AJ.min<=FP y/\FP y<=AJ.max)/\(AJ.min<=GE y/\GE y<=AJ.max):=λi y hy=>by
    obtain⟨b,o,rfl,_,_,hr⟩:=hcell i y hy;simp only[Kd.RelAll,CI,AV,BN,BU,DJ]at hr;obtain⟨⟨u0,a0,b0⟩,⟨u1,a1,b1⟩,⟨u2,a2,b2⟩⟩:=hr;simp only[Kd.Rel,GK]at b0 b1 b2;refine⟨b,o,rfl,λk hk=>?_,b1.2,b2.2⟩
    match k,hk with
    |0,_=>rw[b0]at a0;exact a0
    |1,_=>rw[b1.1]at a1;exact a1
    |2,_=>rw[b2.1]at a2;exact a2
   have hel:∀(w':World) (O:Nat->Prop) i y,l[i]?=AA y->Kd.RelAll w' O EO (GK AC y) 0 (λj u=>(RG l)[i*EO.length+j]?=AA u):=λw' O i y hy=>by
    obtain⟨_,_,_,_,k1,k2⟩:=key i y hy;simp only[Kd.RelAll,AV,BN,BU,DJ,CI];have g:=ze2 l i y hy;refine⟨⟨_,g 0 AG,?_⟩,⟨_,g 1 AG,?_⟩,⟨_,g 2 AG,?_⟩⟩
    .simp only[Kd.Rel,GK,QN,I1]
    .simp only[Kd.Rel,GK,QN,FP];exact⟨trivial,k1⟩
    .simp only[Kd.Rel,GK,QN,GE];exact⟨trivial,k2⟩
   refine Pv hR rfl (by decide) (by decide) hc3 (Does.of_calls Tryz.func172 AF AF ?_);cases p with
   |none=>
    have h0:l=[]:=by
     cases l with
     |nil=>rfl
     |cons y r=>
      obtain⟨b,o,hp,_⟩:=key 0 y rfl;cases hp
    subst h0;refine(cq _ c w).mono ?_;rintro e w' ⟨rfl,rfl⟩;exact⟨_,[],rfl,Keep.refl _ _,⟨rfl,.inl ⟨rfl,rfl⟩⟩,hel _⟩
   |some a=>
    refine(cn a l.length c (RG l) w (xC l) (by unfold maxLen;omega) AG (λj u hj=>?_) (λu hu=>?_)).mono ?_
    .obtain⟨i,y,k,rfl,hk,hi,rfl⟩:=oJ l j u hj;obtain⟨b,o,hp,hu,_⟩:=key i y hi;simp only[AK]at hp;subst hp;rw[Addr.add_lit,<-vaJ];exact hu k hk
    .obtain⟨j,hj⟩:=List.getElem?_of_mem hu;obtain⟨i,y,k,_,hk,_,rfl⟩:=oJ l j u hj
     match k,hk with
     |0,_=>rfl
     |1,_=>rfl
     |2,_=>rfl
    .rintro e w' ⟨v',rfl,hown,hw⟩;exact⟨v',_,rfl,Keep.below hw,hown,hel _⟩
 .simp[R.get]at hsp
open Go Go.Proofs
set_option maxRecDepth 100000
theorem vt{l:List V}{m:Md}(h:mdOf? l=AA m):l=m.cs:=by
 unfold mdOf? at h;split at h
 .simp only[AK]at h;subst h;rfl
 .cases h
theorem zcu{l:List V}{q:Qy}(h:qyOf? l=AA q):l=q.cs:=by
 unfold qyOf? at h;split at h
 .simp only[AK]at h;subst h;rfl
 .cases h
theorem zdj{l r:List V}{m:Md}{q:Qy}(h:seOf? l=AA (m,q,r)):l=GD m q r:=by
 unfold seOf? at h;split at h
 .rename_i m' q' h1 h2;simp only[AK,A1]at h;obtain⟨rfl,rfl,rfl⟩:=h;unfold GD;rw[<-vt h1,<-zcu h2,List.take_append_drop,List.take_append_drop]
 .cases h
def Rh(t:Nat)(s:Sr):Prop:=t<=3/\(t=3->s.left=[])/\(t=1\/t=3->s.proof=[])/\(t≠2->s.v.proof=[])
theorem ze1{r:List V}{t:Nat}{s:Sr}(h:srT? r=AA (t,s))(m:Md)(q:Qy):GD m q r=QM t m q s/\Rh t s:=by
 unfold srT? at h;split at h
 case h_5=>cases h
 all_goals
  simp only[AK,A1]at h;obtain⟨rfl,rfl⟩:=h;refine⟨rfl,by omega,?_,?_,?_⟩<;>intro h<;>first|rfl|(exfalso;omega)
theorem Vl{v:V}{k:Nat->Md->Qy->Sr->R}{z:V×List (List V)}(h:(o7 v k).get=AA z):∃t m q s,v=.bor (QM t m q s)/\Rh t s/\(k t m q s).get=AA z:=by
 unfold o7 at h;split at h
 .rename_i l;split at h
  .rename_i m q r hl;split at h
   .rename_i t s hr;obtain⟨e,hw⟩:=ze1 hr m q;exact⟨t,m,q,s,by rw[zdj hl,e],hw,h⟩
   .simp[R.get]at h
  .simp[R.get]at h
 .simp[R.get]at h
theorem zeC:D6 PR B0 114 fV:=by
 refine EF [(93,NB),(38,XJ)] [] fV [[.list AD []]] Tryz.func114 ru ⟨cC,Qb,trivial⟩ ?_;intro vs r hwf h;unfold fV at h;split at h
 .rename_i m q;replace h:=II h;obtain⟨m,rfl,h⟩:=h;replace h:=JB h;obtain⟨q,rfl,h⟩:=h;refine⟨0,(zay 0 m q).trans ?_⟩;cases hr:E8 m q with
  |true=>rw[hr,R.get_br,DQ,R.get_ok]at h;exact h
  |false=>rw[hr,R.get_br,DR,R.get_ok]at h;exact h
 .simp[R.get]at h
theorem zeF:D6 PR B0 116 fY:=by
 refine EF [(172,kK)] [] fY [[.z,.list AC [.bool,.z,.z],.z,.z,.z,.z,.z,.z]] Tryz.func116 ry ⟨zeG,trivial⟩ ?_;intro vs r hwf h;unfold fY at h;split at h
 .replace h:=Vl h;obtain⟨t,m,q,s,rfl,hw,h⟩:=h;cases hg:CG s.v.proof.length 100000 with
  |false=>rw[hg]at h;simp[R.get]at h
  |true=>
   rw[hg,R.get_br,DQ,R.get_ok]at h;refine⟨0,?_⟩;rw[<-h];obtain⟨left,proof,⟨k,vp,a,b,c,d,tw,vs⟩,sp⟩:=s;replace hg:CG vp.length 100000=AC:=hg
   match t,hw with
   |0,hw=>
    obtain rfl:vp=[]:=hw.2.2.2 AG;refine(zaC 0 m q left proof k a b c d tw vs sp).trans ?_;rw[BS,BS];unfold HV;cases(k==0)<;>rfl
   |1,hw=>
    obtain rfl:vp=[]:=hw.2.2.2 AG;refine(zaD 0 m q left k a b c d tw vs sp).trans ?_;rw[BS];unfold HV;cases(k==0)<;>rfl
   |2,_=>
    refine(zaE 0 m q left proof vp k a b c d tw vs sp).trans ?_;rw[BS,hg,DQ,DQ,CD,BS];unfold HV;cases(k==0)<;>rfl
   |3,hw=>
    obtain rfl:vp=[]:=hw.2.2.2 AG;refine(zaF 0 m q k a b c d tw vs sp).trans ?_;unfold HV;cases(k==0)<;>rfl
   |t+4,hw=>exact absurd hw.1 AG
 .simp[R.get]at h
theorem Qu(m:Md)(q:Qy)(b:Bx):∀(d i:Nat),i+d=5->(MC m q b d i).isSome=AC->HC (KT (MC m q b d i))=AC
 |0,i,_,h=>by rw[MC]at h;cases h
 |d+1,i,hd,h=>by
  rw[MC]at h ⊢;cases hc:AE ((EM m q b i).length>0)with
  |true=>
   rw[DQ];show HC (i:Int)=AC;unfold HC;rw[AL (show(0:Int)<=(i:Int) by omega),AL (show(i:Int)<5 by omega)];rfl
  |false=>
   rw[hc,DR]at h;rw[DR];exact Qu m q b d (i+1) AG h
theorem zeE:D6 PR B0 115 fX:=by
 refine EF [(124,QV),(169,e9),(170,fA),(171,fB),(62,XI)] [] fX [[.bool]] Tryz.func115 rx ⟨oE,zee,zef,zeg,Qa,trivial⟩ ?_;intro vs r hwf h;unfold fX at h;split at h
 .replace h:=Vl h;obtain⟨t,m,q,s,rfl,hw,h⟩:=h;refine⟨0,?_⟩;obtain⟨left,proof,⟨k,vp,a,b,c,d,tw,vs⟩,sp⟩:=s;cases ho:KQ q ⟨left,proof,⟨k,vp,a,b,c,d,tw,vs⟩,sp⟩with
  |true=>
   rw[ho,R.get_br,DQ,R.get_ok]at h;rw[<-h];have hk:(k !=0)=AC\/(k !=0)=AD/\AE (sp>=q.bu)=AC:=by
    unfold KQ at ho;have e:(k !=0)=!(k==0):=rfl;rw[e];cases hk:(k==0)with
    |false=>exact .inl rfl
    |true=>
     replace ho:(!(k==0)||decide (sp>=q.bu))=AC:=ho;rw[hk,A9,vaF]at ho;exact .inr ⟨rfl,ho⟩
   match t,hw with
   |0,hw=>
    refine(Jp 0 m q left proof k a b c d tw vs sp).trans ?_;rcases hk with hk|⟨hk,hs⟩
    .rw[hk,DQ,BS,BS];rfl
    .rw[hk,DR,hs,DQ,BS,BS];rfl
   |1,hw=>
    refine(Jq 0 m q left k a b c d tw vs sp).trans ?_;rcases hk with hk|⟨hk,hs⟩
    .rw[hk,DQ,BS];rfl
    .rw[hk,DR,hs,DQ,BS];rfl
   |2,hw=>
    refine(zaA 0 m q left proof vp k a b c d tw vs sp).trans ?_;rcases hk with hk|⟨hk,hs⟩
    .rw[hk,DQ,BS];rfl
    .rw[hk,DR,hs,DQ,BS];rfl
   |3,hw=>
    refine(zaB 0 m q k a b c d tw vs sp).trans ?_;rcases hk with hk|⟨hk,hs⟩
    .rw[hk,DQ];rfl
    .rw[hk,DR,hs,DQ];rfl
   |t+4,hw=>exact absurd hw.1 AG
  |false=>
   rw[ho,R.get_br,DR]at h;unfold KQ at ho;replace ho:(!(k==0)||decide (sp>=q.bu))=AD:=ho;rw[vag]at ho;have hk:(k !=0)=AD:=ho.1;have hsp:AE (sp>=q.bu)=AD:=ho.2;cases hg:(CG t 1&&(E8 m q&&(AE (0<=sp)&&(BV 0 left.length&&(CG left.length 100000&&CG proof.length 100000)))))with
   |false=>
    replace h:(R.br (CG t 1&&(E8 m q&&(AE (0<=sp)&&(BV 0 left.length&&(CG left.length 100000&&CG proof.length 100000))))) _ R.no).get=AA r:=h;rw[hg]at h;simp[R.get]at h
   |true=>
    replace h:(R.br (CG t 1&&(E8 m q&&(AE (0<=sp)&&(BV 0 left.length&&(CG left.length 100000&&CG proof.length 100000))))) _ R.no).get=AA r:=h;rw[hg,R.get_br,DQ]at h;have hst:AA (.bool AC,[QM (oP m q t ⟨left,proof,⟨k,vp,a,b,c,d,tw,vs⟩,sp⟩) m q (GO m q ⟨left,proof,⟨k,vp,a,b,c,d,tw,vs⟩,sp⟩)])=AA r:=by
     rw[<-h];unfold oP;simp only[R.get_br,R.get_ok];cases G4 m q (EC left)with
     |true=>cases(ic (left.length-1)==0)<;>rfl
     |false=>
      cases GH m q (EC left).low (EC left).s4.hi with
      |true=>rfl
      |false=>cases(FI m q (EC left)).isSome<;>rfl
    rw[<-hst];simp only[AQ]at hg;obtain⟨ht,hr,h0,hl,hl5,hp5⟩:=hg;obtain⟨hm,_,⟨_,hbu⟩,_,_⟩:=SO hr;have h0:=BB h0;have hs1:=BM hsp;have hl:0<left.length:=AX hl;have hl5:=AX hl5;have hp5:=AX hp5;have esp:AI AJ (sp+1)=sp+1:=ER AG AG;have etop:AI AJ (ic (left.length-0)-1)=((left.length-1:Nat):Int):=by
     rw[ER (by simp only[ic];omega) (by simp only[ic];omega)];simp only[ic];omega
    have ed:(AE (0<=((left.length-1:Nat):Int))&&AE (((left.length-1:Nat):Int)<ic (left.length-0)))=AC:=by
     rw[AL AG,AL (by simp only[ic];omega)];rfl
    have ee:(AE (0<=((left.length-1:Nat):Int))&&AE (((left.length-1:Nat):Int)<=ic (left.length-0)))=AC:=by
     rw[AL AG,AL (by simp only[ic];omega)];rfl
    have epop:left.take (left.length-1+2)=left.take (left.length-1+2):=rfl;have hlen:(F3 left).length=left.length-1:=by unfold F3;rw[BL];omega
    have htk:∀(x y:IV),AU (left.length-1+2) (AU (left.length-1) left++[x,y])=F3 left++[x,y]:=λx y=>C2 (by rw[A2];unfold F3 at hlen;rw[hlen];simp)
    have hb80:AE ((left.length-1+2)*80<=EL)=AC:=AL (by unfold EL;omega);have hin:=Qu m q (EC left) 5 0 rfl;replace hin:(FI m q (EC left)).isSome=AC->HC (KT (FI m q (EC left)))=AC:=hin
    match t,ht,hw with
    |0,_,_=>
     have hb24:AE ((proof.length+1)*24<=EL)=AC:=AL (by unfold EL;omega);have htp:∀x:IV,AU (proof.length+1) (proof++[x])=proof++[x]:=λx=>C2 (by rw[A2];simp)
     refine(Jp 0 m q left proof k a b c d tw vs sp).trans ?_;rw[hk,DR,hsp,DR,etop,ed,DQ,ee,DQ,esp,BE];simp only[BU,vas,BS];rw[hb24,hb80,hm];unfold GO oP;show cond (G4 m q (EC left)) _ (cond (GH m q (EC left).low (EC left).s4.hi) _ _)=_;cases G4 m q (EC left)with
     |true=>
      simp only[htp,CD];rw[DQ,DQ];show cond (ic (left.length-1)==0) _ _=_;cases(ic (left.length-1)==0)<;>rfl
     |false=>
      rw[DR];cases GH m q (EC left).low (EC left).s4.hi with
      |true=>rfl
      |false=>
       rw[DR,DQ];show cond (!(FI m q (EC left)).isSome) _ (cond (HC (KT (FI m q (EC left)))) _ _)=_;cases hs:(FI m q (EC left)).isSome with
       |false=>rfl
       |true=>
        rw[A9,DR,hin hs,DQ,DQ,DQ];simp only[htp,htk];rfl
    |1,_,hw=>
     obtain rfl:proof=[]:=hw.2.2.1 (.inl rfl);refine(Jq 0 m q left k a b c d tw vs sp).trans ?_;rw[hk,DR,hsp,DR,etop,ed,DQ,ee,DQ,esp,BE];simp only[BU,vas];rw[hb80,hm];unfold GO oP;show cond (G4 m q (EC left)) _ (cond (GH m q (EC left).low (EC left).s4.hi) _ _)=_;cases G4 m q (EC left)with
     |true=>
      rw[DQ];show cond (ic (left.length-1)==0) _ _=_;cases(ic (left.length-1)==0)<;>rfl
     |false=>
      rw[DR];cases GH m q (EC left).low (EC left).s4.hi with
      |true=>rfl
      |false=>
       rw[DR,DQ];show cond (!(FI m q (EC left)).isSome) _ (cond (HC (KT (FI m q (EC left)))) _ _)=_;cases hs:(FI m q (EC left)).isSome with
       |false=>rfl
       |true=>
        rw[A9,DR,hin hs,DQ,DQ];simp only[htk];rfl
    |t+2,ht,_=>exact absurd (AX ht) AG
 .simp[R.get]at h
open Go Go.Proofs
def U1(N:Nat):Env:=EE [(114,fV),(115,fX),(116,fY)] [(2,⟨[4,5],[4,8,500,501],[⟨.cell 8 23,500,37,AC,ET⟩,⟨.cell 8 24,501,101,AC,EO⟩]⟩)] 13 N
open Go Go.Proofs
set_option maxRecDepth 100000
abbrev iK:KP:=⟨[4,5],[4,8,500,501],[⟨.cell 8 23,500,37,AC,ET⟩,⟨.cell 8 24,501,101,AC,EO⟩]⟩
def zc5(sh:Bool)(s:Sr):List V:=match sh with
 |false=>.row 500 0 s.left.length::.row 501 0 s.proof.length::cK s.v .zs s.spent
 |true=>.row 500 0 s.left.length::lU s.proof::cK s.v (lU s.v.proof) s.spent
def zc7(sh:Bool)(s:Sr):Option Ob:=match sh with
 |false=>AA (.row AC 101 AC EO s.proof)
 |true=>AB
def NX(m:Md)(q:Qy)(sh:Bool)(s:Sr):St:=
 ⟨[(4,.ptr 4 0 0),(5,.ptr 8 0 0)],[(4,AA (.box [.i 0,.zs,.i 0,.i 0,.i 0,.i 0,.i 0,.i 0])),(8,AA (.box (GD m q (zc5 sh s)))),(500,AA (.row AC 37 AC ET s.left)),(501,zc7 sh s)]⟩
def M3(s:Sr):Sr:=⟨s.left.take s.left.length,s.proof.take s.proof.length,⟨s.v.kind,[],s.v.w0,s.v.w1,s.v.w2,s.v.w3,s.v.twin,s.v.spent⟩,s.spent⟩
def j5(s:Sr):Sr:=⟨s.left.take s.left.length,s.proof,s.v,s.spent⟩
theorem j6{s:Sr}(h:s.v.proof=[]):M3 s=s:=by
 obtain⟨left,proof,⟨k,vp,a,b,c,d,tw,vs⟩,sp⟩:=s;obtain rfl:vp=[]:=h;unfold M3;simp only[BS]
theorem Ue(s:Sr):j5 s=s:=by
 obtain⟨left,proof,v,sp⟩:=s;unfold j5;simp only[BS]
def uB(m:Md)(q:Qy)(s:Sr):Bool:=E8 m q&&(AE (0<=s.spent)&&(BV 0 s.left.length&&(CG s.left.length 100000&&CG s.proof.length 100000)))
noncomputable abbrev iH(N:Nat):Out->St->DU:=DW 0 (DX (U1 N) (DS VK [1,1,1]) (D2 (U1 N) AB [.cell 4 50] [[.z,.list AC EO,.z,.z,.z,.z,.z,.z]]))
theorem zaz(N:Nat)(m:Md)(q:Qy):EA (U1 N) VK [.cell 4 50] [[.z,.list AC [.bool,.z,.z],.z,.z,.z,.z,.z,.z]] [m.V,q.V]=
 cond (E8 m q) (D3 (U1 N) (DS VK [1,1,0,0,0]) iK N (NX m q AD ⟨[(FG q).I],[],Vd.none,0⟩) (iH N))
 (D3 (U1 N) (DS VK [1,1,0,0,0]) iK N (NX m q AD ⟨[],[],⟨4,[],0,0,0,0,0,0⟩,0⟩) (iH N)):=AF
theorem xG(N:Nat)(m:Md)(q:Qy)(s:Sr)(again:St->DU)(k:Out->St->DU):EY (U1 N) (DS VK [1,1,0,0,0]) (NX m q AD s) (ES again iK k)=
 cond (KQ q (M3 s)) (k (.exit 0) (NX m q AD (M3 s)))
 (cond (uB m q (M3 s))
 (cond (G4 m q (EC (M3 s).left)) (cond (ic ((M3 s).left.length-1)==0) (again (NX m q AC (GO m q (M3 s)))) (again (NX m q AD (GO m q (M3 s)))))
 (cond (GH m q (EC (M3 s).left).low (EC (M3 s).left).s4.hi) (again (NX m q AD (GO m q (M3 s))))
 (cond (FI m q (EC (M3 s).left)).isSome (again (NX m q AD (GO m q (M3 s)))) (again (NX m q AD (GO m q (M3 s))))))) AB):=AF
theorem ze9(N:Nat)(m:Md)(q:Qy)(s:Sr)(again:St->DU)(k:Out->St->DU):EY (U1 N) (DS VK [1,1,0,0,0]) (NX m q AC s) (ES again iK k)=
 cond (KQ q (j5 s)) (k (.exit 0) (NX m q AC (j5 s))) AB:=AF
theorem Fq(N:Nat)(m:Md)(q:Qy)(s:Sr):iH N (.exit 0) (NX m q AD s)=AA ((HV (M3 s)).V,[]):=AF
theorem ke(N:Nat)(m:Md)(q:Qy)(s:Sr):iH N (.exit 0) (NX m q AC s)=cond (CG s.v.proof.length 100000) (AA ((HV (j5 s)).V,[])) AB:=AF
structure SrInv (q:Qy) (sh:Bool) (s:Sr):Prop where
 sp0:0<=s.spent
 sp1:s.spent<=max 0 q.bu
 left:(s.left.length:Int)<=s.spent+1
 proof:(s.proof.length:Int)<=s.spent
 vp:(s.v.proof.length:Int)<=s.spent
 own:sh=AD->s.v.proof=[]
 open_:s.v.kind=0->0<s.left.length
 shut:sh=AC->s.v.kind≠0
theorem zb0(l:LI):(F3 l).length=l.length-1:=by
 unfold F3;rw[BL];omega
theorem SrInv.step{m:Md}{q:Qy}{s:Sr}(h:SrInv q AD s)(ho:KQ q s=AD):
  SrInv q (G4 m q (EC s.left)&&(ic (s.left.length-1)==0)) (GO m q s)/\(GO m q s).spent=s.spent+1:=by
 unfold KQ at ho;rw[vag]at ho;have hk:s.v.kind=0:=by simpa using ho.1
 have hs:=BM ho.2;have h1:=h.sp0;have h2:=h.left;have h3:=h.proof;have h4:=h.vp;have h5:=h.own rfl;have h6:=h.open_ hk;have hp:=zb0 s.left;have h5':s.v.proof.length=0:=by rw[h5];rfl
 unfold GO;cases G4 m q (EC s.left)with
 |true=>
  rw[DQ];cases he:(ic (s.left.length-1)==0)with
  |true=>
   refine⟨⟨?_,?_,?_,?_,?_,λh=>(by cases h),λh=>(by cases h),λ_=>(show(1:Int)≠0 by decide)⟩,rfl⟩<;>simp only[B5,A2,DG]<;>omega
  |false=>
   have hne:s.left.length-1≠0:=by simpa[ic]using he
   refine⟨⟨?_,?_,?_,?_,?_,λ_=>h5,λ_=>?_,λh=>(by cases h)⟩,rfl⟩<;>simp only[BK,A2,DG]<;>omega
 |false=>
  rw[DR,BP];cases GH m q (EC s.left).low (EC s.left).s4.hi with
  |true=>refine⟨⟨?_,?_,?_,?_,?_,λ_=>rfl,λh=>(by cases h),λh=>(by cases h)⟩,rfl⟩<;>simp only[B5,BN]<;>omega
  |false=>
   rw[DR];cases(FI m q (EC s.left)).isSome with
   |true=>refine⟨⟨?_,?_,?_,?_,?_,λ_=>h5,λ_=>?_,λh=>(by cases h)⟩,rfl⟩<;>simp only[B5,A2,AV,BN]<;>omega
   |false=>refine⟨⟨?_,?_,?_,?_,?_,λ_=>rfl,λh=>(by cases h),λh=>(by cases h)⟩,rfl⟩<;>simp only[BK,BN]<;>omega
theorem zbg{m:Md}{q:Qy}{s:Sr}(hr:E8 m q=AC)(h:SrInv q AD s)(hk:s.v.kind=0):uB m q s=AC:=by
 have hb:=(SO hr).2.2.1;have h1:=h.sp0;have h2:=h.left;have h3:=h.proof;have h6:=h.open_ hk;have h7:=h.sp1;unfold uB;rw[hr,AL h1,CV (show s.left.length<=100000 by omega),CV (show s.proof.length<=100000 by omega)]
 have:BV 0 s.left.length=AC:=CV h6
 rw[this];rfl
theorem Oj(N:Nat)(m:Md)(q:Qy)(hr:E8 m q=AC)(K:Out->St->DU):∀(d n:Nat) (sh:Bool) (s:Sr),SrInv q sh s->q.bu<s.spent+d->d<n->
  ∃sh',SrInv q sh' (M1 m q d s)/\D3 (U1 N) (DS VK [1,1,0,0,0]) iK n (NX m q sh s) K=K (.exit 0) (NX m q sh' (M1 m q d s))
 |d,0,sh,s,_,_,h=>absurd h AG
 |0,n+1,sh,s,hi,hd,_=>by
  have h1:=hi.sp1;have h2:=hi.sp0;have h3:=(SO hr).2.2.1;omega
 |d+1,n+1,sh,s,hi,hd,hn=>by
  rw[M1];cases ho:KQ q s with
  |true=>
   rw[DQ];refine⟨sh,hi,?_⟩;cases sh with
   |false=>rw[D8,xG,j6 (hi.own rfl),ho,DQ]
   |true=>rw[D8,ze9,Ue,ho,DQ]
  |false=>
   rw[DR];cases sh with
   |true=>
    unfold KQ at ho;rw[vag]at ho
    have:=hi.shut rfl
    simp at ho;exact absurd ho.1 this
   |false=>
    obtain⟨hi',hs'⟩:=hi.step (m:=m) ho;have hk:s.v.kind=0:=by
     unfold KQ at ho;rw[vag]at ho;simpa using ho.1
    obtain⟨sh',hi2,hrun⟩:=Oj N m q hr K d n _ (GO m q s) hi' (by rw[hs'];omega) AG;refine⟨sh',hi2,?_⟩;rw[<-hrun,D8,xG,j6 (hi.own rfl),ho,DR,zbg hr hi hk,DQ];cases G4 m q (EC s.left)with
    |true=>
     rw[DQ,BI];cases(ic (s.left.length-1)==0)<;>rfl
    |false=>
     rw[DR,BP];cases GH m q (EC s.left).low (EC s.left).s4.hi with
     |true=>rfl
     |false=>cases(FI m q (EC s.left)).isSome<;>rfl
theorem wj{m:Md}{q:Qy}(hr:E8 m q=AC):SrInv q AD ⟨[(FG q).I],[],Vd.none,0⟩:=
 ⟨DH _,by have:=(SO hr).2.2.1;show(0:Int)<=_;omega,by simp,by simp,by simp[Vd.none],λ_=>rfl,λ_=>by simp,λh=>by cases h⟩
theorem zeD:D6 PR B0 53 fW:=by
 refine EF [(114,fV),(115,fX),(116,fY)] [(2,⟨[4,5],[4,8,500,501],[⟨.cell 8 23,500,37,AC,ET⟩,⟨.cell 8 24,501,101,AC,EO⟩]⟩)] fW [[.z,.list AC [.bool,.z,.z],.z,.z,.z,.z,.z,.z]] Tryz.func53 rv ⟨zeC,zeE,zeF,trivial⟩ ?_;intro vs r hwf h;unfold fW at h;split at h
 .rename_i m q;replace h:=II h;obtain⟨m,rfl,h⟩:=h;replace h:=JB h;obtain⟨q,rfl,h⟩:=h;rw[R.get_ok]at h;refine⟨70000,?_⟩;rw[<-h];refine(zaz 70000 m q).trans ?_;unfold IR VV;cases hr:E8 m q with
  |true=>
   have hb:=(SO hr).2.2.1;rw[DQ,DQ];obtain⟨sh',hi,hrun⟩:=Oj 70000 m q hr (iH 70000) (q.bu.toNat+1) 70000 AD _ (wj hr) (by show q.bu<0+_;omega) AG;rw[hrun];generalize M1 m q (q.bu.toNat+1) _=s at hi ⊢;cases sh' with
   |false=>rw[Fq,j6 (hi.own rfl)]
   |true=>
    have h1:=hi.vp;have h2:=hi.sp1;rw[ke,Ue,CV (show s.v.proof.length<=100000 by omega),DQ]
  |false=>
   rw[DR,DR];have e:KQ q ⟨[],[],⟨4,[],0,0,0,0,0,0⟩,0⟩=AC:=rfl;rw[D8,xG,j6 rfl,e,DQ,Fq,j6 rfl,M1,e,DQ]
 .simp[R.get]at h
open Go Go.Proofs
def ZV(N:Nat):Env:=EE [(124,QV),(174,LX),(51,NA)] [(3,⟨[0,4,5,6,7,8,9],[500],[⟨.tmp 9,500,273,AC,mL⟩]⟩)] 88 N
open Go Go.Proofs
set_option maxRecDepth 100000
def R6(l O:LI)(n:Nat)(lo hi:Int)(any:Bool):St:=⟨[(0,.list AD [.int .u64] l),(4,.i 0),(5,.i 0),(6,.i lo),(7,.i hi),(8,.bool any),(9,.row 500 0 n)],[(500,AA (.row AC 273 AC mL O))]⟩
abbrev sR:KP:=⟨[0,4,5,6,7,8,9],[500],[⟨.tmp 9,500,273,AC,mL⟩]⟩
noncomputable abbrev sH(N:Nat):Out->St->DU:=DW 0 (DX (ZV N) (DS aC [1,1,1,1]) (D2 (ZV N) AB [.tmp 4,.tmp 5] [[.z],[.z]]))
def eW(n:Nat):Int:=AI AJ (ic (n-0)-1)
def eX(O:LI)(n:Nat):IV:=O.getD (0+(eW n).toNat) default
def J8(l:LI)(x:IV):Int:=(l.getD (IH x).toNat default).toInt
theorem zu(N:Nat)(l:LI)(b:Bx):EA (ZV N) aC [.tmp 4,.tmp 5] [[.z],[.z]] [.list AD [.int .u64] l,b.V]=
 D3 (ZV N) (DS aC [1,1,1,0,0,0]) sR N (R6 l [RM 0 b] 1 0 0 AD) (sH N):=AF
theorem Sk(N:Nat)(l O:LI)(n:Nat)(lo hi:Int)(any:Bool)(again:St->DU)(k:Out->St->DU):EY (ZV N) (DS aC [1,1,1,0,0,0]) (R6 l O n lo hi any) (ES again sR k)=
 cond (AE (ic (n-0)>0)) (cond (AE (0<=eW n)&&AE (eW n<ic (n-0))) (cond (AE (0<=eW n)&&AE (eW n<=ic (n-0)))
 (cond (AE (0<=IH (eX O n))&&AE (IH (eX O n)<ic l.length))
 (cond (!(FQ (J8 l (eX O n)))) (again (R6 l O (0+(eW n).toNat) lo hi any))
 (cond (KG (eX O n)).emp (again (R6 l O (0+(eW n).toNat) lo hi any))
 (cond (!(DT (J8 l (eX O n))).lf)
 (cond (HC (DT (J8 l (eX O n))).f) (cond (AE ((0+(eW n).toNat+2)*88<=EL))
 (again (R6 l (O.take (0+(eW n).toNat)++[RM (DT (J8 l (eX O n))).l ((KG (eX O n)).cutL (DT (J8 l (eX O n))).f (DT (J8 l (eX O n))).a),RM (DT (J8 l (eX O n))).r ((KG (eX O n)).cutH (DT (J8 l (eX O n))).f (DT (J8 l (eX O n))).a)]) (0+(eW n).toNat+2) lo hi any)) AB) AB)
 (cond (!any) (again (R6 l O (0+(eW n).toNat) (min (DT (J8 l (eX O n))).v (DT (J8 l (eX O n))).v) (max (DT (J8 l (eX O n))).v (DT (J8 l (eX O n))).v) AC))
 (again (R6 l O (0+(eW n).toNat) (min lo (DT (J8 l (eX O n))).v) (max hi (DT (J8 l (eX O n))).v) any)))))) AB) AB) AB)
 (k (.exit 0) (R6 l O n lo hi any)):=AF
theorem je(N:Nat)(l O:LI)(n:Nat)(lo hi:Int)(any:Bool):sH N (.exit 0) (R6 l O n lo hi any)=AA (.tup [.i lo,.i hi],[]):=AF
theorem aM(N:Nat){l:LI}(hT:GP l 4=AC){b:Bx}(hb:b.good):∀(c:Nat) (O:LI) (n:Nat) (lo hi:Int) (any:Bool),n<=O.length->EnI l b ⟨O.take n,lo,hi,any⟩->Q5 (O.take n)<c->
  D3 (ZV N) (DS aC [1,1,1,0,0,0]) sR c (R6 l O n lo hi any) (sH N)=AA (.tup [.i (IT l b),.i (IS l b)],[])
 |0,_,_,_,_,_,_,_,h=>absurd h AG
 |c+1,O,0,lo,hi,any,hn,h,hc=>by
  obtain⟨e1,e2⟩:=fg hT hb.emp hb.ok h rfl;replace e1:lo=IT l b:=e1;replace e2:hi=IS l b:=e2;rw[D8,Sk,show AE (ic (0-0)>0)=AD from rfl,DR,je,e1,e2]
 |c+1,O,j+1,lo,hi,any,hn,h,hc=>by
  have ht:=xT hT;have hlen:(O.take (j+1)).length=j+1:=by rw[BL];omega
  have hl:0<(En.mk (O.take (j+1)) lo hi any).todo.length:=by show 0<(O.take (j+1)).length;omega
  have hd:=h.depth ht;replace hd:(O.take (j+1)).length<=31:=hd;have hs:=fj ht h hl;have hw:=fh ht h hl;have htop:FF (O.take (j+1))=O.getD j default:=by
   unfold FF;rw[hlen,BY,BY,C3,BX AG];rfl
  have hpop:F3 (O.take (j+1))=O.take j:=by
   unfold F3;rw[hlen,List.take_take];congr 1;omega
  have ew:eW (j+1)=(j:Int):=by
   unfold eW;rw[show ic (j+1-0)-1=(j:Int) by simp only[ic];omega];exact ER AG AG
  have ej:0+(eW (j+1)).toNat=j:=by rw[ew];omega
  have ex:eX O (j+1)=FF (O.take (j+1)):=by unfold eX;rw[ej,htop]
  have ha:=h.at_ _ _ (UG hl).2;replace ha:((((O.take (j+1)).length-1:Nat)):Int)<=IH (FF (O.take (j+1)))/\IH (FF (O.take (j+1)))<ic l.length:=ha;have i1:AE (ic (j+1-0)>0)=AC:=AL (by simp only[ic];omega);have i2:(AE (0<=eW (j+1))&&AE (eW (j+1)<ic (j+1-0)))=AC:=by rw[ew,AL AG,AL (by simp only[ic];omega)];rfl
  have i3:(AE (0<=eW (j+1))&&AE (eW (j+1)<=ic (j+1-0)))=AC:=by rw[ew,AL AG,AL (by simp only[ic];omega)];rfl
  rw[D8,Sk,i1,DQ,i2,DQ,i3,DQ,ej,ex,AL (show 0<=IH (FF (O.take (j+1))) by omega),AL ha.2,BR,DQ];unfold hU at hs hw;simp only[FJ,hpop]at hs hw;have eWdef:J8 l (FF (O.take (j+1)))=(l.getD (IH (FF (O.take (j+1)))).toNat default).toInt:=rfl;rw[<-eWdef]at hs hw;have hfk:(DT (J8 l (FF (O.take (j+1))))).lf=AD->HC (DT (J8 l (FF (O.take (j+1))))).f=AC:=λhf=>by
   have hk:(IH (FF (O.take (j+1)))).toNat<l.length:=by have:=ha.2;simp only[ic]at this;omega
   have:=(ht.fork _ hk hf).1
   replace this:0<=(DT (J8 l (FF (O.take (j+1))))).f/\(DT (J8 l (FF (O.take (j+1))))).f<4:=this;unfold HC;rw[AL this.1,AL AG];rfl
  generalize J8 l (FF (O.take (j+1)))=wd at hs hw hfk ⊢;generalize KG (FF (O.take (j+1)))=vb at hs hw ⊢;cases hnb:FQ wd with
  |false=>
   rw[BF,DQ];simp only[hnb,BF,Bool.true_or,B5]at hs hw;exact aM N hT hb c O j lo hi any AG hs AG
  |true=>
   rw[A9,DR];simp only[hnb,A9,vaF]at hs hw;cases he:vb.emp with
   |true=>
    rw[DQ];simp only[he,B5]at hs hw;exact aM N hT hb c O j lo hi any AG hs AG
   |false=>
    rw[DR];simp only[he,BK]at hs hw;cases hlf:(DT wd).lf with
    |true=>
     rw[A9,DR];simp only[hlf,A9,BK]at hs hw;cases any with
     |false=>
      rw[BF,DQ];exact aM N hT hb c O j _ _ AC AG hs AG
     |true=>
      rw[A9,DR];exact aM N hT hb c O j _ _ AC AG hs AG
    |false=>
     rw[BF,DQ];simp only[hlf,BF,B5]at hs hw;have e2:∀v1 v2:IV,(O.take j++[v1,v2]).take (j+2)=O.take j++[v1,v2]:=λv1 v2=>C2 (by simp only[A2,BL,AV,BN];omega)
     rw[hfk hlf,DQ,AL (show(j+2)*88<=EL by unfold EL;omega),DQ];refine aM N hT hb c _ (j+2) lo hi any (by simp only[A2,BL,AV,BN];omega) ?_ ?_
     .rw[e2];exact hs
     .rw[e2];omega
theorem zdL:D6 PR B0 212 dS:=by
 refine EF [(124,QV),(174,LX),(51,NA)] [(3,⟨[0,4,5,6,7,8,9],[500],[⟨.tmp 9,500,273,AC,mL⟩]⟩)] dS [[.z],[.z]] Tryz.func212 oi ⟨oE,ZB,cB,trivial⟩ ?_;intro vs r hwf h;unfold dS at h;split at h
 .rename_i l b;replace h:=JJ h;obtain⟨b,rfl,h⟩:=h;cases hg:(GP l 4&&goodB b)with
  |false=>rw[hg]at h;simp[R.get]at h
  |true=>
  rw[hg,R.get_br,DQ,R.get_ok]at h;rw[AQ]at hg;refine⟨3^31+1,(zu (3^31+1) l b).trans ?_⟩;rw[<-h];have hgd:=aQ.1 hg.2;refine aM (3^31+1) hg.1 hgd (3^31+1) [RM 0 b] 1 0 0 AD (A4 _) (fi (xT hg.1) hgd.ok) ?_;show Q5 [RM 0 b]<3^31+1;unfold Q5;simp only[A8,CN,vbb,List.sum_nil,ZJ];show 3^31+0<3^31+1;omega
 .simp[R.get]at h
open Go Go.Proofs
def ZX(N:Nat):Env:=EE [(124,QV),(173,fN)] [(6,⟨[4,5,6,7,19,20,21],[500,501],[⟨.tmp 6,500,37,AC,ET⟩,⟨.tmp 7,501,37,AC,ET⟩]⟩)] 75 N
open Go Go.Proofs
set_option maxRecDepth 100000
def SL(l L:LI)(n:Nat)(out:LI)(m:Nat)(i:Int):St:=⟨[(4,.zs),(5,.bool AD),(6,.row 500 0 n),(7,.row 501 0 m),(19,.list AC EO l),(20,.i (ic l.length)),(21,.i i)],[(500,AA (.row AC 37 AC ET L)),(501,AA (.row AC 37 AC ET out))]⟩
abbrev sV:KP:=⟨[4,5,6,7,19,20,21],[500,501],[⟨.tmp 6,500,37,AC,ET⟩,⟨.tmp 7,501,37,AC,ET⟩]⟩
def u7(p:Int)(f:Nat->DU):DU:=cond (AE (p=ic 0)) (f 0) (cond (AE (p=ic 1)) (f 1) (cond (AE (p=ic 2)) (f 2) (cond (AE (p=ic 3)) (f 3) (cond (AE (p=ic 4)) (f 4) AB))))
def LL(n:Nat):Int:=AI AJ (ic (n-0)-1)
def pX(L:LI)(n:Nat):IV:=L.getD (0+(LL n).toNat) default
noncomputable abbrev mJ(N:Nat):Out->St->DU:=DW 0 (DX (ZX N) (DS aE [1,1,1,1,1]) (D2 (ZX N) AB [.tmp 4,.tmp 5] [[.list AC ET],[.bool]]))
theorem zar(N:Nat)(l:LI)(b:Bx):EA (ZX N) aE [.tmp 4,.tmp 5] [[.list AC ET],[.bool]] [b.V,.list AC EO l]=
 cond (!decide (MP l>0)) (AA (.tup [.list AC ET [],.bool AD],[])) (D3 (ZX N) (DS aE [1,1,1,1,0,1,0,0]) sV N (SL l [b.I] 1 [] 0 0) (mJ N)):=AF
theorem jp(N:Nat)(l L out:LI)(n m:Nat)(i:Int):mJ N (.exit 0) (SL l L n out m i)=AA (.tup [.list AC ET (AU m out),.bool AC],[]):=AF
theorem Fp(N:Nat)(l L out:LI)(n m:Nat)(i:Int):mJ N .ret (SL l L n out m i)=AA (.tup [.list AC ET [],.bool AD],[]):=AF
theorem Sv(N:Nat)(l L out:LI)(n m:Nat)(i:Int)(again:St->DU)(k:Out->St->DU):EY (ZX N) (DS aE [1,1,1,1,0,1,0,0]) (SL l L n out m i) (ES again sV k)=
 cond (AE (i<ic l.length)) (cond (AE (0<=i)&&AE (i<ic l.length)) (cond (AE (0<=LL n)&&AE (LL n<ic (n-0))) (cond (AE (0<=LL n)&&AE (LL n<=ic (n-0)))
 (cond (I1 (l.getD i.toNat default)) (cond (AE ((m+1)*80<=EL)) (again (SL l L (0+(LL n).toNat) (out.take m++[(EG (pX L n)).I]) (m+1) (D7 (i+1)))) AB)
 (u7 (FP (l.getD i.toNat default)) λj=>cond (AE (GE (l.getD i.toNat default)<cI (pX L n) (2*j))) (k .ret (SL l L (0+(LL n).toNat) out m i))
 (u7 (FP (l.getD i.toNat default)) λj=>cond (AE (GE (l.getD i.toNat default)>=cI (pX L n) (2*j+1))) (k .ret (SL l L (0+(LL n).toNat) out m i))
 (cond (HC (FP (l.getD i.toNat default))) (cond (AE ((0+(LL n).toNat+2)*80<=EL))
 (again (SL l (L.take (0+(LL n).toNat)++[((EG (pX L n)).cutH (FP (l.getD i.toNat default)) (GE (l.getD i.toNat default))).I,((EG (pX L n)).cutL (FP (l.getD i.toNat default)) (GE (l.getD i.toNat default))).I]) (0+(LL n).toNat+2) out m (D7 (i+1)))) AB) AB)))) AB) AB) AB)
 (k (.exit 0) (SL l L n out m i)):=AF
theorem Ll{p:Int}{a:Nat}(h:p=(a:Int))(ha:a<5)(f:Nat->DU):u7 p f=f a:=by
 subst h
 match a,ha with
 |0,_=>rfl
 |1,_=>rfl
 |2,_=>rfl
 |3,_=>rfl
 |4,_=>rfl
 |n+5,h=>omega
theorem bd(x:IV):∀{a:Nat},a<5->(EG x).g a=⟨cI x (2*a),cI x (2*a+1)⟩
 |0,_=>rfl
 |1,_=>rfl
 |2,_=>rfl
 |3,_=>rfl
 |4,_=>rfl
 |n+5,h=>by omega
def vE(o:Option (List IV×LI)):DU:=match o with
 |some lo=>AA (.tup [.list AC ET lo.2,.bool AC],[])
 |none=>AA (.tup [.list AC ET [],.bool AD],[])
theorem vG(N:Nat)(l:LI)(hl:l.length<=65536):∀(d c i:Nat) (L:LI) (n:Nat) (out:LI) (most:Int) (st:Int×Int),i+d=l.length->d<c->n<=L.length->n<=i+1->out.length<=i->J6 (l.drop i) (ic n,most)=AA st->
  D3 (ZX N) (DS aE [1,1,1,1,0,1,0,0]) sV c (SL l L n out out.length (i:Int)) (mJ N)=vE (I7 (l.drop i) (L.take n,out))
 |d,0,_,_,_,_,_,_,_,h,_,_,_,_=>absurd h AG
 |0,c+1,i,L,n,out,most,st,hd,_,_,_,_,_=>by
  rw[D8,Sv,IZ AG,DR,DC AG,jp,BS];rfl
 |d+1,c+1,i,L,n,out,most,st,hd,hc,hn,hn2,ho,hdp=>by
  have hi:i<l.length:=by omega
  rw[BJ hi,J6]at hdp;rw[D8,Sv,HY hi,DQ,IM,BR,DQ,IX hi,BJ hi,I7];have ei:D7 ((i:Int)+1)=((i+1:Nat):Int):=GM AG;rw[ei];generalize l[i]=x at hdp ⊢;cases h1:NJ (ic n,most) x with
  |none=>rw[h1]at hdp;cases hdp
  |some s1=>
   rw[h1]at hdp;obtain⟨hne,hr,hcase⟩:=lM h1;obtain⟨j,rfl⟩:∃j,n=j+1:=⟨n-1,by simp only[ic]at hne;omega⟩;have hlen:(L.take (j+1)).length=j+1:=by rw[BL];omega
   have htop:FF (L.take (j+1))=L.getD j default:=by
    unfold FF;rw[hlen,BY,BY,C3,BX AG];rfl
   have hpop:F3 (L.take (j+1))=L.take j:=by
    unfold F3;rw[hlen,List.take_take];congr 1;omega
   have ew:LL (j+1)=(j:Int):=by
    unfold LL;rw[show ic (j+1-0)-1=(j:Int) by simp only[ic];omega];exact ER AG AG
   have ej:0+(LL (j+1)).toNat=j:=by rw[ew];omega
   have ex:pX L (j+1)=FF (L.take (j+1)):=by unfold pX;rw[ej,htop]
   have i2:(AE (0<=LL (j+1))&&AE (LL (j+1)<ic (j+1-0)))=AC:=by rw[ew,AL AG,AL (by simp only[ic];omega)];rfl
   have i3:(AE (0<=LL (j+1))&&AE (LL (j+1)<=ic (j+1-0)))=AC:=by rw[ew,AL AG,AL (by simp only[ic];omega)];rfl
   have et:EC (L.take (j+1))=EG (FF (L.take (j+1))):=rfl;rw[i2,DQ,i3,DQ,ej,ex];unfold MY;simp only[hpop,et];generalize FF (L.take (j+1))=y;rcases hcase with⟨hs,rfl⟩|⟨hs,rfl⟩
   .rw[hs,DQ,DQ,AL (show(out.length+1)*80<=EL by unfold EL;omega),DQ,BS]
    have:=vG N l hl d c (i+1) L j (out++[(EG y).I]) most st AG AG AG AG (by simp only[A2,AV,BN];omega) (by rw[show ic j=ic (j+1)-1 by simp only[ic];omega];exact hdp)
    rw[show(out++[(EG y).I]).length=out.length+1 by simp]at this;exact this
   .have hpl:=nZ hr hs;obtain⟨a,ha⟩:∃a:Nat,FP x=(a:Int):=⟨(FP x).toNat,by omega⟩;have ha5:a<5:=by omega
    rw[hs,DR,DR,Ll ha ha5,Ll ha ha5];have eg:=bd y ha5;rw[show(FP x).toNat=a by omega,eg];show cond (AE (GE x<cI y (2*a))) _ _=vE (match cond (AE (GE x<cI y (2*a))||decide (GE x>=cI y (2*a+1))) AB _ with|some st'=>I7 (l.drop (i+1)) st'|none=>AB);cases AE (GE x<cI y (2*a))with
    |true=>rw[DQ,Fp,Bool.true_or,DQ];rfl
    |false=>
     rw[DR,vaF];cases AE (GE x>=cI y (2*a+1))with
     |true=>rw[DQ,Fp,DQ];rfl
     |false=>
      have hin:HC (FP x)=AC:=by unfold HC;rw[AL hpl.1,AL AG];rfl
      rw[DR,DR,hin,DQ,AL (show(j+2)*80<=EL by unfold EL;omega),DQ];have e2:∀v1 v2:IV,(L.take j++[v1,v2]).take (j+2)=L.take j++[v1,v2]:=λv1 v2=>C2 (by simp only[A2,BL,AV,BN];omega)
      have:=vG N l hl d c (i+1) (L.take j++[((EG y).cutH (FP x) (GE x)).I,((EG y).cutL (FP x) (GE x)).I]) (j+2) out (max most (ic (j+1)+1)) st AG AG (by simp only[A2,BL,AV,BN];omega) AG AG (by rw[show ic (j+2)=ic (j+1)+1 by simp only[ic];omega];exact hdp)
      rw[e2]at this;exact this
theorem zew:D6 PR B0 117 fO:=by
 refine EF [(124,QV),(173,fN)] [(6,⟨[4,5,6,7,19,20,21],[500,501],[⟨.tmp 6,500,37,AC,ET⟩,⟨.tmp 7,501,37,AC,ET⟩]⟩)] fO [[.list AC [.z,.z,.z,.z,.z,.z,.z,.z,.z,.z]],[.bool]] Tryz.func117 rh ⟨oE,zev,trivial⟩ ?_;intro vs r hwf h;unfold fO at h;split at h
 .rename_i b l;replace h:=JJ h;obtain⟨b,rfl,h⟩:=h;rw[R.get_br]at h;refine⟨l.length+1,(zar (l.length+1) l b).trans ?_⟩;cases hd:AE (MP l>0)with
  |false=>
   have e:LQ b l=AB:=by unfold LQ;rw[hd,DR]
   rw[e]at h;rw[BF,DQ];exact h
  |true=>
   obtain⟨st,hst⟩:=qY (BB hd);have hl:l.length<=65536:=by
    have:=BB hd
    unfold MP at this;by_cases hc:ic l.length>65536
    .rw[AL hc,DQ]at this;omega
    .simp only[ic]at hc;omega
   have run:=vG (l.length+1) l hl l.length (l.length+1) 0 [b.I] 1 [] 1 st AG AG (A4 _) AG (A4 _) hst;rw[CD]at run;have e:LQ b l=(I7 l ([b.I],[])).map (·.2):=by unfold LQ;rw[hd,DQ]
   rw[A9,DR];refine Eq.trans run ?_;show vE (I7 l ([b.I],[]))=_;rw[e]at h;cases hp:I7 l ([b.I],[])with
   |none=>rw[hp]at h;exact h
   |some lo=>rw[hp]at h;exact h
 .simp[R.get]at h
open Go Go.Proofs
theorem qH(N:Nat)(ts:LI)(b:Bx)(k:Int)(hts:ts.length<=8)(hT:∀t∈ts,GP (E3 t) 4=AC)(hb:goodB b=AC):∀(m i n:Nat) (lo hi:Int),i+m=ts.length->m<n->(-2147483648*(i+1)<=lo/\lo<=2147483648*(i+1))->(-2147483648*(i+1)<=hi/\hi<=2147483648*(i+1))->
  D3 (HB N) (DS JD [1,1,1,0,1,0,0]) ⟨[1,5,6,7,8,9,40,41,42],[5],[]⟩ n ⟨[(1,(.i k)),(5,(.ptr 5 0 0)),(6,(.i 0)),(7,(.i 0)),(8,(.i lo)),(9,(.i hi)),(40,(.list AC G7 ts)),(41,(.i (ic ts.length))),(42,(.i (i:Int)))],[(5,(AA (.box (Bx.cs b))))]⟩ (DW 0 (DX (HB N) (DS JD [1,1,1,1]) (D2 (HB N) AB [(B7 6),(B7 7)] [[.z],[.z]])))=
   AA (.tup [.i (JN (λl=>IT l b) k (ts.drop i) lo),.i (JN (λl=>IS l b) k (ts.drop i) hi)],[])
 |m,i,0,_,_,_,h,_,_=>absurd h AG
 |0,i,n+1,lo,hi,hd,_,_,_=>by
  have hlt:i=ts.length:=by omega
  subst hlt;rw[D8,Rv,IZ (A4 _),DR,C8];exact gw N b _ _ _ _ _ _ _ _
 |m+1,i,n+1,lo,hi,hd,hn,h1,h2=>by
  have hlt:i<ts.length:=by omega
  have ei:AI AJ ((i:Int)+1)=((i+1:Nat):Int):=GM AG;rw[D8,Rv,ei,HY hlt,DQ,IM,BR,DQ,IX hlt,BJ hlt,JN,JN];obtain⟨q1,q2⟩:=oR (E3 ts[i]) b;have q1:=OC q1;have q2:=OC q2;have hti:GP (IV.toList (IV.cell ts[i] 1)) 4=AC:=hT _ (C0 hlt);cases((ts[i].cell 0).toInt==k)with
  |true=>
   rw[DQ,DQ,DQ,hti,hb,BR,DQ];have ew:AI AJ (lo+IT (E3 ts[i]) b)=lo+IT (E3 ts[i]) b:=ER AG AG;have ew2:AI AJ (hi+IS (E3 ts[i]) b)=hi+IS (E3 ts[i]) b:=ER AG AG;have ih:=qH N ts b k hts hT hb m (i+1) n (lo+IT (E3 ts[i]) b) (hi+IS (E3 ts[i]) b) AG AG AG AG;rw[<-ew,<-ew2]at ih;refine Eq.trans ih ?_;rw[ew,ew2]
  |false=>
   rw[DR,DR,DR];exact qH N ts b k hts hT hb m (i+1) n lo hi AG AG AG AG
theorem zdK:D6 PR B0 175 dR:=by
 refine EF [(174,LX),(212,dS),(49,M9)] [(5,⟨[1,5,6,7,8,9,40,41,42],[5],[]⟩)] dR [[.z],[.z]] Tryz.func175 oh ⟨ZB,zdL,cA,trivial⟩ ?_;intro vs r hwf h;unfold dR at h;split at h
 .rename_i m k b;replace h:=II h;obtain⟨m,rfl,h⟩:=h;replace h:=JJ h;obtain⟨b,rfl,h⟩:=h;cases hg:(b.emp||goodB b)with
  |false=>rw[hg]at h;simp[R.get]at h
  |true=>
  rw[hg,R.get_br,DQ,R.get_ok]at h;refine⟨10,?_⟩;rw[<-h];refine(xu 10 m k b).trans ?_;unfold EK EI HG;cases hm:EU m with
  |false=>rfl
  |true=>
   rw[A9,DR];cases h0:AE (k<0)with
   |true=>
    have:HQ m k=AD:=by unfold HQ;rw[AS (show¬ 0<=k by have:=BB h0;omega)];rfl
    rw[this];rfl
   |false=>
    rw[DR];cases h1:AE (k>=m.c)with
    |true=>
     have:HQ m k=AD:=by unfold HQ;rw[AS (show¬k<m.c by have:=BB h1;omega),DE]
     rw[this];rfl
    |false=>
     have hc:HQ m k=AC:=by unfold HQ;rw[AL (show 0<=k by have:=BM h0;omega),AL (show k<m.c by have:=BM h1;omega)];rfl
     rw[DR,hc];cases he:b.emp with
     |true=>rfl
     |false=>
      rw[he,vaF]at hg;have hb:=gO hm k;have run:=qH 10 m.ts b k (KC hm).2.2.1 (λt ht=>cG hm ht) hg m.ts.length 0 10 (L0 m k) (L0 m k) AG (by have:=(KC hm).2.2.1;omega) AG AG;rw[DR];rcases lC hm hc with rfl|rfl|rfl<;>exact run
 .simp[R.get]at h
theorem wG(N:Nat)(m:Md)(q:Qy)(b:Bx)(hb:(b.emp||goodB b)=AC):∀(d i n:Nat),((i+d:Nat):Int)=m.c->d<n->m.c<1000->
  D3 (MF N) (DS OZ [1,1,1,0,1,0,1,1,1,0,0,1,0,0]) ⟨[3,4,5,6,7,42,43],[3,4,5],[]⟩ n ⟨[(3,(.ptr 3 0 0)),(4,(.ptr 4 0 0)),(5,(.ptr 5 0 0)),(6,(.bool AD)),(7,(.i (EK m q.c b))),(42,(.i m.c)),(43,(.i (i:Int)))],[(3,(AA (.box (Md.cs m)))),(4,(AA (.box (Qy.cs q)))),(5,(AA (.box (Bx.cs b))))]⟩ (DW 1 (DX (MF N) (DS OZ [1,1,1,0,1,0,1,1,1,0,1]) (DW 0 (DX (MF N) (DS OZ [1,1,1,1]) (D2 (MF N) AB [(B7 6)] [[.bool]])))))=AA (.bool (X1 m q b d i),[])
 |d,i,0,_,h,_=>absurd h AG
 |0,i,n+1,hd,_,_=>by
  rw[D8,Rw,AS (show¬(i:Int)<m.c by omega),DR];exact gx N m q b _ _ _ _
 |d+1,i,n+1,hd,hn,hc=>by
  have ei:AI AJ ((i:Int)+1)=((i+1:Nat):Int):=GM AG;rw[D8,Rw,ei,AL (show(i:Int)<m.c by omega),DQ,hb,DQ,X1];have en:((i:Int)!=q.c)=!((i:Int)==q.c):=rfl;rw[en];cases((i:Int)==q.c)with
  |true=>
   rw[A9,DR,BP,DR];exact wG N m q b hb d (i+1) n AG AG hc
  |false=>
   rw[BF,DQ,BI];cases AE (EI m (i:Int) b>=EK m q.c b)with
   |true=>
    rw[DQ,DQ];exact gy N m q b _ _ _ _
   |false=>
    rw[DR,DR];exact wG N m q b hb d (i+1) n AG AG hc
theorem zdM:D6 PR B0 118 dT:=by
 refine EF [(174,LX),(175,dR)] [(9,⟨[3,4,5,6,7,42,43],[3,4,5],[]⟩)] dT [[.bool]] Tryz.func118 oj ⟨ZB,zdK,trivial⟩ ?_;intro vs r hwf h;unfold dT at h;split at h
 .rename_i m q b;replace h:=II h;obtain⟨m,rfl,h⟩:=h;replace h:=JB h;obtain⟨q,rfl,h⟩:=h;replace h:=JJ h;obtain⟨b,rfl,h⟩:=h;cases hg:(E8 m q&&(b.emp||goodB b))with
  |false=>rw[hg]at h;simp[R.get]at h
  |true=>
  rw[hg,R.get_br,DQ,R.get_ok]at h;rw[AQ]at hg;obtain⟨hr,hb⟩:=hg;have hb':b.emp=AC\/b.good:=by
   rw[vap]at hb;exact hb.imp id aQ.1
  refine⟨1000,?_⟩;rw[<-h,<-zdn hr hb'];refine(xw 1000 m q b).trans ?_;obtain⟨hm,_,_,_,hk⟩:=bT hr;unfold wF;cases he:b.emp with
  |true=>rfl
  |false=>
   have hgd:goodB b=AC:=by rw[he,vaF]at hb;exact hb
   rw[DR,DR,hgd,vaF,DQ];rcases aW hk with⟨e,_⟩|⟨e,h2,_⟩|⟨e,hf,_⟩
   .rw[e];show cond (AE (q.lo<=EK m q.c b)) (AA (V.bool (AE (EI m q.c b<=q.hi)),[])) (AA (V.bool AD,[]))=AA (V.bool (AE (q.lo<=EK m q.c b)&&AE (EI m q.c b<=q.hi)),[]);cases AE (q.lo<=EK m q.c b)<;>rfl
   .rw[e];have hc:=(KC hm).2.1;exact wG 1000 m q b (by rw[he,hgd];rfl) m.c.toNat 0 1000 AG AG AG
   .rw[e];have hp:=nS hm e hf;have hg2:goodB (LU q b)=AC:=aQ.2 (V1 (aQ.1 hgd) ((aQ.1 hgd) 4 AG) (by rcases QJ hp with e|e|e|e<;>rw[e]<;>decide));have fin:(cond (AE ((b.g q.ft.toNat).lo>=b.s4.hi)) (AA (V.bool AC,[])) (cond ((LU q b).emp||goodB (LU q b)) (cond q.fl (AA (V.bool (AE (EI m q.c (LU q b)<=EK m q.c b)),[])) (AA (V.bool (AE (EK m q.c (LU q b)>=EI m q.c b)),[]))) AB):DU)=
      AA (V.bool (cond (AE ((b.g q.ft.toNat).lo>=b.s4.hi)) AC (cond q.fl (AE (EI m q.c (LU q b)<=EK m q.c b)) (AE (EK m q.c (LU q b)>=EI m q.c b)))),[]):=by
     rw[hg2,Bool.or_true,DQ];cases AE ((b.g q.ft.toNat).lo>=b.s4.hi)<;>cases q.fl<;>rfl
    refine Eq.trans ?_ fin;unfold LU;rcases QJ hp with e|e|e|e<;>rw[e]<;>rfl
 .simp[R.get]at h
theorem Mb(N:Nat)(m:Md)(q:Qy)(hr:E8 m q=AC)(l:LI)(hl:l.length<100000)(hg:∀y∈l,(EG y).good):∀(d i n:Nat),i+d=l.length->d<n->
  D3 (KI N) (DS MM [1,1,1,0,1,0,1,0,1,0,1,0,0]) ⟨[3,4,6,9,29,30,31],[3,4],[]⟩ n ⟨[(3,(.ptr 3 0 0)),(4,(.ptr 4 0 0)),(6,(.bool AD)),(9,(.bool AC)),(29,(.list AC ET l)),(30,(.i (ic l.length))),(31,(.i (i:Int)))],[(3,(AA (.box (Md.cs m)))),(4,(AA (.box (Qy.cs q))))]⟩ (DW 1 (DX (KI N) (DS MM [1,1,1,0,1,0,1,0,1,1]) (DW 0 (DX (KI N) (DS MM [1,1,1,1]) (D2 (KI N) AB [(B7 6)] [[.bool]])))))=
   AA (.bool ((l.drop i).all λx=>G4 m q (EG x)),[])
 |d,i,0,_,h=>absurd h AG
 |0,i,n+1,hd,_=>by
  rw[D8,xF,IZ AG,DR,DC AG];exact Fo N m q _ _ l _ _
 |d+1,i,n+1,hd,hn=>by
  have hi:i<l.length:=by omega
  have hgi:=hg _ (C0 hi);rw[D8,xF,HY hi,DQ,IM,BR,DQ,GM AG,IX hi,BJ hi,van,hr,aQ.2 hgi,Bool.or_true,BR,DQ];cases G4 m q (EG l[i])with
  |false=>
   rw[BF,DQ];exact gv N m q _ _ l _ _
  |true=>
   rw[A9,DR,BI];exact Mb N m q hr l hl hg d (i+1) n AG AG
theorem zcd{b:Bx}{l outs:LI}(h:LQ b l=AA outs):outs.length<=65536:=by
 have key:∀{l:LI} {st lo:LI×LI},I7 l st=AA lo->lo.2.length<=st.2.length+l.length:=by
  intro l
  induction l with
  |nil=>intro st lo h;obtain rfl:=CB h;exact A4 _
  |cons x l ih=>
   intro st lo h;rw[I7]at h;cases h1:MY st x with
   |none=>rw[h1]at h;cases h
   |some s1=>
    rw[h1]at h
    have:=ih h
    have h2:s1.2.length<=st.2.length+1:=by
     unfold MY at h1;cases hs:I1 x with
     |true=>rw[hs]at h1;obtain rfl:=CB h1;simp
     |false=>
      rw[hs,DR]at h1;cases hc:(AE (GE x<((EC st.1).g (FP x).toNat).lo)||decide (GE x>=((EC st.1).g (FP x).toNat).hi))with
      |true=>rw[hc]at h1;cases h1
      |false=>rw[hc]at h1;obtain rfl:=CB h1;exact Nat.le_succ _
    simp only[AV];omega
 unfold LQ at h;cases hd:AE (MP l>0)with
 |false=>rw[hd,DR]at h;cases h
 |true=>
  rw[hd,DQ]at h;have hl:l.length<=65536:=by
   have:=BB hd
   unfold MP at this;by_cases hc:ic l.length>65536
   .rw[AL hc,DQ]at this;omega
   .simp only[ic]at hc;omega
  cases hp:I7 l ([b.I],[])with
  |none=>rw[hp]at h;cases h
  |some lo=>
   rw[hp]at h;obtain rfl:=CB h
   have:=key hp
   simp only[BN]at this;show lo.2.length<=65536;omega
theorem Pp:D6 PR B0 54 XB:=by
 refine EF [(119,dJ),(118,dT),(117,fO),(62,XI),(93,NB),(38,XJ)] [(8,⟨[3,4,6,9,29,30,31],[3,4],[]⟩)] XB [[.bool]] Tryz.func54 og ⟨zdC,zdM,zew,Qa,cC,Qb,trivial⟩ ?_;intro vs r hwf h;unfold XB at h;split at h
 .rename_i m q v;replace h:=II h;obtain⟨m,rfl,h⟩:=h;replace h:=JB h;obtain⟨q,rfl,h⟩:=h;replace h:=Vm h;obtain⟨v,rfl,h⟩:=h;rw[R.get_ok]at h;refine⟨70000,?_⟩;rw[<-h];refine(xt 70000 m q v).trans ?_;unfold NS;cases hr:E8 m q with
  |false=>rfl
  |true=>
   rw[A9,DR,BI];cases v.kind==1 with
   |true=>
    rw[DQ,DQ];cases hp:LQ (FG q) v.proof with
    |none=>
     show cond AD _ _=_;rw[DR,D8,xF];exact Fo 70000 m q _ _ [] _ _
    |some l=>
     show cond AC _ _=_;rw[DQ];have hl:=zcd hp
     have:=Mb 70000 m q hr l AG (Mc (WD hr) hp) l.length 0 70000 AG AG
     rw[CD]at this;exact this
   |false=>
    rw[DR,DR];cases v.kind==2 with
    |false=>rfl
    |true=>
     rw[DQ,DQ];show cond ((FG q).has v.p v.twin) (AA (V.bool (GH m q v.p v.twin),[])) (AA (V.bool AD,[]))=AA (V.bool ((FG q).has v.p v.twin&&GH m q v.p v.twin),[]);cases(FG q).has v.p v.twin<;>rfl
 .simp[R.get]at h
open Go Go.Proofs
def RW(N:Nat):Env:=EE [] [(4,⟨[2,13,14,15],[],[]⟩)] 37 N
abbrev PQ(b2:Bool)(l13:LI)(x14 x15:Int):St:=⟨[(2,(.bool b2)),(13,(.list AC [.bool,.z,.z] l13)),(14,(.i x14)),(15,(.i x15))],[]⟩
theorem xq(N:Nat)(l:LI):EA (RW N) VF [.tmp 2] [[.bool]] [.list AC [.bool,.z,.z] l]=(cond (AE (ic (AN l)<1)) (AA (.bool AD,[])) (cond (AE (ic (AN l)>65536)) (AA (.bool AD,[])) (D3 (RW N) (DS VF [1,1,0,1,0,0]) ⟨[2,13,14,15],[],[]⟩ N (PQ AD l (ic (AN l)) 0) (DW 0 (DX (RW N) (DS VF [1,1,1]) (D2 (RW N) AB [.tmp 2] [[.bool]])))))):=AF
theorem Ru(N:Nat)(b2:Bool)(l13:LI)(x14 x15:Int)(again:St->DU)(k:Out->St->DU):EY (RW N) (DS VF [1,1,0,1,0,0]) (PQ b2 l13 x14 x15) (ES again ⟨[2,13,14,15],[],[]⟩ k)=(cond (AE (x15<x14)) (cond (AE (0<=x15)&&AE (x15<ic (AN l13))) (cond (IV.toBool (IV.cell (AR l13 (AM x15) default) 0)) (cond (! (IV.toBool (IV.cell (AR l13 (AM x15) default) 0)==AC&&(IV.toInt (IV.cell (AR l13 (AM x15) default) 1)==0&&(IV.toInt (IV.cell (AR l13 (AM x15) default) 2)==0&&AC)))) (k .ret (PQ AD l13 x14 x15)) (cond (AE (IV.toInt (IV.cell (AR l13 (AM x15) default) 1)<0)) (k .ret (PQ AD l13 x14 x15)) (cond (AE (IV.toInt (IV.cell (AR l13 (AM x15) default) 1)>4)) (k .ret (PQ AD l13 x14 x15)) (again (PQ b2 l13 x14 (AI AJ (x15+1))))))) (cond (AE (IV.toInt (IV.cell (AR l13 (AM x15) default) 1)<0)) (k .ret (PQ AD l13 x14 x15)) (cond (AE (IV.toInt (IV.cell (AR l13 (AM x15) default) 1)>4)) (k .ret (PQ AD l13 x14 x15)) (again (PQ b2 l13 x14 (AI AJ (x15+1))))))) AB) (k (.exit 0) (PQ b2 l13 x14 x15))):=AF
theorem gt(N:Nat)(b2:Bool)(l13:LI)(x14 x15:Int):(DW 0 (DX (RW N) (DS VF [1,1,1]) (D2 (RW N) AB [.tmp 2] [[.bool]]))) (.exit 0) (PQ b2 l13 x14 x15)=(AA (.bool AC,[])):=AF
theorem gu(N:Nat)(b2:Bool)(l13:LI)(x14 x15:Int):(DW 0 (DX (RW N) (DS VF [1,1,1]) (D2 (RW N) AB [.tmp 2] [[.bool]]))) .ret (PQ b2 l13 x14 x15)=(AA (.bool b2,[])):=AF
def Wl(N:Nat):Env:=EE [(104,dQ)] [] 47 N
theorem xl(N:Nat)(u00:Int)(u01:LI)(u04 u05 u06 u07 u03 u02:Int):EA (Wl N) Au [.tmp 2] [[.bool]] [.agg [.i u00,.list AC [.bool,.z,.z] u01,.i u04,.i u05,.i u06,.i u07,.i u03,.i u02]]=(cond (AE (u02<0)) (AA (.bool AD,[])) (cond (AE (u02>65536)) (AA (.bool AD,[])) (cond (u04==0&&(u05==0&&(u06==0&&(u07==0&&AC)))) (cond (u00==1) (cond (u03==0) (AA (.bool (UE u01),[])) (AA (.bool AD,[]))) (cond (u00==2) (AA (.bool (ic (AN u01)==0),[])) (cond (u00==3) (cond (u03==0) (AA (.bool (ic (AN u01)==0),[])) (AA (.bool AD,[]))) (cond (u00==4) (cond (u03==0) (AA (.bool (ic (AN u01)==0),[])) (AA (.bool AD,[]))) (AA (.bool AD,[])))))) (cond (u00==1) (AA (.bool AD,[])) (cond (u00==2) (AA (.bool (ic (AN u01)==0),[])) (cond (u00==3) (AA (.bool AD,[])) (cond (u00==4) (AA (.bool AD,[])) (AA (.bool AD,[]))))))))):=AF
def UX(N:Nat):Env:=EE [(42,PZ),(105,ZZ),(94,U3)] [(2,⟨[0,11,12,13],[900000],[]⟩)] 26 N
abbrev cW(l11:LI)(x12 x13:Int)(u00:BA):St:=⟨[(0,(.ptr 900000 0 0)),(11,(.list AD [.z] l11)),(12,(.i x12)),(13,(.i x13))],[(900000,(AA (.bld u00)))]⟩
theorem xm(N:Nat)(b word:BA)(l:LI):EA (UX N) X5 [] [] [.bor [.bld b],.str word,.list AD [.z] l]=(cond (AE (AP b+AP word<=strMax)) (D3 (UX N) (DS X5 [1,0,1,0,0]) ⟨[0,11,12,13],[900000],[]⟩ N (cW l (ic (AN l)) 0 (b++word)) (DW 0 (DX (UX N) (DS X5 [1,1]) (D2 (UX N) (AA [.bld b]) [] [])))) AB):=AF
theorem Rt(N:Nat)(l11:LI)(x12 x13:Int)(u00:BA)(again:St->DU)(k:Out->St->DU):EY (UX N) (DS X5 [1,0,1,0,0]) (cW l11 x12 x13 u00) (ES again ⟨[0,11,12,13],[900000],[]⟩ k)=(cond (AE (x13<x12)) (cond (AE (0<=x13)&&AE (x13<ic (AN l11))) (cond (AE (AP u00+1<=strMax)) (cond (AE (AP (ByteArray.push u00 (N7 32))+AP (DZ (IV.toInt (AR l11 (AM x13) default)))<=strMax)) (again (cW l11 x12 (AI AJ (x13+1)) (ByteArray.push u00 (N7 32)++DZ (IV.toInt (AR l11 (AM x13) default))))) AB) AB) AB) (k (.exit 0) (cW l11 x12 x13 u00))):=AF
theorem gl(N:Nat)(b:BA)(l11:LI)(x12 x13:Int)(u00:BA):(DW 0 (DX (UX N) (DS X5 [1,1]) (D2 (UX N) (AA [.bld b]) [] []))) (.exit 0) (cW l11 x12 x13 u00)=(cond (AE (AP u00+1<=strMax)) (AA (.tup [],[[.bld (ByteArray.push u00 (N7 10))]])) AB):=AF
def Wm(N:Nat):Env:=EE [(122,R0)] [] 20 N
theorem xn(N:Nat)(l:LI)(i:Int):EA (Wm N) Av [.tmp 4] [[.z]] [.list AD [.str] l,.i i]=(cond (AE (i>=ic (AN l))) (AA (.i 0,[])) (cond (AE (0<=i)&&AE (i<ic (AN l))) (AA (.i (FT (IV.toStr (AR l (AM i) default))),[])) AB)):=AF
open Go Go.Proofs
theorem To(N:Nat)(l:LI)(K:Out->St->DU)(hl:l.length<=65536)
  (hx:∀b2 x14 x15,K (.exit 0) ⟨[(2,(.bool b2)),(13,(.list AC [.bool,.z,.z] l)),(14,(.i x14)),(15,(.i x15))],[]⟩=AA (.bool AC,[]))
  (hr:∀b2 x14 x15,K .ret ⟨[(2,(.bool b2)),(13,(.list AC [.bool,.z,.z] l)),(14,(.i x14)),(15,(.i x15))],[]⟩=AA (.bool b2,[])):
  ∀(d i n:Nat),i+d=l.length->d<n->D3 (RW N) (DS VF [1,1,0,1,0,0]) ⟨[2,13,14,15],[],[]⟩ n ⟨[(2,(.bool AD)),(13,(.list AC [.bool,.z,.z] l)),(14,(.i (ic l.length))),(15,(.i (i:Int)))],[]⟩ K=AA (.bool ((l.drop i).all cE),[])
 |0,i,n+1,hd,_=>by
  rw[D8,Ru];rw[IZ AG,DC AG];simp only[BK,List.all_nil];exact hx ..
 |d+1,i,n+1,hd,hn=>by
  rw[D8,Ru];have hi:i<l.length:=by omega
  rw[HY hi,IM,GM AG,IX hi,BJ hi,van];generalize l[i]=x;have ih:=To N l K hl hx hr d (i+1) n AG AG;rw[ih];generalize(A3 (i+1) l).all cE=rest;unfold cE I1 FP GE;simp only[B5,CK,qU,qV,U7];cases hs:IV.toBool (IV.cell x 0)<;>cases hp0:AE (IV.toInt (IV.cell x 1)<0)<;>cases hp4:AE (4<IV.toInt (IV.cell x 1))<;>cases hz:AE (IV.toInt (IV.cell x 1)=0)<;>cases ha:AE (IV.toInt (IV.cell x 2)=0)<;>
   (simp only[B5,BK,A9,BF,CK,DE,BI,BP,DF,hr]
    try rfl)
 |0,_,0,_,h=>by omega
 |_+1,_,0,_,h=>by omega
theorem zdJ:D6 PR B0 104 dQ:=by
 refine EF [] [(4,⟨[2,13,14,15],[],[]⟩)] dQ [[.bool]] Tryz.func104 oe trivial ?_;intro vs r hwf h;unfold dQ at h;split at h
 .rename_i l;refine⟨l.length+1,?_⟩;rw[<-h];refine(xq (l.length+1) l).trans ?_;simp only[R.get_ok];unfold UE;by_cases h1:l.length<1
  .have e1:AE (ic l.length<1)=AC:=AL (by show((l.length:Nat):Int)<1;omega);have e2:AE (1<=l.length)=AD:=AS AG;rw[e1,e2];rfl
  .have e1:AE (ic l.length<1)=AD:=AS (by show¬((l.length:Nat):Int)<1;omega);have e2:AE (1<=l.length)=AC:=AL AG;rw[e1,e2];simp only[BK,BI];by_cases h3:l.length<=65536
   .have e3:AE (ic l.length>65536)=AD:=AS (by show¬((l.length:Nat):Int)>65536;omega);have e4:AE (l.length<=65536)=AC:=AL h3;rw[e3,e4];simp only[BK,BI]
    have:=To (l.length+1) l _ h3 (λb2 x14 x15=>gt (l.length+1) b2 l x14 x15) (λb2 x14 x15=>gu (l.length+1) b2 l x14 x15) l.length 0 (l.length+1) AG AG
    rw[CD]at this;exact this
   .have e3:AE (ic l.length>65536)=AC:=AL (by show((l.length:Nat):Int)>65536;omega);have e4:AE (l.length<=65536)=AD:=AS h3;rw[e3,e4];rfl
 .simp[R.get]at h
theorem ux(l:LI):(ic l.length==0)=l.isEmpty:=by
 cases l with
 |nil=>rfl
 |cons a l=>
  simp only[ic,List.isEmpty_cons,AV];rw[BH];omega
theorem zdF:D6 PR B0 45 dM:=by
 refine EF [(104,dQ)] [] dM [[.bool]] Tryz.func45 nz ⟨zdJ,trivial⟩ ?_;intro vs r hwf h;unfold dM at h;split at h
 .rename_i k p a b c d t s;refine⟨0,?_⟩;rw[<-h];refine(xl 0 k p a b c d t s).trans ?_;simp only[R.get_ok,ux];unfold Vd.right Vd.bare;simp only[qU,qV,CK];generalize UE p=sp;generalize p.isEmpty=pe;cases AE (s<0)<;>cases AE (65536<s)<;>simp only[B5,BK,A9,BF,BI,BP]
  by_cases k1:k=1
  .subst k1;cases a==0<;>cases b==0<;>cases c==0<;>cases d==0<;>cases t==0<;>cases sp<;>cases pe<;>rfl
  by_cases k2:k=2
  .subst k2;cases a==0<;>cases b==0<;>cases c==0<;>cases d==0<;>cases t==0<;>cases sp<;>cases pe<;>rfl
  by_cases k3:k=3
  .subst k3;cases a==0<;>cases b==0<;>cases c==0<;>cases d==0<;>cases t==0<;>cases sp<;>cases pe<;>rfl
  by_cases k4:k=4
  .subst k4;cases a==0<;>cases b==0<;>cases c==0<;>cases d==0<;>cases t==0<;>cases sp<;>cases pe<;>rfl
  simp only[BH.2 k1,BH.2 k2,BH.2 k3,BH.2 k4,BK,BP,Bool.or_false,Bool.cond_self]
 .simp[R.get]at h
theorem nJ:∀(l:LI) (s:BA),s.size<=(QH s l).size
 |[],s=>A4 _
 |x::l,s=>by
  simp only[QH];refine DD ?_ (nJ l _);simp only[BC,va5];omega
theorem Io(N:Nat)(l:LI)(K:Out->St->DU)(hl:l.length<=strMax)(z:DU)
  (hx:∀s x12 x13,s=QH s []->K (.exit 0) ⟨[(0,(.ptr 900000 0 0)),(11,(.list AD [.z] l)),(12,(.i x12)),(13,(.i x13))],[(900000,(AA (.bld s)))]⟩=cond (AE (s.size+1<=strMax)) (AA (.tup [],[[.bld (s.push (N7 10))]])) AB):
  ∀(d i n:Nat) (s:BA),i+d=l.length->d<n->(QH s (l.drop i)).size<=strMax->D3 (UX N) (DS X5 [1,0,1,0,0]) ⟨[0,11,12,13],[900000],[]⟩ n ⟨[(0,(.ptr 900000 0 0)),(11,(.list AD [.z] l)),(12,(.i (ic l.length))),(13,(.i (i:Int)))],[(900000,(AA (.bld s)))]⟩ K=
   cond (AE ((QH s (l.drop i)).size+1<=strMax)) (AA (.tup [],[[.bld ((QH s (l.drop i)).push (N7 10))]])) AB
 |0,i,n+1,s,hd,_,_=>by
  rw[D8,Rt,IZ AG,DC AG];simp only[BK,QH];exact hx s _ _ rfl
 |d+1,i,n+1,s,hd,hn,hs=>by
  have hi:i<l.length:=by omega
  unfold strMax at hl;rw[D8,Rt,HY hi,IM,GM AG,IX hi];rw[BJ hi]at hs ⊢;simp only[QH]at hs ⊢;have e32:N7 32=32:=rfl;rw[e32];have hsz:=nJ (l.drop (i+1)) (s.push 32++DZ l[i].toInt);have h1:AE (s.size+1<=strMax)=AC:=AL (by
   simp only[BC,va5]at hsz;omega)
  have h2:AE ((s.push 32).size+(DZ l[i].toInt).size<=strMax)=AC:=AL (by
   simp only[BC]at hsz;omega)
  rw[h1,h2];simp only[B5,CK];exact Io N l K (by unfold strMax;omega) z hx d (i+1) n _ AG AG hs
 |0,_,0,_,_,h,_=>by omega
 |_+1,_,0,_,_,h,_=>by omega
theorem zdG:D6 PR B0 46 dN:=by
 refine EF [(42,PZ),(105,ZZ),(94,U3)] [(2,⟨[0,11,12,13],[900000],[]⟩)] dN [] Tryz.func46 oa ⟨jV,Qg,wV,trivial⟩ ?_;intro vs r hwf h;unfold dN at h;split at h
 .rename_i s w l;refine⟨l.length+1,?_⟩;rw[<-h];refine(xm (l.length+1) s w l).trans ?_;simp only[R.get_br,R.get_ok,R.get_no];have hwf:=hwf (by simp[MX,FX]);simp only[UK,SU,wfLs,wfL]at hwf;rw[R.get_br,R.get_ok,R.get_no]at h;cases hc:AE ((HD s w l).size<=strMax)with
  |false=>rw[hc]at h;cases h
  |true=>
   have hle:=BB hc;unfold HD at hle ⊢;rw[va5]at hle;have h1:=nJ l (s++w);have e1:AE (s.size+w.size<=strMax)=AC:=AL (by rw[BC]at h1;omega);rw[e1];simp only[B5]
   have:=Io (l.length+1) l _ hwf.2.2.1.1 AB (λs' x12 x13 _=>gl (l.length+1) s l x12 x13 s') l.length 0 (l.length+1) (s++w) AG AG (by rw[CD];omega)
   rw[CD]at this;refine this.trans ?_;rw[AL hle];rfl
 .simp[R.get]at h
theorem zdH:D6 PR B0 180 dO:=by
 refine EF [(122,R0)] [] dO [[.z]] Tryz.func180 oc ⟨oH,trivial⟩ ?_;intro vs r hwf h;unfold dO at h;split at h
 .rename_i l i;refine⟨0,?_⟩;rw[<-h];refine(xn 0 l i).trans ?_;simp only[R.get_br,R.get_ok,R.get_no];unfold GV;rw[R.get_br,R.get_ok,R.get_no]at h;cases hc:AE (0<=i)with
  |false=>rw[hc]at h;cases h
  |true=>
   have h0:=BB hc;simp only[B5,BI];have e:AE (i>=ic l.length)=AE (ic l.length<=i):=rfl;rw[e];cases h2:AE (ic l.length<=i)with
   |true=>rfl
   |false=>
    have h3:=BM h2;rw[AL (show i<ic l.length by omega)];rfl
 .simp[R.get]at h
open Go Go.Proofs
def HP(N:Nat):Env:=EE [(180,dO),(82,U4),(64,N6)] [(7,⟨[2,4,7],[2,7,51],[⟨.cell 7 1,51,101,AC,[.bool,.z,.z]⟩]⟩),(16,⟨[2,6,7,66],[2,7],[]⟩)] 87 N
abbrev WQ(s4:BA)(u01 u02 u03 u04 u05 u06 u07 u08:Int)(u00:Nat)(u09 u0a u0b u0c u0d u0e:Int)(lo51:LI):St:=⟨[(2,(.ptr 2 0 0)),(4,(.str s4)),(7,(.ptr 7 0 0))],[(2,(AA (.box [.i u01,.zs,.i u02,.i u03,.i u04,.i u05,.i u06,.i u07]))),(7,(AA (.box [.i u08,.row 51 0 u00,.i u09,.i u0a,.i u0b,.i u0c,.i u0d,.i u0e]))),(51,(AA (.row AC 101 AC EO lo51)))]⟩
abbrev UO(l6:LI)(x66 u00 u01 u02 u03 u04 u05 u06 u07 u08 u09 u0a u0b u0c u0d:Int):St:=⟨[(2,(.ptr 2 0 0)),(6,(.list AD [.str] l6)),(7,(.ptr 7 0 0)),(66,(.i x66))],[(2,(AA (.box [.i u00,.zs,.i u01,.i u02,.i u03,.i u04,.i u05,.i u06]))),(7,(AA (.box [.i u07,.zs,.i u08,.i u09,.i u0a,.i u0b,.i u0c,.i u0d])))]⟩
theorem xp(N:Nat)(s:BA):EA (HP N) IK [.cell 2 50] [[.z,.list AC [.bool,.z,.z],.z,.z,.z,.z,.z,.z]] [.str s]=(cond (AE (AP s<4294967281)) (cond (AE (AP (cutL s {data:=#[10]})<4294967281)&&AE (1<=AP {data:=#[32]})) (cond (AE (0<=0)&&AE (0<ic (AN (BG IV.str (EH (cutL s {data:=#[10]}) {data:=#[32]}))))) (cond (A7 (IV.toStr (AR (BG IV.str (EH (cutL s {data:=#[10]}) {data:=#[32]})) (AM 0) default))==A7 {data:=#[104,111,108,100,115]}) (D3 (HP N) (DS IK [1,1,1,1,0,1,0,1,0,1,0,0]) ⟨[2,4,7],[2,7,51],[⟨(.cell 7 1),51,101,AC,EO⟩]⟩ N (WQ (GA s {data:=#[10]}) 0 0 0 0 0 0 0 1 0 0 0 0 0 0 (GV (BG IV.str (EH (cutL s {data:=#[10]}) {data:=#[32]})) 1) []) (DW 1 (DW 0 (DX (HP N) (DS IK [1,1,1,1,1]) (D2 (HP N) AB [.cell 2 50] [[.z,.list AC EO,.z,.z,.z,.z,.z,.z]]))))) (cond (A7 (IV.toStr (AR (BG IV.str (EH (cutL s {data:=#[10]}) {data:=#[32]})) (AM 0) default))==A7 {data:=#[102,97,105,108,115]}) (D3 (HP N) (DS IK [1,1,1,1,0,1,0,1,1,1,0,1,0,1,0,0]) ⟨[2,6,7,66],[2,7],[]⟩ N (UO (BG IV.str (EH (cutL s {data:=#[10]}) {data:=#[32]})) 0 0 0 0 0 0 0 0 2 0 0 0 0 0 (GV (BG IV.str (EH (cutL s {data:=#[10]}) {data:=#[32]})) 1)) (DW 3 (DX (HP N) (DS IK [1,1,1,1,0,1,0,1,1,1,0,1,1]) (DW 0 (DX (HP N) (DS IK [1,1,1,1,1]) (D2 (HP N) AB [.cell 2 50] [[.z,.list AC EO,.z,.z,.z,.z,.z,.z]])))))) (cond (A7 (IV.toStr (AR (BG IV.str (EH (cutL s {data:=#[10]}) {data:=#[32]})) (AM 0) default))==A7 {data:=#[117,110,107,110,111,119,110]}) (AA ((.agg [.i 3,.list AC EO [],.i 0,.i 0,.i 0,.i 0,.i 0,(.i (GV (BG IV.str (EH (cutL s {data:=#[10]}) {data:=#[32]})) 1))]),[])) (cond (A7 (IV.toStr (AR (BG IV.str (EH (cutL s {data:=#[10]}) {data:=#[32]})) (AM 0) default))==A7 {data:=#[119,114,111,110,103]}) (AA ((.agg [.i 4,.list AC EO [],.i 0,.i 0,.i 0,.i 0,.i 0,(.i (GV (BG IV.str (EH (cutL s {data:=#[10]}) {data:=#[32]})) 1))]),[])) (AA ((.agg [.i 0,.list AC EO [],.i 0,.i 0,.i 0,.i 0,.i 0,(.i (GV (BG IV.str (EH (cutL s {data:=#[10]}) {data:=#[32]})) 1))]),[])))))) AB) AB) AB):=AF
theorem ze5(N:Nat)(s4:BA)(u01 u02 u03 u04 u05 u06 u07 u08:Int)(u00:Nat)(u09 u0a u0b u0c u0d u0e:Int)(lo51:LI)(again:St->DU)(k:Out->St->DU):EY (HP N) (DS IK [1,1,1,1,0,1,0,1,0,1,0,0]) (WQ s4 u01 u02 u03 u04 u05 u06 u07 u08 u00 u09 u0a u0b u0c u0d u0e lo51) (ES again ⟨[2,4,7],[2,7,51],[⟨(.cell 7 1),51,101,AC,EO⟩]⟩ k)=(cond (!A7 s4==A7 {data:=#[]}) (cond (AE (ic (u00-0)<=65536)) (cond (AE (AP s4<4294967281)) (cond (AE (AP (cutL s4 {data:=#[10]})<4294967281)&&AE (1<=AP {data:=#[32]})) (cond (AE (0<=0)&&AE (0<ic (AN (BG IV.str (EH (cutL s4 {data:=#[10]}) {data:=#[32]}))))) (cond (A7 (IV.toStr (AR (BG IV.str (EH (cutL s4 {data:=#[10]}) {data:=#[32]})) (AM 0) default))==A7 {data:=#[115,117,109]}) (cond (AE ((u00+1)*24<=EL)) (again (WQ (GA s4 {data:=#[10]}) u01 u02 u03 u04 u05 u06 u07 u08 (u00+1) u09 u0a u0b u0c u0d u0e (AU u00 lo51++[IV.agg [IV.bool AC,IV.int 0,IV.int 0]]))) AB) (cond (AE ((u00+1)*24<=EL)) (again (WQ (GA s4 {data:=#[10]}) u01 u02 u03 u04 u05 u06 u07 u08 (u00+1) u09 u0a u0b u0c u0d u0e (AU u00 lo51++[IV.agg [IV.bool AD,IV.int (GV (BG IV.str (EH (cutL s4 {data:=#[10]}) {data:=#[32]})) 1),IV.int (GV (BG IV.str (EH (cutL s4 {data:=#[10]}) {data:=#[32]})) 2)]]))) AB)) AB) AB) AB) (k (.exit 1) (WQ s4 u01 u02 u03 u04 u05 u06 u07 u08 u00 u09 u0a u0b u0c u0d u0e lo51))) (k (.exit 1) (WQ s4 u01 u02 u03 u04 u05 u06 u07 u08 u00 u09 u0a u0b u0c u0d u0e lo51))):=AF
theorem jZ(N:Nat)(l6:LI)(x66 u00 u01 u02 u03 u04 u05 u06 u07 u08 u09 u0a u0b u0c u0d:Int)(again:St->DU)(k:Out->St->DU):EY (HP N) (DS IK [1,1,1,1,0,1,0,1,1,1,0,1,0,1,0,0]) (UO l6 x66 u00 u01 u02 u03 u04 u05 u06 u07 u08 u09 u0a u0b u0c u0d) (ES again ⟨[2,6,7,66],[2,7],[]⟩ k)=(cond (AE (x66<4)) (cond (AE (0<=AI AJ (2+x66))) (cond (AE (x66=ic 0)) (again (UO l6 (AI AJ (x66+1)) u00 u01 u02 u03 u04 u05 u06 u07 (GV l6 (AI AJ (2+x66))) u09 u0a u0b u0c u0d)) (cond (AE (x66=ic 1)) (again (UO l6 (AI AJ (x66+1)) u00 u01 u02 u03 u04 u05 u06 u07 u08 (GV l6 (AI AJ (2+x66))) u0a u0b u0c u0d)) (cond (AE (x66=ic 2)) (again (UO l6 (AI AJ (x66+1)) u00 u01 u02 u03 u04 u05 u06 u07 u08 u09 (GV l6 (AI AJ (2+x66))) u0b u0c u0d)) (cond (AE (x66=ic 3)) (again (UO l6 (AI AJ (x66+1)) u00 u01 u02 u03 u04 u05 u06 u07 u08 u09 u0a (GV l6 (AI AJ (2+x66))) u0c u0d)) AB)))) AB) (k (.exit 3) (UO l6 x66 u00 u01 u02 u03 u04 u05 u06 u07 u08 u09 u0a u0b u0c u0d))):=AF
theorem gn(N:Nat)(s4:BA)(u01 u02 u03 u04 u05 u06 u07 u08:Int)(u00:Nat)(u09 u0a u0b u0c u0d u0e:Int)(lo51:LI):(DW 1 (DW 0 (DX (HP N) (DS IK [1,1,1,1,1]) (D2 (HP N) AB [.cell 2 50] [[.z,.list AC EO,.z,.z,.z,.z,.z,.z]])))) (.exit 1) (WQ s4 u01 u02 u03 u04 u05 u06 u07 u08 u00 u09 u0a u0b u0c u0d u0e lo51)=(AA (.agg [.i u08,.list AC EO (A3 0 (AU u00 lo51)),.i u09,.i u0a,.i u0b,.i u0c,.i u0d,.i u0e],[])):=AF
theorem gq(N:Nat)(l6:LI)(x66 u00 u01 u02 u03 u04 u05 u06 u07 u08 u09 u0a u0b u0c u0d:Int):(DW 3 (DX (HP N) (DS IK [1,1,1,1,0,1,0,1,1,1,0,1,1]) (DW 0 (DX (HP N) (DS IK [1,1,1,1,1]) (D2 (HP N) AB [.cell 2 50] [[.z,.list AC EO,.z,.z,.z,.z,.z,.z]]))))) (.exit 3) (UO l6 x66 u00 u01 u02 u03 u04 u05 u06 u07 u08 u09 u0a u0b u0c u0d)=(AA (.agg [.i u07,.list AC EO [],.i u08,.i u09,.i u0a,.i u0b,.i (GV l6 6),.i u0d],[])):=AF
def UW(N:Nat):Env:=EE [(45,dM),(46,dN),(47,U2)] [(9,⟨[2,3,25,26,27],[3],[]⟩)] 61 N
abbrev ZP(s2:BA)(l25:LI)(x26 x27:Int)(so3:BA):St:=⟨[(2,(.str s2)),(3,(.ptr 3 0 0)),(25,(.list AC EO l25)),(26,(.i x26)),(27,(.i x27))],[(3,(AA (.bld so3)))]⟩
theorem xk(N:Nat)(v:Vd):EA (UW N) X4 [.tmp 2] [[.str]] [(Vd.V v)]=(cond (!Vd.right v) (AA ((.str ({data:=#[]})),[])) (cond (Vd.kind v==1) (cond (AE (AP (HD CQ {data:=#[104,111,108,100,115]} [IV.int (Vd.spent v),IV.int (ic (AN (Vd.proof v)))])<=strMax)) (D3 (UW N) (DS X4 [1,1,1,0,1,0,1,0,1,1,0,0]) ⟨[2,3,25,26,27],[3],[]⟩ N (ZP ({data:=#[]}) (Vd.proof v) (ic (AN (Vd.proof v))) 0 (HD CQ {data:=#[104,111,108,100,115]} [IV.int (Vd.spent v),IV.int (ic (AN (Vd.proof v)))])) (DW 1 (DW 0 (DX (UW N) (DS X4 [1,1,1,1]) (D2 (UW N) AB [.tmp 2] [[.str]]))))) AB) (cond (Vd.kind v==2) (cond (AE (AP (HD CQ {data:=#[102,97,105,108,115]} (A3 0 (AU (1+4+1) (AU (1+4) (AU 1 [IV.int (Vd.spent v)]++[IV.int (Vd.w0 v),IV.int (Vd.w1 v),IV.int (Vd.w2 v),IV.int (Vd.w3 v)])++[IV.int (Vd.twin v)]))))<=strMax)) (AA ((.str (HD CQ {data:=#[102,97,105,108,115]} (A3 0 (AU (1+4+1) (AU (1+4) (AU 1 [IV.int (Vd.spent v)]++[IV.int (Vd.w0 v),IV.int (Vd.w1 v),IV.int (Vd.w2 v),IV.int (Vd.w3 v)])++[IV.int (Vd.twin v)]))))),[])) AB) (cond (Vd.kind v==3) (cond (AE (AP (HD CQ {data:=#[117,110,107,110,111,119,110]} [IV.int (Vd.spent v)])<=strMax)) (AA ((.str (HD CQ {data:=#[117,110,107,110,111,119,110]} [IV.int (Vd.spent v)])),[])) AB) (cond (AE (AP (HD CQ {data:=#[119,114,111,110,103]} [IV.int (Vd.spent v)])<=strMax)) (AA ((.str (HD CQ {data:=#[119,114,111,110,103]} [IV.int (Vd.spent v)])),[])) AB))))):=AF
theorem Rs(N:Nat)(s2:BA)(l25:LI)(x26 x27:Int)(so3:BA)(again:St->DU)(k:Out->St->DU):EY (UW N) (DS X4 [1,1,1,0,1,0,1,0,1,1,0,0]) (ZP s2 l25 x26 x27 so3) (ES again ⟨[2,3,25,26,27],[3],[]⟩ k)=(cond (AE (x27<x26)) (cond (AE (0<=x27)&&AE (x27<ic (AN l25))) (cond (IV.toBool (IV.cell (AR l25 (AM x27) default) 0)) (cond (AE (AP (HD so3 {data:=#[115,117,109]} [])<=strMax)) (again (ZP s2 l25 x26 (AI AJ (x27+1)) (HD so3 {data:=#[115,117,109]} []))) AB) (cond (AE (AP (HD so3 {data:=#[99,117,116]} [IV.int (IV.toInt (IV.cell (AR l25 (AM x27) default) 1)),IV.int (IV.toInt (IV.cell (AR l25 (AM x27) default) 2))])<=strMax)) (again (ZP s2 l25 x26 (AI AJ (x27+1)) (HD so3 {data:=#[99,117,116]} [IV.int (IV.toInt (IV.cell (AR l25 (AM x27) default) 1)),IV.int (IV.toInt (IV.cell (AR l25 (AM x27) default) 2))]))) AB)) AB) (k (.exit 1) (ZP s2 l25 x26 x27 so3))):=AF
theorem gk(N:Nat)(s2:BA)(l25:LI)(x26 x27:Int)(so3:BA):(DW 1 (DW 0 (DX (UW N) (DS X4 [1,1,1,1]) (D2 (UW N) AB [.tmp 2] [[.str]])))) (.exit 1) (ZP s2 l25 x26 x27 so3)=(AA (.str so3,[])):=AF
def Wk(N:Nat):Env:=EE [(11,XA),(123,dP)] [] 17 N
theorem xj(N:Nat)(s:BA):EA (Wk N) As [.cell 2 50,.tmp 3] [[.z,.list AC [.bool,.z,.z],.z,.z,.z,.z,.z,.z],[.bool]] [.str s]=(cond (AE (AP s<4294967281)) (cond (A7 s==A7 {data:=#[]}) (AA (.tup [.agg [.i 0,.list AC EO [],.i 0,.i 0,.i 0,.i 0,.i 0,.i 0],.bool AD],[])) (cond (AE (AP (JI (KD s))<=strMax)) (cond (!A7 (JI (KD s))==A7 s) (AA (.tup [.agg [.i 0,.list AC EO [],.i 0,.i 0,.i 0,.i 0,.i 0,.i 0],.bool AD],[])) (AA (.tup [(Vd.V (KD s)),.bool AC],[]))) AB)) AB):=AF
open Go Go.Proofs
theorem zeY(s sep:BA)(h:1<=sep.size):0<((EH s sep).map IV.str).length:=by
 rw[BW];unfold EH;rw[Lib.splitB_all sep h 0 _ s rfl];omega
theorem xA(s:BA):AE (0<ic (AN (BG IV.str (EH s WK))))=AC:=AL (by
 have:=zeY s WK (by decide)
 simp only[ic];omega)
theorem Ej{s sep:BA}(h:s.size<4294967281):AE (AP (cutL s sep)<4294967281)=AC:=AL (by
 have:=(lI s sep).1
 omega)
theorem dh{s:BA}(h:(s.toList==EQ.toList)=AD):(GA s F6).size<s.size:=by
 have h0:0<s.size:=by
  rcases Nat.eq_zero_or_pos s.size with e|e
  .exfalso
   have:s=EQ:=ByteArray.ext (Array.eq_empty_of_size_eq_zero e)
   rw[this]at h;simp at h
  .exact e
 have h0:0<s.data.toList.length:=h0;show(Lib.cut s.data.toList F6.data.toList).2.1.toArray.size<s.data.toList.length;rw[DM];unfold Lib.cut;split
 .have e1:(F6.data.toList).length=1:=rfl;rw[DA,e1];omega
 .exact h0
theorem Fa:AE (1<=AP WK)=AC:=rfl
theorem Nc(N:Nat)(a0 a2 a3 a4 a5 a6 a7 b0 b2 b3 b4 b5 b6 b7:Int)(K:Out->St->DU)
  (hx:∀s (p:LI),K (.exit 1) ⟨[(2,(.ptr 2 0 0)),(4,(.str s)),(7,(.ptr 7 0 0))],[(2,(AA (.box [(.i a0),.zs,(.i a2),(.i a3),(.i a4),(.i a5),(.i a6),(.i a7)]))),(7,(AA (.box [(.i b0),(.row 51 0 p.length),(.i b2),(.i b3),(.i b4),(.i b5),(.i b6),(.i b7)]))),(51,(AA (.row AC 101 AC EO p)))]⟩=AA (.agg [(.i b0),(.list AC EO (A3 0 (AU p.length p))),(.i b2),(.i b3),(.i b4),(.i b5),(.i b6),(.i b7)],[])):
  ∀(m n:Nat) (s:BA) (p:LI),s.size<m->m<=n->s.size<4294967281->
   D3 (HP N) (DS IK [1,1,1,1,0,1,0,1,0,1,0,0]) ⟨[2,4,7],[2,7,51],[⟨(.cell 7 1),51,101,AC,EO⟩]⟩ n ⟨[(2,(.ptr 2 0 0)),(4,(.str s)),(7,(.ptr 7 0 0))],[(2,(AA (.box [(.i a0),.zs,(.i a2),(.i a3),(.i a4),(.i a5),(.i a6),(.i a7)]))),(7,(AA (.box [(.i b0),(.row 51 0 p.length),(.i b2),(.i b3),(.i b4),(.i b5),(.i b6),(.i b7)]))),(51,(AA (.row AC 101 AC EO p)))]⟩ K=
   AA (.agg [(.i b0),(.list AC EO (bO m s p)),(.i b2),(.i b3),(.i b4),(.i b5),(.i b6),(.i b7)],[])
 |m+1,n+1,s,p,hm,hn,hs=>by
  rw[D8,ze5];have ep:A3 0 (AU p.length p)=p:=by rw[CD,BS]
  have e65:AE (ic (p.length-0)<=65536)=AE (p.length<=65536):=by
   rw[vaB];simp only[AZ,ic];omega
  unfold bO;rw[e65];cases h1:(s.toList==EQ.toList)with
  |true=>
   simp only[A9,DR,BP];refine(hx s p).trans ?_;rw[ep]
  |false=>
   simp only[BF,DQ,BI];cases h2:AE (p.length<=65536)with
   |false=>
    simp only[DR];refine(hx s p).trans ?_;rw[ep]
   |true=>
    have h2:=BB h2;simp only[DQ];have hlt:=dh h1;rw[AL hs,Ej hs,Fa,xA];simp only[A4,decide_true,CK,DQ];rw[AL (show(p.length+1)*24<=EL by unfold EL;omega)];simp only[DQ];have el:∀x:IV,p.length+1=(p++[x]).length:=λx=>by
     rw[A2];rfl
    have ih:=λx:IV=>Nc N a0 a2 a3 a4 a5 a6 a7 b0 b2 b3 b4 b5 b6 b7 K hx m n (GA s F6) (p++[x]) AG AG AG
    unfold nV OT;have ez:AM 0=0:=rfl;rw[ez];unfold JE;cases h3:(A7 (IV.toStr (AR (BG IV.str (EH (cutL s F6) WK)) 0 default))==A7 WL)with
    |true=>
     simp only[DQ];rw[BS,el];exact ih _
    |false=>
     simp only[DR];rw[BS,el];exact ih _
 |0,_,_,_,h,_,_=>by omega
 |_+1,0,_,_,_,h,_=>by omega
theorem WJ{a b c:Int}(h:AI .i64 (a+b)=c):AI .i64 (a+b)=c:=h
theorem zcC(N n:Nat)(l:LI)(x w0 w1 w2 w3:Int)(K:Out->St->DU):D3 (HP N) (DS IK [1,1,1,1,0,1,0,1,1,1,0,1,0,1,0,0]) ⟨[2,6,7,66],[2,7],[]⟩ (n+1) ⟨[(2,(.ptr 2 0 0)),(6,(.list AD [.str] l)),(7,(.ptr 7 0 0)),(66,(.i 0))],[(2,(AA (.box [(.i 0),.zs,(.i 0),(.i 0),(.i 0),(.i 0),(.i 0),(.i 0)]))),(7,(AA (.box [(.i 2),.zs,(.i w0),(.i w1),(.i w2),(.i w3),(.i 0),(.i x)])))]⟩ K=
  D3 (HP N) (DS IK [1,1,1,1,0,1,0,1,1,1,0,1,0,1,0,0]) ⟨[2,6,7,66],[2,7],[]⟩ n ⟨[(2,(.ptr 2 0 0)),(6,(.list AD [.str] l)),(7,(.ptr 7 0 0)),(66,(.i 1))],[(2,(AA (.box [(.i 0),.zs,(.i 0),(.i 0),(.i 0),(.i 0),(.i 0),(.i 0)]))),(7,(AA (.box [(.i 2),.zs,(.i (GV l 2)),(.i w1),(.i w2),(.i w3),(.i 0),(.i x)])))]⟩ K:=by
 rw[D8,jZ,WJ (a:=2) (b:=0) (c:=2) rfl,WJ (a:=0) (b:=1) (c:=1) rfl];simp only[show AE ((0:Int)<4)=AC from rfl,show AE ((0:Int)<=2)=AC from rfl,show AE ((0:Int)=ic 0)=AC from rfl,DQ]
theorem zcD(N n:Nat)(l:LI)(x w0 w1 w2 w3:Int)(K:Out->St->DU):D3 (HP N) (DS IK [1,1,1,1,0,1,0,1,1,1,0,1,0,1,0,0]) ⟨[2,6,7,66],[2,7],[]⟩ (n+1) ⟨[(2,(.ptr 2 0 0)),(6,(.list AD [.str] l)),(7,(.ptr 7 0 0)),(66,(.i 1))],[(2,(AA (.box [(.i 0),.zs,(.i 0),(.i 0),(.i 0),(.i 0),(.i 0),(.i 0)]))),(7,(AA (.box [(.i 2),.zs,(.i w0),(.i w1),(.i w2),(.i w3),(.i 0),(.i x)])))]⟩ K=
  D3 (HP N) (DS IK [1,1,1,1,0,1,0,1,1,1,0,1,0,1,0,0]) ⟨[2,6,7,66],[2,7],[]⟩ n ⟨[(2,(.ptr 2 0 0)),(6,(.list AD [.str] l)),(7,(.ptr 7 0 0)),(66,(.i 2))],[(2,(AA (.box [(.i 0),.zs,(.i 0),(.i 0),(.i 0),(.i 0),(.i 0),(.i 0)]))),(7,(AA (.box [(.i 2),.zs,(.i w0),(.i (GV l 3)),(.i w2),(.i w3),(.i 0),(.i x)])))]⟩ K:=by
 rw[D8,jZ,WJ (a:=2) (b:=1) (c:=3) rfl,WJ (a:=1) (b:=1) (c:=2) rfl];simp only[show AE ((1:Int)<4)=AC from rfl,show AE ((0:Int)<=3)=AC from rfl,show AE ((1:Int)=ic 0)=AD from rfl,show AE ((1:Int)=ic 1)=AC from rfl,DQ,DR]
theorem zcE(N n:Nat)(l:LI)(x w0 w1 w2 w3:Int)(K:Out->St->DU):D3 (HP N) (DS IK [1,1,1,1,0,1,0,1,1,1,0,1,0,1,0,0]) ⟨[2,6,7,66],[2,7],[]⟩ (n+1) ⟨[(2,(.ptr 2 0 0)),(6,(.list AD [.str] l)),(7,(.ptr 7 0 0)),(66,(.i 2))],[(2,(AA (.box [(.i 0),.zs,(.i 0),(.i 0),(.i 0),(.i 0),(.i 0),(.i 0)]))),(7,(AA (.box [(.i 2),.zs,(.i w0),(.i w1),(.i w2),(.i w3),(.i 0),(.i x)])))]⟩ K=
  D3 (HP N) (DS IK [1,1,1,1,0,1,0,1,1,1,0,1,0,1,0,0]) ⟨[2,6,7,66],[2,7],[]⟩ n ⟨[(2,(.ptr 2 0 0)),(6,(.list AD [.str] l)),(7,(.ptr 7 0 0)),(66,(.i 3))],[(2,(AA (.box [(.i 0),.zs,(.i 0),(.i 0),(.i 0),(.i 0),(.i 0),(.i 0)]))),(7,(AA (.box [(.i 2),.zs,(.i w0),(.i w1),(.i (GV l 4)),(.i w3),(.i 0),(.i x)])))]⟩ K:=by
 rw[D8,jZ,WJ (a:=2) (b:=2) (c:=4) rfl,WJ (a:=2) (b:=1) (c:=3) rfl];simp only[show AE ((2:Int)<4)=AC from rfl,show AE ((0:Int)<=4)=AC from rfl,show AE ((2:Int)=ic 0)=AD from rfl,show AE ((2:Int)=ic 1)=AD from rfl,show AE ((2:Int)=ic 2)=AC from rfl,DQ,DR]
theorem zcF(N n:Nat)(l:LI)(x w0 w1 w2 w3:Int)(K:Out->St->DU):D3 (HP N) (DS IK [1,1,1,1,0,1,0,1,1,1,0,1,0,1,0,0]) ⟨[2,6,7,66],[2,7],[]⟩ (n+1) ⟨[(2,(.ptr 2 0 0)),(6,(.list AD [.str] l)),(7,(.ptr 7 0 0)),(66,(.i 3))],[(2,(AA (.box [(.i 0),.zs,(.i 0),(.i 0),(.i 0),(.i 0),(.i 0),(.i 0)]))),(7,(AA (.box [(.i 2),.zs,(.i w0),(.i w1),(.i w2),(.i w3),(.i 0),(.i x)])))]⟩ K=
  D3 (HP N) (DS IK [1,1,1,1,0,1,0,1,1,1,0,1,0,1,0,0]) ⟨[2,6,7,66],[2,7],[]⟩ n ⟨[(2,(.ptr 2 0 0)),(6,(.list AD [.str] l)),(7,(.ptr 7 0 0)),(66,(.i 4))],[(2,(AA (.box [(.i 0),.zs,(.i 0),(.i 0),(.i 0),(.i 0),(.i 0),(.i 0)]))),(7,(AA (.box [(.i 2),.zs,(.i w0),(.i w1),(.i w2),(.i (GV l 5)),(.i 0),(.i x)])))]⟩ K:=by
 rw[D8,jZ,WJ (a:=2) (b:=3) (c:=5) rfl,WJ (a:=3) (b:=1) (c:=4) rfl];simp only[show AE ((3:Int)<4)=AC from rfl,show AE ((0:Int)<=5)=AC from rfl,show AE ((3:Int)=ic 0)=AD from rfl,show AE ((3:Int)=ic 1)=AD from rfl,show AE ((3:Int)=ic 2)=AD from rfl,show AE ((3:Int)=ic 3)=AC from rfl,DQ,DR]
theorem zcG(N n:Nat)(l:LI)(x w0 w1 w2 w3:Int):D3 (HP N) (DS IK [1,1,1,1,0,1,0,1,1,1,0,1,0,1,0,0]) ⟨[2,6,7,66],[2,7],[]⟩ (n+1) ⟨[(2,(.ptr 2 0 0)),(6,(.list AD [.str] l)),(7,(.ptr 7 0 0)),(66,(.i 4))],[(2,(AA (.box [(.i 0),.zs,(.i 0),(.i 0),(.i 0),(.i 0),(.i 0),(.i 0)]))),(7,(AA (.box [(.i 2),.zs,(.i w0),(.i w1),(.i w2),(.i w3),(.i 0),(.i x)])))]⟩ (DW 3 (DX (HP N) (DS IK [1,1,1,1,0,1,0,1,1,1,0,1,1]) (DW 0 (DX (HP N) (DS IK [1,1,1,1,1]) (D2 (HP N) AB [(va6 2 50)] [[.z,(.list AC EO),.z,.z,.z,.z,.z,.z]])))))=
  AA (.agg [(.i 2),(.list AC EO []),(.i w0),(.i w1),(.i w2),(.i w3),(.i (GV l 6)),(.i x)],[]):=by
 rw[D8,jZ];simp only[show AE ((4:Int)<4)=AD from rfl,DR];exact gq N _ _ _ _ _ _ _ _ _ _ _ _ _ _ _ _
theorem zcH(N n:Nat)(l:LI)(x:Int):D3 (HP N) (DS IK [1,1,1,1,0,1,0,1,1,1,0,1,0,1,0,0]) ⟨[2,6,7,66],[2,7],[]⟩ (n+1+1+1+1+1) ⟨[(2,(.ptr 2 0 0)),(6,(.list AD [.str] l)),(7,(.ptr 7 0 0)),(66,(.i 0))],[(2,(AA (.box [(.i 0),.zs,(.i 0),(.i 0),(.i 0),(.i 0),(.i 0),(.i 0)]))),(7,(AA (.box [(.i 2),.zs,(.i 0),(.i 0),(.i 0),(.i 0),(.i 0),(.i x)])))]⟩ (DW 3 (DX (HP N) (DS IK [1,1,1,1,0,1,0,1,1,1,0,1,1]) (DW 0 (DX (HP N) (DS IK [1,1,1,1,1]) (D2 (HP N) AB [(va6 2 50)] [[.z,(.list AC EO),.z,.z,.z,.z,.z,.z]])))))=
  AA (.agg [(.i 2),(.list AC EO []),(.i (GV l 2)),(.i (GV l 3)),(.i (GV l 4)),(.i (GV l 5)),(.i (GV l 6)),(.i x)],[]):=
 (zcC N (n+1+1+1+1) l x 0 0 0 0 _).trans ((zcD N (n+1+1+1) l x _ 0 0 0 _).trans ((zcE N (n+1+1) l x _ _ 0 0 _).trans ((zcF N (n+1) l x _ _ _ 0 _).trans (zcG N n l x _ _ _ _))))
theorem zdI:D6 PR B0 123 dP:=by
 refine EF [(180,dO),(82,U4),(64,N6)] [(7,⟨[2,4,7],[2,7,51],[⟨.cell 7 1,51,101,AC,[.bool,.z,.z]⟩]⟩),(16,⟨[2,6,7,66],[2,7],[]⟩)] dP [[.z,.list AC [.bool,.z,.z],.z,.z,.z,.z,.z,.z]] Tryz.func123 od ⟨zdH,wW,cD,trivial⟩ ?_;intro vs r hwf h;unfold dP at h;split at h
 .rename_i s;refine⟨s.size+1+1+1+1+1+1,?_⟩;rw[<-h];refine(xp (s.size+1+1+1+1+1+1) s).trans ?_;simp only[R.get_br,R.get_ok,R.get_no];cases hs:AE (s.size<4294967281)with
  |false=>rfl
  |true=>
   have hs:=BB hs;simp only[DQ];rw[Ej hs,Fa,xA];simp only[A4,decide_true,CK,DQ];have ez:AM 0=0:=rfl;rw[ez];unfold KD OT JE;have hlt:=(lI s F6).2;generalize BG IV.str (EH (cutL s F6) WK)=l;generalize(A7 (IV.toStr (AR l 0 default))==A7 QR)=q1;generalize(A7 (IV.toStr (AR l 0 default))==A7 cM)=q2;generalize(A7 (IV.toStr (AR l 0 default))==A7 cN)=q3;generalize(A7 (IV.toStr (AR l 0 default))==A7 cO)=q4;cases q1
   .cases q2
    .cases q3
     .cases q4<;>simp only[DQ,DR]
     .simp only[DQ,DR]
    .simp only[DQ,DR];exact zcH _ (s.size+1) _ _
   .simp only[DQ];exact Nc _ _ _ _ _ _ _ _ _ _ _ _ _ _ _ _ (λs' p=>gn _ s' _ _ _ _ _ _ _ _ _ _ _ _ _ _ _ p) ((GA s F6).size+1) _ (GA s F6) [] AG AG AG
 .simp[R.get]at h
theorem Il(s w:BA)(l:LI):s.size<=(HD s w l).size:=by
 unfold HD
 have:=nJ l (s++w)
 rw[BC]at this;rw[va5];omega
theorem vC:∀(l:LI) (s:BA),s.size<=(SK s l).size
 |[],s=>A4 _
 |x::l,s=>by
  unfold SK;refine DD ?_ (vC l _);cases I1 x
  .exact Il _ _ _
  .exact Il _ _ _
theorem Lx(N:Nat)(l:LI)(t:BA)(K:Out->St->DU)(hl:l.length<=65536)
  (hx:∀s x26 x27,K (.exit 1) ⟨[(2,(.str t)),(3,(.ptr 3 0 0)),(25,(.list AC EO l)),(26,(.i x26)),(27,(.i x27))],[(3,(AA (.bld s)))]⟩=AA (.str s,[])):
  ∀(d i n:Nat) (s:BA),i+d=l.length->d<n->(SK s (l.drop i)).size<=strMax->
   D3 (UW N) (DS X4 [1,1,1,0,1,0,1,0,1,1,0,0]) ⟨[2,3,25,26,27],[3],[]⟩ n ⟨[(2,(.str t)),(3,(.ptr 3 0 0)),(25,(.list AC EO l)),(26,(.i (ic l.length))),(27,(.i (i:Int)))],[(3,(AA (.bld s)))]⟩ K=AA (.str (SK s (l.drop i)),[])
 |0,i,n+1,s,hd,_,_=>by
  rw[D8,Rs,IZ AG,DC (l:=l) (i:=i) AG];simp only[DR,SK];exact hx s _ _
 |d+1,i,n+1,s,hd,hn,hs=>by
  have hi:i<l.length:=by omega
  rw[D8,Rs,HY hi,IM,GM AG,IX hi];rw[BJ hi]at hs ⊢;simp only[SK]at hs ⊢;simp only[DQ,CK];have hsz:=vC (l.drop (i+1)) (cond (I1 l[i]) (HD s WL []) (HD s kC [.int (FP l[i]),.int (GE l[i])]));have ih:=λs' h'=>Lx N l t K hl hx d (i+1) n s' AG AG h'
  have es:(l[i].cell 0).toBool=I1 l[i]:=rfl;rw[es];cases hc:I1 l[i]with
  |true=>
   rw[hc]at hsz hs;simp only[DQ]at hsz hs ⊢;rw[AL (show(HD s WL []).size<=strMax by omega)];simp only[DQ];exact ih _ hs
  |false=>
   rw[hc]at hsz hs;simp only[DR]at hsz hs ⊢;have e2:[IV.int (IV.toInt (IV.cell l[i] 1)),IV.int (IV.toInt (IV.cell l[i] 2))]=[.int (FP l[i]),.int (GE l[i])]:=rfl;rw[e2,AL (show(HD s kC [.int (FP l[i]),.int (GE l[i])]).size<=strMax by omega)];simp only[DQ];exact ih _ hs
 |0,_,0,_,_,h,_=>by omega
 |_+1,_,0,_,_,h,_=>by omega
theorem zcT{v:Vd}(h:v.right=AC):v.proof.length<=65536:=by
 unfold Vd.right at h;simp only[AQ,vap]at h;rcases h.2.2 with h1|h1|h1
 .have:=h1.2.2
  unfold UE at this;simp only[AQ,AZ]at this;exact this.2.1
 .have:=h1.2
  cases hp:v.proof with
  |nil=>simp
  |cons a b=>rw[hp]at this;cases this
 .have:=h1.2.2
  cases hp:v.proof with
  |nil=>simp
  |cons a b=>rw[hp]at this;cases this
theorem Po:D6 PR B0 11 XA:=by
 refine EF [(45,dM),(46,dN),(47,U2)] [(9,⟨[2,3,25,26,27],[3],[]⟩)] XA [[.str]] Tryz.func11 ny ⟨zdF,zdG,wU,trivial⟩ ?_;intro vs r hwf h;unfold XA at h;split at h
 .rename_i k p a b c d t s;obtain⟨v,hv⟩:∃v:Vd,v=⟨k,p,a,b,c,d,t,s⟩:=⟨_,rfl⟩;refine⟨v.proof.length+1,?_⟩;rw[<-h];rw[<-hv]at h ⊢;have hn:=xk (v.proof.length+1) v;rw[show Vd.V v=.agg [.i k,.list AC [.bool,.z,.z] p,.i a,.i b,.i c,.i d,.i t,.i s] by rw[hv];rfl]at hn;refine hn.trans ?_;clear hn;rw[R.get_br,R.get_ok,R.get_no]at h;simp only[R.get_br,R.get_ok,R.get_no];cases hc:AE ((JI v).size<=strMax)with
  |false=>rw[hc]at h;cases h
  |true=>
   have hle:=BB hc;simp only[DQ];unfold JI at hle ⊢;cases hr:Vd.right v with
   |false=>rfl
   |true=>
    rw[hr]at hle;simp only[A9,DQ,DR]at hle ⊢;have e0:CQ=EQ:=rfl;simp only[e0];cases k1:v.kind==1 with
    |true=>
     rw[k1]at hle;simp only[DQ]at hle ⊢;have h1:=vC v.proof (HD EQ QR [.int v.spent,.int (ic v.proof.length)]);rw[AL (show(HD EQ QR [.int v.spent,.int (ic v.proof.length)]).size<=strMax by omega)];simp only[DQ]
     have:=Lx (v.proof.length+1) v.proof EQ _ (zcT hr) (λs' x26 x27=>gk (v.proof.length+1) EQ v.proof x26 x27 s') v.proof.length 0 (v.proof.length+1) (HD EQ QR [.int v.spent,.int (ic v.proof.length)]) AG AG (by rw[CD];exact hle)
     rw[CD]at this;exact this
    |false=>
     rw[k1]at hle;simp only[DR]at hle ⊢;cases k2:v.kind==2 with
     |true=>
      rw[k2]at hle;simp only[DQ]at hle ⊢;have ew:(A3 0 (AU (1+4+1) (AU (1+4) (AU 1 [IV.int (Vd.spent v)]++[IV.int (Vd.w0 v),IV.int (Vd.w1 v),IV.int (Vd.w2 v),IV.int (Vd.w3 v)])++[IV.int (Vd.twin v)])))=[.int v.spent,.int v.w0,.int v.w1,.int v.w2,.int v.w3,.int v.twin]:=rfl;rw[ew,AL hle];rfl
     |false=>
      rw[k2]at hle;simp only[DR]at hle ⊢;cases k3:v.kind==3 with
      |true=>
       rw[k3]at hle;simp only[DQ]at hle ⊢;rw[AL hle];rfl
      |false=>
       rw[k3]at hle;simp only[DR]at hle ⊢;rw[AL hle];rfl
 .simp[R.get]at h
theorem zdE:D6 PR B0 58 dL:=by
 refine EF [(11,XA),(123,dP)] [] dL [[.z,.list AC [.bool,.z,.z],.z,.z,.z,.z,.z,.z],[.bool]] Tryz.func58 nx ⟨Po,zdI,trivial⟩ ?_;intro vs r hwf h;unfold dL at h;split at h
 .rename_i s;refine⟨0,?_⟩;rw[<-h];refine(xj 0 s).trans ?_;simp only[R.get_br,R.get_ok,R.get_no]at h ⊢;cases h1:AE (s.size<4294967281)with
  |false=>rfl
  |true=>
   rw[h1]at h;simp only[DQ]at h ⊢;cases h2:AE ((JI (KD s)).size<=strMax)with
   |false=>rw[h2]at h;cases h
   |true=>
    simp only[DQ];unfold K6 bJ;cases h3:(s.toList==EQ.toList)with
    |true=>rfl
    |false=>
     cases h4:((JI (KD s)).toList==s.toList)with
     |true=>rfl
     |false=>rfl
 .simp[R.get]at h
open Go
abbrev ZM:BA:=⟨#[113,117,101,114,121,32]⟩
abbrev Vg:BA:=⟨#[109,111,100,101,108,10]⟩
def FO(s:BA):LI:=cond (s.toList==EQ.toList) [] ((EH (GN s F6) F6).map IV.str)
def TB:D4
 |[.str s]=>.br (AE (s.size<4294967281)) (.ok (.list AD [.str] (FO s)) []) .no
 |_=>.no
def o9:Vd:=⟨4,[],0,0,0,0,0,0⟩
def TJ(m:Md)(l:BA):Bool:=LZ l&&(ND l==m.d&&E8 m (E1 l))
def gJ(m:Md)(q:Qy):Vd:=cond ((IR m q).kind==3||NS m q (IR m q)) (IR m q) o9
def LY(m:Md)(l:BA):Vd:=cond (TJ m l) (gJ m (E1 l)) o9
def eY:D4
 |[m,.str l]=>H8 m λm=>.br (AE (l.size<4294967281)) (.ok (LY m l).V []) .no
 |_=>.no
def L3(i:Nat):BA:=(ZM++DZ (i:Int))++F6
def VQ(i:Int):BA:=(ZM++DZ i)++F6
def V4(m:Md):BA->Nat->LI->BA
 |s,_,[]=>s
 |s,i,x::l=>V4 m (s++L3 i++JI (LY m x.toStr)) (i+1) l
def PJ(a b:BA):BA:=cond (OQ a) (V4 (HN a) EQ 0 (FO b)) Vg
def eZ:D4
 |[.str a,.str b]=>.br (AE (a.size<4294967281)&&(AE (b.size<4294967281)&&AE ((PJ a b).size<=strMax))) (.ok (.str (PJ a b)) []) .no
 |_=>.no
def kQ:D4
 |[.str s,.int .u8 c]=>.ok (.i (var s.data.toList c.toNat.toUInt8)) []
 |_=>.no
def VU(l:List UInt8):Nat->Nat->Option Nat
 |0,at_=>AA at_
 |n+1,at_=>cond (AE (var (l.drop at_) 10<0)) AB (VU l n (at_+(var (l.drop at_) 10).toNat+1))
def O7(s:BA)(n:Int):Bool:=(VU s.data.toList n.toNat 0).isSome
def qO(s:BA)(n:Int):Nat:=(VU s.data.toList n.toNat 0).getD 0
def KY(s:BA)(n:Int):BA:=cond (O7 s n) (s.extract 0 (qO s n)) EQ
def YB(s:BA)(n:Int):BA:=cond (O7 s n) (s.extract (qO s n) s.size) EQ
def dC:D4
 |[.str s,.i n]=>.br (AE (s.size<4294967281)) (.ok (.tup [.str (KY s n),.str (YB s n),.bool (O7 s n)]) []) .no
 |_=>.no
def YT(s:BA):LI:=(EH (GN s F6) WK).map IV.str
def QA(s:BA):Int:=
 cond (!((OT (YT s)).toList==QR.toList)||!(ic (YT s).length==3)) 1
  (cond (!(MK (D9 (YT s) 2))||(AE (FT (D9 (YT s) 2)<0)||decide (FT (D9 (YT s) 2)>65536))) 1 (D7 (1+FT (D9 (YT s) 2))))
def dD:D4
 |[.str s]=>.br (AE (s.size<4294967281)) (.ok (.i (QA s)) []) .no
 |_=>.no
abbrev TZ:List Kd:=[.z,.list AC [.bool,.z,.z],.z,.z,.z,.z,.z,.z]
def Vd.I(v:Vd):IV:=.agg [.int v.kind,.list v.proof,.int v.w0,.int v.w1,.int v.w2,.int v.w3,.int v.twin,.int v.spent]
def QQ(x:IV):Vd:=⟨cI x 0,(x.cell 1).toList,cI x 2,cI x 3,cI x 4,cI x 5,cI x 6,cI x 7⟩
def K9(s:BA)(i:Nat):BA:=GT s (L3 i)
def V8(s:BA)(i:Nat):BA:=KY (K9 s i) (QA (KY (K9 s i) 1))
def n8(s:BA)(i:Nat):BA:=YB (K9 s i) (QA (KY (K9 s i) 1))
def Oa(s:BA)(i:Nat):Bool:=P7 s (L3 i)&&(O7 (K9 s i) 1&&(O7 (K9 s i) (QA (KY (K9 s i) 1))&&bJ (V8 s i)))
def j7:Nat->Nat->BA->LI->Option LI
 |0,_,_,_=>AB
 |n+1,i,s,out=>cond (s.toList==EQ.toList) (AA out) (cond (Oa s i) (j7 n (i+1) (n8 s i) (out++[(K6 (V8 s i)).I])) AB)
def N0(s:BA):Option LI:=j7 (s.size+1) 0 s []
def S3:D4
 |[.str s]=>.br (AE (s.size<4294967281)) (.br (N0 s).isSome (.ok (.tup [.list AC TZ ((N0 s).getD []),.bool AC]) []) (.ok (.tup [.list AC TZ [],.bool AD]) [])) .no
 |_=>.no
def RC(s:BA)(i:Int):BA:=GT s (VQ i)
def QK(s:BA)(i:Int):BA:=KY (RC s i) (QA (KY (RC s i) 1))
def Nz(s:BA)(i:Int):BA:=YB (RC s i) (QA (KY (RC s i) 1))
def TK(m:Md)(l:BA)(v:Vd):Bool:=
 cond (TJ m l) (cond (v.kind==3) (v.spent==(E1 l).bu)
   (cond (v.kind==1||v.kind==2) (AE (v.spent>=1)&&(AE (v.spent<=(E1 l).bu)&&NS m (E1 l) v)) AD))
  (v.kind==4&&v.spent==0)
def dA:D4
 |[m,.str l,v]=>H8 m λm=>yI v λv=>.br (AE (l.size<4294967281)) (.ok (.bool (TK m l v)) []) .no
 |_=>.no
def U6(m:Md):LI->LI->Bool
 |[],_=>AC
 |v::r,ls=>TK m (ls.getD 0 default).toStr (QQ v)&&U6 m r (ls.drop 1)
def bR(a b r:BA):Bool:=
 cond (OQ a) (match N0 r with
  |some vs=>ic vs.length==ic (FO b).length&&U6 (HN a) vs (FO b)
  |none=>AD) (r.toList==Vg.toList)
def W7:D4
 |[.str a,.str b,.str r]=>.br (AE (a.size<4294967281)&&(AE (b.size<4294967281)&&AE (r.size<4294967281))) (.ok (.bool (bR a b r)) []) .no
 |_=>.no
open Go Go.Proofs
theorem rX:∀(l:List UInt8) (c:UInt8),-1<=var l c/\var l c<l.length
 |[],_=>⟨by show(-1:Int)<= -1;omega,by show(-1:Int)<0;omega⟩
 |b::l,c=>by
  have ih:=rX l c;unfold var;rw[AV];split
  .omega
  .split
   .omega
   .omega
theorem zeP:D6 PR B0 121 kQ:=by
 intro w X γ vs xs r out hsp hg hx hR hV;unfold kQ at hsp;simp only at hsp;split at hsp
 .rename_i s c;simp only[R.get,AK,A1]at hsp;obtain⟨rfl,rfl⟩:=hsp;obtain⟨x0,x1,rfl⟩:∃x0 x1,xs=[x0,x1]:=by
   have:=hV.length
   simp at this
   match xs,this with
   |[a,b],_=>exact⟨a,b,rfl⟩
  simp only[A8,CN,EV,VRels,VRel,CI]at hV;obtain⟨⟨rfl,hs⟩,rfl,_⟩:=hV;refine RF hR rfl rfl (Does.of_calls Tryz.func121 AF AF ((Tryz.strings_IndexByte s c w).mono ?_));rintro e w' ⟨rfl,rfl⟩;refine⟨_,rfl,Keep.refl _ _,λO _=>?_⟩;simp only[VRel];have hb:=rX s.data.toList c.toNat.toUInt8;have hz:s.data.toList.length=s.size:=by rw[C1];rfl
  have e1:AJ.min= -9223372036854775808:=rfl;have e2:AJ.max=9223372036854775807:=rfl;unfold strMax at hs;exact⟨by first|rfl|trivial,by omega,by omega⟩
 .simp[R.get]at hsp
open Go Go.Proofs
def Xk(N:Nat):Env:=EE [(64,N6),(65,TC)] [] 8 N
theorem zq(N:Nat)(s:BA):EA (Xk N) Bt [.tmp 2] [[.list AD [.str]]] [.str s]=(cond (A7 s==A7 {data:=#[]}) (AA (.list AD [.str] [],[])) (cond (AE (AP (GN s {data:=#[10]})<4294967281)&&AE (1<=AP {data:=#[10]})) (AA ((.list AD [.str] (BG IV.str (EH (GN s {data:=#[10]}) {data:=#[10]}))),[])) AB)):=AF
def Xj(N:Nat):Env:=EE [(23,S2),(54,XB),(93,NB),(53,fW)] [] 46 N
theorem zo(N:Nat)(m:Md)(line:BA):EA (Xj N) Bs [.cell 4 50] [[.z,.list AC [.bool,.z,.z],.z,.z,.z,.z,.z,.z]] [(Md.V m),.str line]=(cond (AE (AP line<4294967281)) (cond (!LZ line) (AA (.agg [.i 4,.list AC EO [],.i 0,.i 0,.i 0,.i 0,.i 0,.i 0],[])) (cond (ND line !=Md.d m) (AA (.agg [.i 4,.list AC EO [],.i 0,.i 0,.i 0,.i 0,.i 0,.i 0],[])) (cond (!E8 m (E1 line)) (AA (.agg [.i 4,.list AC EO [],.i 0,.i 0,.i 0,.i 0,.i 0,.i 0],[])) (cond (Vd.kind (IR m (E1 line))==3) (AA ((Vd.V (IR m (E1 line))),[])) (cond (NS m (E1 line) (IR m (E1 line))) (AA ((Vd.V (IR m (E1 line))),[])) (AA (.agg [.i 4,.list AC EO [],.i 0,.i 0,.i 0,.i 0,.i 0,.i 0],[]))))))) AB):=AF
def U0(N:Nat):Env:=EE [(11,XA),(26,eY),(29,TB),(42,PZ),(47,U2),(94,U3),(17,XO)] [(6,⟨[4,5,7,18,19,20],[5,7],[]⟩)] 37 N
abbrev WS(u00 s4:BA)(l18:LI)(x19 x20:Int)(so7:BA):St:=⟨[(4,(.str s4)),(5,(.ptr 5 0 0)),(7,(.ptr 7 0 0)),(18,(.list AD [.str] l18)),(19,(.i x19)),(20,(.i x20))],[(5,(AA (.box (Md.cs (HN u00))))),(7,(AA (.bld so7)))]⟩
theorem zt(N:Nat)(u00 u01:BA):EA (U0 N) X7 [.tmp 4] [[.str]] [.str u00,.str u01]=(cond (AE (AP u00<4294967281)) (cond (!OQ u00) (AA ((.str ({data:=#[109,111,100,101,108,10]})),[])) (cond (AE (AP u01<4294967281)) (D3 (U0 N) (DS X7 [1,1,1,1,0,1,0,0]) ⟨[4,5,7,18,19,20],[5,7],[]⟩ N (WS u00 ({data:=#[]}) (FO u01) (ic (AN (FO u01))) 0 CQ) (DW 0 (DX (U0 N) (DS X7 [1,1,1,1,1]) (D2 (U0 N) AB [.tmp 4] [[.str]])))) AB)) AB):=AF
theorem Sj(N:Nat)(u00 s4:BA)(l18:LI)(x19 x20:Int)(so7:BA)(again:St->DU)(k:Out->St->DU):EY (U0 N) (DS X7 [1,1,1,1,0,1,0,0]) (WS u00 s4 l18 x19 x20 so7) (ES again ⟨[4,5,7,18,19,20],[5,7],[]⟩ k)=(cond (AE (x20<x19)) (cond (AE (0<=x20)&&AE (x20<ic (AN l18))) (cond (AE (AP {data:=#[113,117,101,114,121,32]}+AP (DZ x20)<=strMax)) (cond (AE (AP ({data:=#[113,117,101,114,121,32]}++DZ x20)+AP {data:=#[10]}<=strMax)) (cond (AE (AP so7+AP (VQ x20)<=strMax)) (cond (AE (AP (IV.toStr (AR l18 (AM x20) default))<4294967281)) (cond (AE (AP (JI (LY (HN u00) (IV.toStr (AR l18 (AM x20) default))))<=strMax)) (cond (AE (AP (so7++(VQ x20))+AP (JI (LY (HN u00) (IV.toStr (AR l18 (AM x20) default))))<=strMax)) (again (WS u00 s4 l18 x19 (AI AJ (x20+1)) (so7++(VQ x20)++JI (LY (HN u00) (IV.toStr (AR l18 (AM x20) default)))))) AB) AB) AB) AB) AB) AB) AB) (k (.exit 0) (WS u00 s4 l18 x19 x20 so7))):=AF
theorem jd(N:Nat)(u00 s4:BA)(l18:LI)(x19 x20:Int)(so7:BA):(DW 0 (DX (U0 N) (DS X7 [1,1,1,1,1]) (D2 (U0 N) AB [.tmp 4] [[.str]]))) (.exit 0) (WS u00 s4 l18 x19 x20 so7)=(AA (.str so7,[])):=AF
def RT(N:Nat):Env:=EE [(121,kQ)] [(3,⟨[0,4,5,6,7,9,10],[],[]⟩)] 29 N
abbrev RP(s0 s4 s5:BA)(b6:Bool)(x7 x9 x10:Int):St:=⟨[(0,(.str s0)),(4,(.str s4)),(5,(.str s5)),(6,(.bool b6)),(7,(.i x7)),(9,(.i x9)),(10,(.i x10))],[]⟩
theorem wx(N:Nat)(s:BA)(n:Int):EA (RT N) VC [.tmp 4,.tmp 5,.tmp 6] [[.str],[.str],[.bool]] [.str s,.i n]=(D3 (RT N) (DS VC [1,1,0,1,0,0]) ⟨[0,4,5,6,7,9,10],[],[]⟩ N (RP s ({data:=#[]}) ({data:=#[]}) AD 0 n 0) (DW 0 (DX (RT N) (DS VC [1,1,1]) (D2 (RT N) AB [.tmp 4,.tmp 5,.tmp 6] [[.str],[.str],[.bool]])))):=AF
theorem ze4(N:Nat)(s0 s4 s5:BA)(b6:Bool)(x7 x9 x10:Int)(again:St->DU)(k:Out->St->DU):EY (RT N) (DS VC [1,1,0,1,0,0]) (RP s0 s4 s5 b6 x7 x9 x10) (ES again ⟨[0,4,5,6,7,9,10],[],[]⟩ k)=(cond (AE (x10<x9)) (cond (AE (0<=x7)&&AE (x7<=ic (AP s0))) (cond (AE (var (Array.toList (ByteArray.data (vaT s0 (AM x7) (AP s0)))) (Nat.toUInt8 (AM 10))<0)) (k .ret (RP s0 ({data:=#[]}) ({data:=#[]}) AD x7 x9 x10)) (again (RP s0 s4 s5 b6 (AI AJ (x7+AI AJ (var (Array.toList (ByteArray.data (vaT s0 (AM x7) (AP s0)))) (Nat.toUInt8 (AM 10))+1))) x9 (AI AJ (x10+1))))) AB) (k (.exit 0) (RP s0 s4 s5 b6 x7 x9 x10))):=AF
theorem gf(N:Nat)(s0 s4 s5:BA)(b6:Bool)(x7 x9 x10:Int):(DW 0 (DX (RT N) (DS VC [1,1,1]) (D2 (RT N) AB [.tmp 4,.tmp 5,.tmp 6] [[.str],[.str],[.bool]]))) (.exit 0) (RP s0 s4 s5 b6 x7 x9 x10)=(cond (AE (0<=x7)&&AE (x7<=ic (AP s0))) (cond (AE (0<=x7)&&AE (x7<=ic (AP s0))) (AA (.tup [.str (vaT s0 0 (AM x7)),.str (vaT s0 (AM x7) (AP s0)),.bool AC],[])) AB) AB):=AF
theorem gg(N:Nat)(s0 s4 s5:BA)(b6:Bool)(x7 x9 x10:Int):(DW 0 (DX (RT N) (DS VC [1,1,1]) (D2 (RT N) AB [.tmp 4,.tmp 5,.tmp 6] [[.str],[.str],[.bool]]))) .ret (RP s0 s4 s5 b6 x7 x9 x10)=(AA (.tup [.str s4,.str s5,.bool b6],[])):=AF
def Vz(N:Nat):Env:=EE [(122,R0),(64,N6),(65,TC)] [] 37 N
theorem wy(N:Nat)(u00:BA):EA (Vz N) Ag [.tmp 2] [[.z]] [.str u00]=(cond (AE (AP (GN u00 {data:=#[10]})<4294967281)&&AE (1<=AP {data:=#[32]})) (cond (AE (0<=0)&&AE (0<ic (AN (BG IV.str (EH (GN u00 {data:=#[10]}) {data:=#[32]}))))) (cond (!A7 (IV.toStr (AR (BG IV.str (EH (GN u00 {data:=#[10]}) {data:=#[32]})) (AM 0) default))==A7 {data:=#[104,111,108,100,115]}) (AA (.i 1,[])) (cond (ic (AN (BG IV.str (EH (GN u00 {data:=#[10]}) {data:=#[32]})))!=3) (AA (.i 1,[])) (cond (AE (0<=2)&&AE (2<ic (AN (BG IV.str (EH (GN u00 {data:=#[10]}) {data:=#[32]}))))) (cond (!MK (IV.toStr (AR (BG IV.str (EH (GN u00 {data:=#[10]}) {data:=#[32]})) (AM 2) default))) (AA (.i 1,[])) (cond (AE (FT (IV.toStr (AR (BG IV.str (EH (GN u00 {data:=#[10]}) {data:=#[32]})) (AM 2) default))<0)) (AA (.i 1,[])) (cond (AE (FT (IV.toStr (AR (BG IV.str (EH (GN u00 {data:=#[10]}) {data:=#[32]})) (AM 2) default))>65536)) (AA (.i 1,[])) (AA ((.i (AI AJ (1+FT (IV.toStr (AR (BG IV.str (EH (GN u00 {data:=#[10]}) {data:=#[32]})) (AM 2) default))))),[]))))) AB))) AB) AB):=AF
def Vy(N:Nat):Env:=EE [(23,S2),(54,XB),(93,NB)] [] 66 N
theorem ww(N:Nat)(m:Md)(a1:BA)(a2:Vd):EA (Vy N) Af [.tmp 6] [[.bool]] [(Md.V m),.str a1,(Vd.V a2)]=(cond (AE (AP a1<4294967281)) (cond (!LZ a1) (cond (Vd.kind a2==4) (AA (.bool (Vd.spent a2==0),[])) (AA (.bool AD,[]))) (cond (ND a1 !=Md.d m) (cond (Vd.kind a2==4) (AA (.bool (Vd.spent a2==0),[])) (AA (.bool AD,[]))) (cond (!E8 m (E1 a1)) (cond (Vd.kind a2==4) (AA (.bool (Vd.spent a2==0),[])) (AA (.bool AD,[]))) (cond (Vd.kind a2==3) (AA (.bool (Vd.spent a2==Qy.bu (E1 a1)),[])) (cond (Vd.kind a2==1) (cond (AE (Vd.spent a2>=1)) (cond (AE (Vd.spent a2<=Qy.bu (E1 a1))) (AA (.bool (NS m (E1 a1) a2),[])) (AA (.bool AD,[]))) (AA (.bool AD,[]))) (cond (Vd.kind a2==2) (cond (AE (Vd.spent a2>=1)) (cond (AE (Vd.spent a2<=Qy.bu (E1 a1))) (AA (.bool (NS m (E1 a1) a2),[])) (AA (.bool AD,[]))) (AA (.bool AD,[]))) (AA (.bool AD,[])))))))) AB):=AF
open Go
theorem bg{s t:BA}(h:s.data.toList=t.data.toList):s=t:=ByteArray.ext (Array.ext' h)
theorem bf(s t:BA):(s.toList==t.toList)=AE (s=t):=by
 rw[Lib.toList_data,Lib.toList_data];by_cases h:s=t
 .subst h;simp
 .rw[AS h,BH];exact λe=>h (bg e)
theorem jU(s:BA):s.size=s.data.toList.length:=by rw[C1];rfl
theorem zeW(s sep:BA):(EH s sep).map (·.data.toList)=Lib.split s.data.toList sep.data.toList:=by
 unfold EH Lib.split;rw[Lib.splitB_data]
open Go
theorem Ev(s t:BA):(s++t).data.toList=s.data.toList++t.data.toList:=by simp
def H6(n:Int):Prop:= -9223372036854775808<=n/\n<=9223372036854775807
def RH(x:IV):Prop:=H6 (FP x)/\H6 (GE x)
structure Vd.rng (v:Vd):Prop where
 w0:H6 v.w0
 w1:H6 v.w1
 w2:H6 v.w2
 w3:H6 v.w3
 twin:H6 v.twin
 spent:H6 v.spent
 proof:∀x∈v.proof,RH x
theorem Kj:∀(l:LI) (s:BA),(∀x∈l,H6 x.toInt)->(QH s l).size<=s.size+22*l.length
 |[],s,_=>A4 _
 |x::l,s,h=>by
  rw[QH];refine DD (Kj l _ (λy hy=>h y (A6 _ hy))) ?_;have hx:=h x (AY ..)
  have:=aT (n:=x.toInt) hx.1 hx.2
  rw[BC,va5,AV];omega
theorem a8(s w:BA)(l:LI)(h:∀x∈l,H6 x.toInt):(HD s w l).size<=s.size+w.size+22*l.length+1:=by
 unfold HD
 have:=Kj l (s++w) h
 rw[BC]at this;rw[va5];omega
theorem Lt:∀(l:LI) (s:BA),(∀x∈l,RH x)->(SK s l).size<=s.size+48*l.length
 |[],s,_=>A4 _
 |x::l,s,h=>by
  rw[SK];refine DD (Lt l _ (λy hy=>h y (A6 _ hy))) ?_;have hx:=h x (AY ..);rw[AV];cases I1 x
  .have:=a8 s kC [.int (FP x),.int (GE x)] (λy hy=>by
    simp only[AW,List.mem_nil_iff,C7]at hy;rcases hy with rfl|rfl
    .exact hx.1
    .exact hx.2)
   have e:kC.size=3:=rfl;simp only[BK,AV,BN]at this ⊢;omega
  .have:=a8 s WL [] (λy hy=>by cases hy)
   have e:WL.size=3:=rfl;simp only[B5,BN]at this ⊢;omega
open Go
theorem zcU{v:Vd}(h:v.right=AC):v.proof.length<=65536:=by
 unfold Vd.right at h;simp only[AQ,vap]at h;rcases h.2.2 with h1|h1|h1
 .have:=h1.2.2
  unfold UE at this;simp only[AQ,AZ]at this;exact this.2.1
 .have:=h1.2
  cases hp:v.proof with
  |nil=>simp
  |cons a b=>rw[hp]at this;cases this
 .have:=h1.2.2
  cases hp:v.proof with
  |nil=>simp
  |cons a b=>rw[hp]at this;cases this
theorem rY{l:List Int}(h:∀n∈l,H6 n):∀x∈l.map IV.int,H6 x.toInt:=by
 intro x hx;obtain⟨n,hn,rfl⟩:=CU.1 hx;exact h n hn
theorem uy{n:Nat}(h:n<=65536):H6 (ic n):=by unfold H6 ic;omega
theorem Lr{v:Vd}(hr:v.rng):(JI v).size<=4000000:=by
 unfold JI;cases h:v.right with
 |false=>simp only[BK];decide
 |true=>
  simp only[B5];have hp:=zcU h;cases v.kind==1 with
  |true=>
   simp only[B5];have h1:=Lt v.proof (HD EQ QR [.int v.spent,.int (ic v.proof.length)]) hr.proof;have h2:=a8 EQ QR [.int v.spent,.int (ic v.proof.length)] (rY (l:=[v.spent,ic v.proof.length]) (by
    intro n hn;simp only[AW,List.mem_nil_iff,C7]at hn;rcases hn with rfl|rfl
    .exact hr.spent
    .exact uy hp))
   have e1:EQ.size=0:=rfl;have e2:QR.size=5:=rfl;simp only[AV,BN]at h2;omega
  |false=>
   simp only[BK];cases v.kind==2 with
   |true=>
    simp only[B5];have h2:=a8 EQ cM [.int v.spent,.int v.w0,.int v.w1,.int v.w2,.int v.w3,.int v.twin] (rY (l:=[v.spent,v.w0,v.w1,v.w2,v.w3,v.twin]) (by
     intro n hn;simp only[AW,List.mem_nil_iff,C7]at hn;rcases hn with rfl|rfl|rfl|rfl|rfl|rfl
     .exact hr.spent
     .exact hr.w0
     .exact hr.w1
     .exact hr.w2
     .exact hr.w3
     .exact hr.twin))
    have e1:EQ.size=0:=rfl;have e2:cM.size=5:=rfl;simp only[AV,BN]at h2;omega
   |false=>
    simp only[BK];have hs:∀x∈[IV.int v.spent],H6 x.toInt:=rY (l:=[v.spent]) (by
     intro n hn;simp only[AW,List.mem_nil_iff,C7]at hn;subst hn;exact hr.spent)
    have e1:EQ.size=0:=rfl;cases v.kind==3 with
    |true=>
     simp only[B5];have h2:=a8 EQ cN [.int v.spent] hs;have e2:cN.size=7:=rfl;simp only[AV,BN]at h2;omega
    |false=>
     simp only[BK];have h2:=a8 EQ cO [.int v.spent] hs;have e2:cO.size=5:=rfl;simp only[AV,BN]at h2;omega
theorem QG(l:LI)(i:Int):H6 (GV l i):=by
 unfold GV;cases AE (ic l.length<=i)with
 |true=>simp only[B5];unfold H6;omega
 |false=>
  simp only[BK]
  have:=zK (l.getD i.toNat default).toStr
  exact this
theorem HO:H6 0:=⟨by decide,by decide⟩
theorem zcA(s:BA):RH (nV s):=by
 unfold nV;cases((OT (JE s)).toList==WL.toList)with
 |true=>exact⟨HO,HO⟩
 |false=>exact⟨QG _ _,QG _ _⟩
theorem Nb:∀(m:Nat) (s:BA) (p:LI),(∀x∈p,RH x)->∀x∈bO m s p,RH x
 |0,_,_,h=>h
 |m+1,s,p,h=>by
  unfold bO;cases(!(s.toList==EQ.toList)&&AE (p.length<=65536))with
  |false=>exact h
  |true=>
   simp only[B5];refine Nb m _ _ (λx hx=>?_);rcases A5.1 hx with h1|h1
   .exact h x h1
   .rw[BZ.1 h1];exact zcA s
theorem zcB(s:BA):(KD s).rng:=by
 unfold KD;cases((OT (JE s)).toList==QR.toList)with
 |true=>exact⟨HO,HO,HO,HO,HO,QG _ _,Nb _ _ _ (λx hx=>by cases hx)⟩
 |false=>
  cases((OT (JE s)).toList==cM.toList)with
  |true=>exact⟨QG _ _,QG _ _,QG _ _,QG _ _,QG _ _,QG _ _,λx hx=>by cases hx⟩
  |false=>
   cases((OT (JE s)).toList==cN.toList)with
   |true=>exact⟨HO,HO,HO,HO,HO,QG _ _,λx hx=>by cases hx⟩
   |false=>
    cases((OT (JE s)).toList==cO.toList)with
    |true=>exact⟨HO,HO,HO,HO,HO,QG _ _,λx hx=>by cases hx⟩
    |false=>exact⟨HO,HO,HO,HO,HO,QG _ _,λx hx=>by cases hx⟩
open Go
theorem jX{x y:IV}:xD x y=AC↔I1 x=I1 y/\FP x=FP y/\GE x=GE y:=by simp[xD]
theorem Ol:∀{l m:LI},NY l m=AC->NY m l=AC
 |[],[],_=>rfl
 |[],_::_,h=>by simp[NY]at h
 |_::_,[],h=>by simp[NY]at h
 |x::l,y::m,h=>by
  simp only[NY,AQ]at h ⊢;obtain⟨h1,h2,h3⟩:=jX.1 h.1;exact⟨jX.2 ⟨h1.symm,h2.symm,h3.symm⟩,Ol h.2⟩
theorem Om:∀{l m n:LI},NY l m=AC->NY m n=AC->NY l n=AC
 |[],[],[],_,_=>rfl
 |[],[],_::_,_,h=>by simp[NY]at h
 |[],_::_,_,h,_=>by simp[NY]at h
 |_::_,[],_,h,_=>by simp[NY]at h
 |_::_,_::_,[],_,h=>by simp[NY]at h
 |x::l,y::m,z::n,h,k=>by
  simp only[NY,AQ]at h k ⊢;obtain⟨h1,h2,h3⟩:=jX.1 h.1;obtain⟨k1,k2,k3⟩:=jX.1 k.1;exact⟨jX.2 ⟨h1.trans k1,h2.trans k2,h3.trans k3⟩,Om h.2 k.2⟩
structure VSame (a b:Vd):Prop where
 kind:a.kind=b.kind
 proof:NY a.proof b.proof=AC
 w0:a.w0=b.w0
 w1:a.w1=b.w1
 w2:a.w2=b.w2
 w3:a.w3=b.w3
 twin:a.twin=b.twin
 spent:a.spent=b.spent
theorem VSame.symm{a b:Vd}(h:VSame a b):VSame b a:=⟨h.kind.symm,Ol h.proof,h.w0.symm,h.w1.symm,h.w2.symm,h.w3.symm,h.twin.symm,h.spent.symm⟩
theorem VSame.trans{a b c:Vd}(h:VSame a b)(k:VSame b c):VSame a c:=⟨h.kind.trans k.kind,Om h.proof k.proof,h.w0.trans k.w0,h.w1.trans k.w1,h.w2.trans k.w2,h.w3.trans k.w3,h.twin.trans k.twin,h.spent.trans k.spent⟩
theorem aa{v:Vd}(h:v.bare=AC):v.w0=0/\v.w1=0/\v.w2=0/\v.w3=0/\v.twin=0:=by
 unfold Vd.bare at h;simpa using h
open Go
theorem uf(x y:List UInt8)(r:List (List UInt8)):Lib.join (x::y::r) [32]=x++32::Lib.join (y::r) [32]:=by
 rw[Lib.join_cons,Lib.join_cons];simp[Lib.joinTail]
theorem Rd:∀(x:List UInt8) (r:List (List UInt8)),(∀w∈x::r,(32:UInt8)∉w)->Lib.split (Lib.join (x::r) [32]) [32]=x::r
 |x,[],h=>by rw[Lib.join_one];exact Rf x 32 (h x (AY ..))
 |x,y::r,h=>by
  rw[uf,Rc x _ 32 (h x (AY ..)),Rd y r (λw hw=>h w (A6 _ hw))]
theorem m6:∀{l m:List BA},l.map (·.data.toList)=m.map (·.data.toList)->l=m
 |[],[],_=>rfl
 |[],_::_,h=>by simp at h
 |_::_,[],h=>by simp at h
 |x::l,y::m,h=>by
  simp only[A8,vaD]at h;rw[U9 h.1,m6 h.2]
theorem Im(ws:List BA)(h0:ws≠[])(h:∀w∈ws,(32:UInt8)∉w.data.toList):HT (GU ws HI)=ws.map IV.str:=by
 unfold HT;congr 1;apply m6;rw[Rb];cases ws with
 |nil=>exact absurd rfl h0
 |cons x r=>
  show Lib.split (Lib.join ((x::r).map (·.data.toList)) [32]) [32]=_;rw[A8];exact Rd _ _ (λw hw=>by
   rcases AW.1 hw with rfl|hw
   .exact h x (AY ..)
   .obtain⟨y,hy,rfl⟩:=CU.1 hw;exact h y (A6 _ hy))
theorem Pf(u:Nat):∀c∈I8 u,c.toNat=46\/(48<=c.toNat/\c.toNat<=57):=by
 intro c hc;rw[jT]at hc;rcases A5.1 hc with h|h
 .exact .inr (YC _ c h)
 .split at h
  .cases h
  .rename_i h0;rcases AW.1 h with rfl|h
   .exact .inl rfl
   .exact .inr ((lL h0 (by omega:u%256<256)).2.1 c h)
theorem vB(n:Int):∀c∈LP n,45<=c.toNat/\c.toNat<=57:=by
 intro c hc;unfold LP at hc;split at hc
 .rcases AW.1 hc with rfl|h
  .exact⟨by decide,by decide⟩
  .have:=Pf _ c h
   omega
 .have:=Pf _ c hc
  omega
theorem ub(n:Int):∀c∈Lib.itoa n,45<=c.toNat/\c.toNat<=57:=by
 intro c hc
 have:=ua n c hc
 omega
theorem uc(n:Int):Lib.itoa n≠[]:=by
 unfold Lib.itoa;split
 .simp
 .exact lK _
theorem T5{l:List UInt8}(h:∀c∈l,45<=c.toNat/\c.toNat<=57):(32:UInt8)∉l:=λhc=>by
 have:=(h _ hc).1
 revert this;decide
theorem gN{x y:BA}(h:x≠y):(x.toList==y.toList)=AD:=by rw[k7];exact AS h
theorem U8(x:BA):(x.toList==x.toList)=AC:=by simp
theorem Jo{w x:BA}(hw:∀c∈w.data.toList,97<=c.toNat)(hx:x.data.toList≠[])(h:∀c∈x.data.toList,45<=c.toNat/\c.toNat<=57):(w.toList==x.toList)=AD:=by
 refine gN (λe=>?_);subst e;cases hl:w.data.toList with
 |nil=>exact hx hl
 |cons c r=>
  have h1:=hw c (by rw[hl];exact AY ..);have h2:=h c (by rw[hl];exact AY ..);omega
def L4:List UInt8->Bool
 |[]=>AC
 |[c]=>!(c==46)
 |a::b::r=>!(a==46&&b==46)&&L4 (b::r)
theorem tV:∀{l:List UInt8},(∀c∈l,c≠46)->L4 l=AC
 |[],_=>rfl
 |[c],h=>by simp[L4,h c (AY ..)]
 |a::b::r,h=>by
  have ha:=h a (AY ..);have e:(a==46)=AD:=BH.2 ha;simp only[L4,e,BP,BF,BI];exact tV (λc hc=>h c (A6 _ hc))
theorem tU:∀{l:List UInt8} {c:UInt8} {r:List UInt8},(∀c∈l,c≠46)->c≠46->L4 (c::r)=AC->L4 (l++46::c::r)=AC
 |[],c,r,_,hc,hr=>by
  have e:(c==46)=AD:=BH.2 hc;simp only[vac,L4,e,DE,BF,BI,hr]
 |[a],c,r,h,hc,hr=>by
  have e:(a==46)=AD:=BH.2 (h a (AY ..))
  have:=tU (l:=[]) (λc hc=>by cases hc) hc hr
  simp only[vac]at this;simp only[C9,vac,L4,e,BP,BF,BI];simpa only[L4]using this
 |a::b::l,c,r,h,hc,hr=>by
  have e:(a==46)=AD:=BH.2 (h a (AY ..))
  have:=tU (l:=b::l) (λc hc=>h c (A6 _ hc)) hc hr
  simp only[C9]at this ⊢;simp only[L4,e,BP,BF,BI];exact this
theorem r9:∀(w r:List UInt8),L4 w=AC->Lib.index (w++46::46::r) [46,46]=w.length
 |[],r,_=>by simp[Lib.index,vbu]
 |[c],r,h=>by
  have e:(c==46)=AD:=by simpa[L4]using h
  have e':((46:UInt8)==c)=AD:=by rw[BH]at e ⊢;exact λh=>e h.symm
  have h0:=r9 [] r rfl;simp only[vac,BN]at h0;rw[List.singleton_append,Lib.index,h0];simp[vbu,e']
 |a::b::l,r,h=>by
  simp only[L4,AQ]at h;have ih:=r9 (b::l) r h.2;have e:[(46:UInt8),46].isPrefixOf (a::b::l++46::46::r)=AD:=by
   simp only[C9,vbu,CK];have h1:=h.1;cases ha:(a==46)with
   |false=>
    have:((46:UInt8)==a)=AD:=by rw[BH]at ha ⊢;exact λh=>ha h.symm
    rw[this,BP]
   |true=>
    rw[ha,BI]at h1;have hb:(b==46)=AD:=by simpa using h1
    have:((46:UInt8)==b)=AD:=by rw[BH]at hb ⊢;exact λh=>hb h.symm
    rw[this,DE]
  have e2:(((b::l).length:Int)== -1)=AD:=by rw[BH];simp only[AV];omega
  rw[C9,Lib.index];rw[C9]at e;rw[e,ih,e2];simp
theorem Js(u:Nat):L4 (I8 u)=AC:=by
 have hd:∀c∈CS (u/256),c≠46:=λc hc e=>by
  subst e
  have:=YC _ _ hc
  revert this;decide
 rw[jT];by_cases h:u%256=0
 .rw[BX h,vab];exact tV hd
 .rw[BO h];obtain⟨_,h2,l,c,h3,_⟩:=lL h (by omega:u%256<256);have hp:∀c∈KZ (u%256),c≠46:=λc hc e=>by
   subst e
   have:=h2 _ hc
   revert this;decide
  cases hl:KZ (u%256)with
  |nil=>rw[h3]at hl;simp at hl
  |cons x r=>
   rw[hl]at hp;exact tU hd (hp x (AY ..)) (tV hp)
theorem za2(n:Int):L4 (LP n)=AC:=by
 unfold LP;split
 .obtain⟨c,r,h,_⟩:=wH n.natAbs
  have:=Js n.natAbs
  rw[h]at this ⊢;simp only[L4,AQ];exact⟨by rfl,this⟩
 .exact Js _
theorem dq(w r:List UInt8)(h:L4 w=AC):Lib.cut (w++46::46::r) [46,46]=(w,r,AC):=by
 unfold Lib.cut;rw[r9 w r h,BX AG];simp
theorem Ra(a b:Int):cutL (NZ a b) cL=D5 a/\GA (NZ a b) cL=D5 b:=by
 have e:(NZ a b).data.toList=LP a++46::46::LP b:=by
  unfold NZ;simp only[ByteArray.data_append,vaj];show(LP a++[46,46])++LP b=_;simp
 unfold cutL GA;rw[e]
 have:=dq (LP a) (LP b) (za2 a)
 show(⟨(Lib.cut _ [46,46]).1.toArray⟩:BA)=_/\(⟨(Lib.cut _ [46,46]).2.1.toArray⟩:BA)=_;rw[this];exact⟨rfl,rfl⟩
theorem Qy.eq_of{p q:Qy}(h:p.eq q=AC):p=q:=by
 cases p;cases q;simp only[Qy.eq,AQ,CF,CI]at h;simp only[Qy.mk.injEq];exact h
theorem Qy.eq_self(p:Qy):p.eq p=AC:=by
 simp[Qy.eq]
theorem R4{n:Int}(h:EN n):FT (DZ n)=n:=zL rfl h.1 h.2
theorem jP{n:Int}(h:EN n):GL (D5 n)=n:=(zb9 h).2
theorem bL(n:Int):∀c∈(D5 n).data.toList,45<=c.toNat/\c.toNat<=57:=vB n
theorem P9(n:Int):∀c∈(DZ n).data.toList,45<=c.toNat/\c.toNat<=57:=ub n
theorem zb4(n:Int):(D5 n).data.toList≠[]:=by
 obtain⟨c,r,h,_⟩:=Lv n;rw[h];simp
theorem Qx(a b:Int):∀c∈(NZ a b).data.toList,45<=c.toNat/\c.toNat<=57:=by
 intro c hc;unfold NZ at hc;simp only[ByteArray.data_append,vaj,A5]at hc;rcases hc with(h|h)|h
 .exact vB a c h
 .have h:c∈[(46:UInt8),46]:=h;simp only[AW,CC,C7,or_self]at h;subst h;decide
 .exact vB b c h
theorem zfW(q:Qy)(D:Nat):∀w∈JW q D,(32:UInt8)∉w.data.toList:=by
 intro w hw;unfold JW at hw;have key:∀x∈IB q,(32:UInt8)∉x.data.toList:=by
  intro x hx;unfold IB at hx;cases h1:(q.k==1)<;>rw[h1]at hx<;>simp only[B5,BK]at hx
  .cases h2:(q.k==2)<;>rw[h2]at hx<;>simp only[B5,BK,AW,CC,C7]at hx
   .rcases hx with rfl|rfl|rfl|rfl
    .cases q.fl<;>decide
    .exact T5 (P9 _)
    .decide
    .exact T5 (P9 _)
   .rcases hx with rfl|rfl
    .decide
    .exact T5 (P9 _)
  .simp only[AW,CC,C7]at hx;rcases hx with rfl|rfl|rfl|rfl|rfl|rfl
   .decide
   .exact T5 (P9 _)
   .decide
   .exact T5 (bL _)
   .decide
   .exact T5 (bL _)
 rcases A5.1 hw with h|h
 .rcases A5.1 h with h|h
  .exact key w h
  .rcases AW.1 h with rfl|h
   .decide
   .obtain⟨s,_,rfl⟩:=CU.1 h;exact T5 (Qx _ _)
 .simp only[AW,CC,C7]at h;rcases h with rfl|rfl
  .decide
  .exact T5 (P9 _)
theorem Gw(w:BA):∀(l:LI) (r:LI) (k:Int),(∀x∈l,(w.toList==x.toStr.toList)=AD)->GB (l++.str w::r) w k=k+(l.length:Int)
 |[],r,k,_=>by
  simp only[vac,GB,IV.toStr,U8,B5,BN];omega
 |x::l,r,k,h=>by
  rw[C9,GB,h x (AY ..),BK,Gw w l r (k+1) (λy hy=>h y (A6 _ hy))];simp only[AV];omega
theorem td(q:Qy):∀x∈(IB q).map IV.str,(OS.toList==x.toStr.toList)=AD:=by
 intro y hy;obtain⟨x,hx,rfl⟩:=CU.1 hy;simp only[IV.toStr];have li:∀c∈OS.data.toList,97<=c.toNat:=by decide
 have ni:=λn=>Jo li (uc n) (P9 n)
 have np:=λn=>Jo li (zb4 n) (bL n)
 have dd:∀{a b:BA},a.data.toList≠b.data.toList->(a.toList==b.toList)=AD:=λh=>gN (λe=>h (by rw[e]))
 unfold IB at hx;cases h1:(q.k==1)<;>rw[h1]at hx<;>simp only[B5,BK]at hx
 .cases h2:(q.k==2)<;>rw[h2]at hx<;>simp only[B5,BK,AW,CC,C7]at hx
  .rcases hx with rfl|rfl|rfl|rfl
   .cases q.fl<;>exact dd (by decide)
   .exact ni _
   .exact dd (by decide)
   .exact ni _
  .rcases hx with rfl|rfl
   .exact dd (by decide)
   .exact ni _
 .simp only[AW,CC,C7]at hx;rcases hx with rfl|rfl|rfl|rfl|rfl|rfl
  .exact dd (by decide)
  .exact ni _
  .exact dd (by decide)
  .exact np _
  .exact dd (by decide)
  .exact np _
theorem tg(q:Qy)(hc:EN q.c)(hlo:EN q.lo)(hhi:EN q.hi)(hft:EN q.ft)(hk:q.k=1\/q.k=2\/q.k=3)(n1:q.k≠1->q.lo=0/\q.hi=0)(n3:q.k≠3->q.ft=0/\q.fl=AD):
  E5 ((IB q).map IV.str)=⟨q.k,q.c,0,0,0,0,0,0,0,0,0,0,q.lo,q.hi,q.ft,q.fl,0⟩:=by
 have dd:∀{a b:BA},a.data.toList≠b.data.toList->(a.toList==b.toList)=AD:=λh=>gN (λe=>h (by rw[e]))
 obtain⟨k,c,a0,b0,a1,b1,a2,b2,a3,b3,a4,b4,lo,hi,ft,fl,bu⟩:=q;simp only at hc hlo hhi hft hk n1 n3 ⊢;rcases hk with rfl|rfl|rfl
 .obtain⟨rfl,rfl⟩:=n3 (by decide);show E5 [IV.str N1,IV.str (DZ c),IV.str WI,IV.str (D5 lo),IV.str WM,IV.str (D5 hi)]=_;unfold E5;rw[show D9 [IV.str N1,IV.str (DZ c),IV.str WI,IV.str (D5 lo),IV.str WM,IV.str (D5 hi)] 0=N1 from rfl,U8,B5,
   show D9 [IV.str N1,IV.str (DZ c),IV.str WI,IV.str (D5 lo),IV.str WM,IV.str (D5 hi)] 1=DZ c from rfl,show D9 [IV.str N1,IV.str (DZ c),IV.str WI,IV.str (D5 lo),IV.str WM,IV.str (D5 hi)] 3=D5 lo from rfl,
   show D9 [IV.str N1,IV.str (DZ c),IV.str WI,IV.str (D5 lo),IV.str WM,IV.str (D5 hi)] 5=D5 hi from rfl,R4 hc,jP hlo,jP hhi]
 .obtain⟨rfl,rfl⟩:=n3 (by decide);obtain⟨rfl,rfl⟩:=n1 (by decide);show E5 [IV.str PM,IV.str (DZ c)]=_;unfold E5;rw[show D9 [IV.str PM,IV.str (DZ c)] 0=PM from rfl,dd (show PM.data.toList≠N1.data.toList by decide),BK,U8,B5,show D9 [IV.str PM,IV.str (DZ c)] 1=DZ c from rfl,R4 hc]
 .obtain⟨rfl,rfl⟩:=n1 (by decide);cases fl with
  |true=>
   show E5 [IV.str M5,IV.str (DZ c),IV.str PN,IV.str (DZ ft)]=_;unfold E5;rw[show D9 [IV.str M5,IV.str (DZ c),IV.str PN,IV.str (DZ ft)] 0=M5 from rfl,dd (show M5.data.toList≠N1.data.toList by decide),BK,dd (show M5.data.toList≠PM.data.toList by decide),BK,dd (show M5.data.toList≠N2.data.toList by decide),U8,vaF,B5,
    show D9 [IV.str M5,IV.str (DZ c),IV.str PN,IV.str (DZ ft)] 1=DZ c from rfl,show D9 [IV.str M5,IV.str (DZ c),IV.str PN,IV.str (DZ ft)] 3=DZ ft from rfl,R4 hc,R4 hft]
  |false=>
   show E5 [IV.str N2,IV.str (DZ c),IV.str PN,IV.str (DZ ft)]=_;unfold E5;rw[show D9 [IV.str N2,IV.str (DZ c),IV.str PN,IV.str (DZ ft)] 0=N2 from rfl,dd (show N2.data.toList≠N1.data.toList by decide),BK,dd (show N2.data.toList≠PM.data.toList by decide),BK,dd (show N2.data.toList≠M5.data.toList by decide),U8,Bool.or_false,B5,
    show D9 [IV.str N2,IV.str (DZ c),IV.str PN,IV.str (DZ ft)] 1=DZ c from rfl,show D9 [IV.str N2,IV.str (DZ c),IV.str PN,IV.str (DZ ft)] 3=DZ ft from rfl,R4 hc,R4 hft]
theorem yB(A B:LI)(i:Nat):D9 (A++B) (A.length+i)=D9 B i:=by
 unfold D9;congr 1;rw[AR,List.getElem?_append_right AG,Nat.add_sub_cancel_left];rfl
def LA(q:Qy)(D:Nat):LI:=(OS::((q.spans.take D).map λs=>NZ s.1 s.2)++[WH,DZ q.bu]).map IV.str
theorem Vn(q:Qy)(D:Nat):(JW q D).map IV.str=(IB q).map IV.str++LA q D:=by
 unfold JW LA;simp
theorem zcv(q:Qy)(hc:EN q.c)(hlo:EN q.lo)(hhi:EN q.hi)(hft:EN q.ft)(hbu:EN q.bu)(hsp:∀s∈q.spans,EN s.1/\EN s.2)(D:Nat)(h1:1<=D)(h4:D<=4)(hk:q.k=1\/q.k=2\/q.k=3)(ht:q=F5 q D):
  jI ((JW q D).map IV.str) (IB q).length D=q:=by
 rw[Vn];have ht':=ht;have n1:q.k≠1->q.lo=0/\q.hi=0:=λhn=>by
  have e:(q.k==1)=AD:=BH.2 hn;have a:=congrArg Qy.lo ht';have b:=congrArg Qy.hi ht';simp only[F5,e,BK]at a b;exact⟨a,b⟩
 have n3:q.k≠3->q.ft=0/\q.fl=AD:=λhn=>by
  have e:(q.k==3)=AD:=BH.2 hn;have a:=congrArg Qy.ft ht';have b:=congrArg Qy.fl ht';simp only[F5,e,BK]at a b;exact⟨a,b⟩
 have hh:=tg q hc hlo hhi hft hk n1 n3;have hlen:((IB q).map IV.str).length=(IB q).length:=BW ..
 generalize hA:(IB q).map IV.str=A at hh hlen;have htk:AU (IB q).length (A++LA q D)=A:=by rw[<-hlen];exact List.take_left
 have spA_of:∀(i:Nat) (a b:Int),EN a->D9 (LA q D) i=NZ a b->SQ (A++LA q D) ((IB q).length+i)=a:=λi a b ha e=>by
  unfold SQ;rw[<-hlen,yB,e,(Ra a b).1];exact jP ha
 have spB_of:∀(i:Nat) (a b:Int),EN b->D9 (LA q D) i=NZ a b->SR (A++LA q D) ((IB q).length+i)=b:=λi a b hb e=>by
  unfold SR;rw[<-hlen,yB,e,(Ra a b).2];exact jP hb
 have hlast:(A++LA q D).length-1=(IB q).length+((LA q D).length-1):=by
  rw[A2,hlen]
  have:0<(LA q D).length:=by unfold LA;simp
  omega
 unfold jI;rw[htk,hh,hlast,<-hlen,yB,hlen];clear htk hh hlast;obtain⟨k,c,a0,b0,a1,b1,a2,b2,a3,b3,a4,b4,lo,hi,ft,fl,bu⟩:=q;have s0:=hsp (a0,b0) (by simp[Qy.spans]);have s1:=hsp (a1,b1) (by simp[Qy.spans]);have s2:=hsp (a2,b2) (by simp[Qy.spans]);have s3:=hsp (a3,b3) (by simp[Qy.spans]);simp only[F5,Qy.mk.injEq,vaS]at ht;obtain⟨t1,t2,t3,t4,t5,t6,t7,t8,t9,t10,_⟩:=ht;have hD:D=1\/D=2\/D=3\/D=4:=by omega
 have n45:a4=0/\b4=0:=by
  rw[AS (show¬(4:Int)<D by omega)]at t9 t10;exact⟨t9,t10⟩
 obtain⟨rfl,rfl⟩:=n45;have hbu:EN bu:=hbu;rcases hD with rfl|rfl|rfl|rfl
 .simp only[show AE ((1:Int)<((1:Nat):Int))=AD from rfl,show AE ((2:Int)<((1:Nat):Int))=AD from rfl,show AE ((3:Int)<((1:Nat):Int))=AD from rfl,BK]at t3 t4 t5 t6 t7 t8;subst t3 t4 t5 t6 t7 t8;rw[spA_of 1 a0 b0 s0.1 rfl,spB_of 1 a0 b0 s0.2 rfl,show D9 (LA ⟨k,c,a0,b0,0,0,0,0,0,0,0,0,lo,hi,ft,fl,bu⟩ 1) ((LA ⟨k,c,a0,b0,0,0,0,0,0,0,0,0,lo,hi,ft,fl,bu⟩ 1).length-1)=DZ bu from rfl,R4 hbu];rfl
 .simp only[show AE ((2:Int)<((2:Nat):Int))=AD from rfl,show AE ((3:Int)<((2:Nat):Int))=AD from rfl,BK]at t5 t6 t7 t8;subst t5 t6 t7 t8;rw[spA_of 1 a0 b0 s0.1 rfl,spB_of 1 a0 b0 s0.2 rfl,spA_of 2 a1 b1 s1.1 rfl,spB_of 2 a1 b1 s1.2 rfl,show D9 (LA ⟨k,c,a0,b0,a1,b1,0,0,0,0,0,0,lo,hi,ft,fl,bu⟩ 2) ((LA ⟨k,c,a0,b0,a1,b1,0,0,0,0,0,0,lo,hi,ft,fl,bu⟩ 2).length-1)=DZ bu from rfl,R4 hbu];rfl
 .simp only[show AE ((3:Int)<((3:Nat):Int))=AD from rfl,BK]at t7 t8;subst t7 t8;rw[spA_of 1 a0 b0 s0.1 rfl,spB_of 1 a0 b0 s0.2 rfl,spA_of 2 a1 b1 s1.1 rfl,spB_of 2 a1 b1 s1.2 rfl,spA_of 3 a2 b2 s2.1 rfl,spB_of 3 a2 b2 s2.2 rfl,show D9 (LA ⟨k,c,a0,b0,a1,b1,a2,b2,0,0,0,0,lo,hi,ft,fl,bu⟩ 3) ((LA ⟨k,c,a0,b0,a1,b1,a2,b2,0,0,0,0,lo,hi,ft,fl,bu⟩ 3).length-1)=DZ bu from rfl,R4 hbu];rfl
 .rw[spA_of 1 a0 b0 s0.1 rfl,spB_of 1 a0 b0 s0.2 rfl,spA_of 2 a1 b1 s1.1 rfl,spB_of 2 a1 b1 s1.2 rfl,spA_of 3 a2 b2 s2.1 rfl,spB_of 3 a2 b2 s2.2 rfl,spA_of 4 a3 b3 s3.1 rfl,spB_of 4 a3 b3 s3.2 rfl,show D9 (LA ⟨k,c,a0,b0,a1,b1,a2,b2,a3,b3,0,0,lo,hi,ft,fl,bu⟩ 4) ((LA ⟨k,c,a0,b0,a1,b1,a2,b2,a3,b3,0,0,lo,hi,ft,fl,bu⟩ 4).length-1)=DZ bu from rfl,R4 hbu];rfl
theorem Ko{q:Qy}{d:Int}(h:PG q d=AC):1<=d/\d<=4/\q=F5 q d/\KS q.c=AC/\KS q.ft=AC/\KS q.bu=AC/\(q.k=1\/q.k=2\/q.k=3):=by
 unfold PG at h;simp only[AQ,CE,B3,vap,CF]at h;obtain⟨⟨h1,h2⟩,h3,h4,h5,h6,h7⟩:=h;exact⟨by omega,by omega,Qy.eq_of h3,h4,h5,h6,h7⟩
theorem zfU(q:Qy)(D:Nat):JW q D≠[]:=by
 unfold JW;simp
theorem Zx{q:Qy}{d:Int}(hc:EN q.c)(hlo:EN q.lo)(hhi:EN q.hi)(hft:EN q.ft)(hbu:EN q.bu)(hsp:∀s∈q.spans,EN s.1/\EN s.2)(h:PG q d=AC):LZ (EW q d)=AC/\E1 (EW q d)=q/\ND (EW q d)=d:=by
 obtain⟨h1,h4,ht,_,_,_,hk⟩:=Ko h;obtain⟨D,rfl⟩:∃D:Nat,d=D:=⟨d.toNat,by omega⟩;have hp:EW q (D:Int)=GU (JW q D) HI:=by
  unfold EW;rw[h];rfl
 have hline:HT (EW q (D:Int))=(JW q D).map IV.str:=by
  rw[hp];exact Im _ (zfU q D) (zfW q D)
 have hI:OG (EW q (D:Int))=((IB q).length:Int):=by
  unfold OG;rw[hline,Vn];show GB ((IB q).map IV.str++IV.str OS::_) OS 0=_;rw[Gw OS _ _ 0 (td q),BW];omega
 have hD:PC (EW q (D:Int))=(D:Int):=by
  unfold PC;rw[hline,hI,BW]
  have:(JW q D).length=(IB q).length+1+D+2:=by
   unfold JW;simp only[A2,AV,BW,BL,BN,Qy.spans];omega
  rw[this];simp only[ic];omega
 have hQ:iP (EW q (D:Int))=q:=by
  unfold iP;rw[hline,hI,hD];exact zcv q hc hlo hhi hft hbu hsp D AG AG hk ht
 have hok:LZ (EW q (D:Int))=AC:=by
  unfold LZ;rw[hI,hD,hQ,AS (show¬((IB q).length:Int)<0 by omega),AS (show¬(D:Int)<1 by omega),AS (show¬(D:Int)>4 by omega),U8];rfl
 refine⟨hok,?_,?_⟩
 .unfold E1;rw[hok,hQ];rfl
 .unfold ND;rw[hok,hD];rfl
theorem Lu{q:Qy}{d:Int}(h:PG q d=AD):EW q d=ZL:=by
 unfold EW;rw[h];rfl
open Go
theorem mF(c:UInt8)(x y:List UInt8)(r:List (List UInt8)):Lib.join (x::y::r) [c]=x++c::Lib.join (y::r) [c]:=by
 rw[Lib.join_cons,Lib.join_cons];simp[Lib.joinTail]
theorem w8(c:UInt8):∀(x:List UInt8) (r:List (List UInt8)),(∀w∈x::r,c∉w)->Lib.split (Lib.join (x::r) [c]) [c]=x::r
 |x,[],h=>by rw[Lib.join_one];exact Rf x c (h x (AY ..))
 |x,y::r,h=>by
  rw[mF,Rc x _ c (h x (AY ..)),w8 c y r (λw hw=>h w (A6 _ hw))]
theorem tN(c e:UInt8)(hne:e≠c):∀(l:List (List UInt8)),(∀w∈l,e∉w)->e∉Lib.join l [c]
 |[],_=>by rw[Lib.join_nil];simp
 |[x],h=>by rw[Lib.join_one];exact h x (AY ..)
 |x::y::r,h=>by
  rw[mF];intro hm;rcases A5.1 hm with hm|hm
  .exact h x (AY ..) hm
  .rcases AW.1 hm with hm|hm
   .exact hne hm
   .exact tN c e hne (y::r) (λw hw=>h w (A6 _ hw)) hm
structure WsOK (ws:List BA):Prop where
 ne:ws≠[]
 sp:∀w∈ws,(32:UInt8)∉w.data.toList
 lf:∀w∈ws,(10:UInt8)∉w.data.toList
def F2(ws:List BA):IV:=.str (GU ws HI)
theorem Hl(ws:List BA):(GU ws HI).data.toList=Lib.join (ws.map (·.data.toList)) [32]:=rfl
theorem Ik(ws:List BA):(FW ws).data.toList=(GU ws HI).data.toList++[10]:=by
 unfold FW;simp
theorem xP:∀(x:List BA) (r:List (List BA)),(GI (x::r)).data.toList=Lib.join ((x::r).map λws=>(GU ws HI).data.toList) [10]++[10]
 |x,[]=>by
  have e:GI [x]=FW x:=by
   show FW x++CQ=_;rw[ByteArray.append_empty]
  rw[e,Ik,A8,CN,Lib.join_one]
 |x,y::r=>by
  have e:(GI (x::y::r)).data.toList=(FW x).data.toList++(GI (y::r)).data.toList:=by
   rw[GI];simp
  rw[e,xP y r,Ik];simp only[A8];rw[mF];simp
theorem Uo{s:BA}{l:List UInt8}(h:s.data.toList=l++[10]):(cH s).data.toList=l:=by
 have hz:s.size=l.length+1:=by rw[UC,h,A2];rfl
 have hs:TW s QS=AC:=by
  unfold TW;have e1:AP QS=1:=rfl;rw[e1,AL (show 1<=s.size by omega),BI,k7];refine AL (U9 ?_);rw[ByteArray.data_extract,Array.toList_extract,List.extract_eq_take_drop,h,hz];simp
 have e1:AP QS=1:=rfl;unfold cH GN;rw[hs,e1];show(s.extract 0 (s.size-1)).data.toList=l;rw[ByteArray.data_extract,Array.toList_extract,List.extract_eq_take_drop,h,hz];simp
theorem vn(x:List BA)(r:List (List BA))(h:∀ws∈x::r,WsOK ws):VT (GI (x::r))=(x::r).map F2:=by
 unfold VT;have hd:(EH (cH (GI (x::r))) QS)=(x::r).map λws=>GU ws HI:=by
  apply m6;rw[Rb,Uo (xP x r)];show Lib.split (Lib.join ((x::r).map λws=>(GU ws HI).data.toList) [10]) [10]=_;rw[List.map_map,A8,w8]
  .rfl
  .intro w hw;rw[<-A8 (f:=λws=>(GU ws HI).data.toList)]at hw;obtain⟨ws,hws,rfl⟩:=CU.1 hw;rw[Hl];refine tN 32 10 (by decide) _ λv hv=>?_
   obtain⟨u,hu,rfl⟩:=CU.1 hv;exact(h ws hws).lf u hu
 rw[hd,List.map_map];rfl
theorem nF{ws:List BA}(h:WsOK ws)(r:LI):FH (F2 ws::r)=ws.map IV.str:=Im ws h.ne h.sp
theorem tZ{l:List UInt8}(h:∀c∈l,45<=c.toNat/\c.toNat<=57):(32:UInt8)∉l/\(10:UInt8)∉l:=by
 refine⟨T5 h,λhc=>?_⟩
 have:=(h _ hc).1
 revert this;decide
theorem YA{n most:Int}(h0:0<=n)(h1:n<=most)(h2:most<=1000):FU (DZ n) most=n:=by
 have hv:FT (DZ n)=n:=zL rfl AG AG;have hn:MK (DZ n)=AC:=by
  unfold MK
  have:(DZ n).data.toList=Lib.itoa n:=rfl
  rw[this,zM n AG AG]
 unfold FU;rw[hn,hv,AS (show¬n<0 by omega),AS (show¬n>most by omega)];rfl
theorem V9{n:Int}(h: -2147483648<=n/\n<=2147483647):GL (D5 n)=n:=jP (by unfold EN;omega)
structure NdIn (x:Nd):Prop where
 v: -2147483648<=x.v/\x.v<=2147483647
 f:0<=x.f/\x.f<4
 a: -2147483648<=x.a/\x.a<=2147483647
 l:0<=x.l/\x.l<31
 r:0<=x.r/\x.r<31
 lf:x.lf=AC->x.f=0/\x.a=0/\x.l=0/\x.r=0
 fk:x.lf=AD->x.v=0
theorem rQ{n:Int}(h:E4 n=AC): -2147483648<=n/\n<=2147483647:=by
 unfold E4 at h
 rwa [AQ,AZ,AZ]at h
theorem zcS{x:Nd}(h:IQ x=AC):NdIn x:=by
 obtain⟨lf,v,f,a,l,r⟩:=x;unfold IQ at h;cases lf with
 |true=>
  simp only[B5,AQ,Nd.eq,CF]at h;obtain⟨⟨_,_,h1,h2,h3,h4,_⟩,hv⟩:=h;subst h1 h2 h3 h4;have z4:(0:Int)<=0/\(0:Int)<4:=by decide
  have z31:(0:Int)<=0/\(0:Int)<31:=by decide
  have zf:(-2147483648:Int)<=0/\(0:Int)<=2147483647:=by decide
  exact⟨rQ hv,z4,zf,z31,z31,λ_=>⟨rfl,rfl,rfl,rfl⟩,λh=>Bool.noConfusion h⟩
 |false=>
  simp only[BK,AQ,CF,AZ,O6]at h;obtain⟨hv,hf0,hf1,ha,⟨hl0,hl1⟩,hr0,hr1⟩:=h;subst hv;have zf:(-2147483648:Int)<=0/\(0:Int)<=2147483647:=by decide
  have l0:(0:Int)<=l:=by omega
  have r0:(0:Int)<=r:=by omega
  exact⟨zf,⟨hf0,hf1⟩,rQ ha,⟨l0,hl1⟩,⟨r0,hr1⟩,λh=>Bool.noConfusion h,λ_=>rfl⟩
theorem WO(w:BA)(h:(w.data.toList.all λc=>!(c==32)&&!(c==10))=AC):(32:UInt8)∉w.data.toList/\(10:UInt8)∉w.data.toList:=by
 rw[CZ]at h;refine⟨λhc=>?_,λhc=>?_⟩
 .have:=h _ hc
  revert this;decide
 .have:=h _ hc
  revert this;decide
theorem kE{ws:List BA}(hne:ws≠[])(h:∀w∈ws,(32:UInt8)∉w.data.toList/\(10:UInt8)∉w.data.toList):WsOK ws:=⟨hne,λw hw=>(h w hw).1,λw hw=>(h w hw).2⟩
theorem YO(n:Int):(32:UInt8)∉(DZ n).data.toList/\(10:UInt8)∉(DZ n).data.toList:=tZ (P9 n)
theorem vD(n:Int):(32:UInt8)∉(D5 n).data.toList/\(10:UInt8)∉(D5 n).data.toList:=tZ (bL n)
theorem Jv(x:Nd):WsOK (MW x):=by
 unfold MW;cases x.lf with
 |true=>
  refine kE (by simp) λw hw=>?_
  simp only[B5,AW,CC,C7]at hw;rcases hw with rfl|rfl
  .exact WO _ (by decide)
  .exact vD _
 |false=>
  refine kE (by simp) λw hw=>?_
  simp only[BK,AW,CC,C7]at hw;rcases hw with rfl|rfl|rfl|rfl|rfl|rfl|rfl|rfl
  .exact WO _ (by decide)
  .exact YO _
  .exact WO _ (by decide)
  .exact vD _
  .exact WO _ (by decide)
  .exact YO _
  .exact WO _ (by decide)
  .exact YO _
theorem zcy{x:Nd}(h:NdIn x):OL ((MW x).map IV.str)=x:=by
 obtain⟨lf,v,f,a,l,r⟩:=x;obtain⟨hv,hf,ha,hl,hr,h1,h2⟩:=h;simp only at hv hf ha hl hr h1 h2;cases lf with
 |true=>
  obtain⟨rfl,rfl,rfl,rfl⟩:=h1 rfl;have e0:OL ((MW ⟨AC,v,0,0,0,0⟩).map IV.str)=⟨AC,GL (D5 v),0,0,0,0⟩:=by
   have:(A7 (D9 ((MW ⟨AC,v,0,0,0,0⟩).map IV.str) 0)==A7 UJ)=AC:=U8 _
   unfold OL;rw[this];rfl
  rw[e0,V9 hv]
 |false=>
  have h2:=h2 rfl;subst h2;have e0:OL ((MW ⟨AD,0,f,a,l,r⟩).map IV.str)=⟨AD,0,FU (DZ f) 4,GL (D5 a),FU (DZ l) 31,FU (DZ r) 31⟩:=by
   have:(A7 (D9 ((MW ⟨AD,0,f,a,l,r⟩).map IV.str) 0)==A7 UJ)=AD:=gN (x:=o4) (y:=UJ) (by decide)
   unfold OL;rw[this];rfl
  rw[e0,YA hf.1 AG AG,V9 ha,YA hl.1 AG AG,YA hr.1 AG AG]
def Vi(w:IV):Prop:=∃n,w=.int n
def Vj(t:IV):Prop:=∃k l,t=.agg [.int k,.list l]/\∀w∈l,Vi w
def cP(m:Md):Prop:=∀t∈m.ts,Vj t
theorem Jz{dim n:Int}:∀{l:LI} {i:Nat},JH dim n i l=AC->∀w∈l,FQ w.toInt=AC
 |[],_,_,w,hw=>by cases hw
 |x::l,i,h,w,hw=>by
  unfold JH at h;rw[AQ,AQ]at h;rcases AW.1 hw with rfl|hw
  .exact h.1.1
  .exact Jz h.2 w hw
theorem zfB{d c:Int}{t:IV}(h:HH d c t=AC):0<=(t.cell 0).toInt/\(t.cell 0).toInt<c/\1<=(t.cell 1).toList.length/\(t.cell 1).toList.length<=31/\∀w∈(t.cell 1).toList,FQ w.toInt=AC:=by
 unfold HH GP at h;simp only[AQ,CE,B3]at h;obtain⟨h1,h2,⟨h3,h4⟩,h5,_⟩:=h;exact⟨by omega,by omega,AX h3,AX h4,Jz h5⟩
theorem zcz{l:LI}(hw:∀w∈l,Vi w)(hn:∀w∈l,FQ w.toInt=AC)(R:LI):NV ((IC l).map F2++R) l.length=l:=by
 apply List.ext_getElem?;intro i;unfold NV;by_cases hi:i<l.length
 .rw[CJ,List.getElem?_range hi];have hdr:A3 i ((IC l).map F2++R)=F2 (MW (DT l[i].toInt))::(((IC l).map F2).drop (i+1)++R):=by
   have hl:((IC l).map F2).length=l.length:=by simp[IC]
   rw[List.drop_append_of_le_length AG,BJ AG];simp[IC]
  have hb:=hn l[i] (C0 hi);obtain⟨p1,p2⟩:=nH hb;obtain⟨n,hn'⟩:=hw l[i] (C0 hi);have e:(IV.int (G9 (OL (FH (A3 i ((IC l).map F2++R))))))=l[i]:=by
   rw[hdr,nF (Jv _),zcy (zcS p2),p1,hn'];rfl
  show AA (IV.int (G9 (OL (FH (A3 i ((IC l).map F2++R))))))=_;rw[e,BD hi]
 .rw[B8 (by simp;omega),B8 AG]
theorem Ui(t:IV):∀ws∈UH t,WsOK ws:=by
 intro ws hws;unfold UH at hws;rcases AW.1 hws with rfl|hws
 .refine kE (by simp) λw hw=>?_
  simp only[AW,CC,C7]at hw;rcases hw with rfl|rfl|rfl
  .exact WO _ (by decide)
  .exact YO _
  .exact YO _
 .unfold IC at hws;obtain⟨w,_,rfl⟩:=CU.1 hws;exact Jv _
theorem Na{d c:Int}(hc:c<=3):∀(n:Nat) (ts:LI),ts.length<=n->(∀t∈ts,Vj t)->ts.all (HH d c)=AC->L8 n ((G3 ts).map F2)=ts
 |0,[],_,_,_=>rfl
 |0,_::_,h,_,_=>by simp at h
 |n+1,[],_,_,_=>rfl
 |n+1,t::r,h,hw,ht=>by
  rw[van,AQ]at ht;obtain⟨k,l,rfl,hl⟩:=hw t (AY ..);obtain⟨h1,h2,h3,h4,h5⟩:=zfB ht.1;have h1:0<=k:=h1;have h2:k<c:=h2;have h3:1<=l.length:=h3;have h4:l.length<=31:=h4;have h5:∀w∈l,FQ w.toInt=AC:=h5;have hws:=Ui (.agg [.int k,.list l]) [PO,DZ k,DZ (ic l.length)] (AY ..);have e:(G3 (.agg [.int k,.list l]::r)).map F2=F2 [PO,DZ k,DZ (ic l.length)]::((IC l).map F2++(G3 r).map F2):=by
   show(([PO,DZ k,DZ (ic l.length)]::IC l)++G3 r).map F2=_;rw[List.map_append,A8];rfl
  have hnx:=nF hws ((IC l).map F2++(G3 r).map F2);have hk:NU (F2 [PO,DZ k,DZ (ic l.length)]::((IC l).map F2++(G3 r).map F2))=l.length:=by
   unfold NU;rw[hnx];show(FU (DZ (ic l.length)) 31).toNat=_;rw[YA (by simp only[ic];omega) (by simp only[ic];omega) AG];simp only[ic];omega
  have hr:bN (F2 [PO,DZ k,DZ (ic l.length)]::((IC l).map F2++(G3 r).map F2))=.agg [.int k,.list l]:=by
   unfold bN;rw[hk,hnx];show IV.agg [IV.int (FU (DZ k) 3),IV.list (NV ((IC l).map F2++(G3 r).map F2) l.length)]=_;rw[YA h1 AG AG,zcz hl h5]
  have hdl:A3 l.length ((IC l).map F2++(G3 r).map F2)=(G3 r).map F2:=by
   have:l.length=((IC l).map F2).length:=by simp[IC]
   rw[this,List.drop_left]
  rw[e,L8,hr,hk,hdl,Na hc n r (by simp at h;omega) (λt ht=>hw t (A6 _ ht)) ht.2]
theorem vz{m:Md}(h:EU m=AC):(1<=m.d/\m.d<=4)/\(1<=m.c/\m.c<=3)/\m.ts.length<=8/\(GR m.c 0 m.b0=AC/\GR m.c 1 m.b1=AC/\GR m.c 2 m.b2=AC)/\m.ts.all (HH m.d m.c)=AC:=by
 unfold EU at h;simp only[AQ,CE,B3]at h;obtain⟨⟨h1,h2,h3,h4,h5⟩,⟨h6,h7,h8⟩,h9⟩:=h;exact⟨⟨by omega,by omega⟩,⟨by omega,by omega⟩,AX h5,⟨h6,h7,h8⟩,h9⟩
theorem pT{c j b:Int}(h:GR c j b=AC):(-2147483648<=b/\b<=2147483647)/\(c<=j->b=0):=by
 unfold GR at h;rw[AQ]at h;refine⟨rQ h.1,λhj=>?_⟩
 have:=h.2
 rw[AL (show j>=c from hj)]at this;simpa using this
theorem rV(m:Md):∀ws∈TX m,WsOK ws:=by
 intro ws hws;unfold TX at hws;simp only[AW,CC,C7]at hws;rcases hws with rfl|rfl
 .refine kE (by simp) λw hw=>?_
  simp only[AW,CC,C7]at hw;rcases hw with rfl|rfl|rfl
  .exact WO _ (by decide)
  .exact YO _
  .exact YO _
 .refine kE (by simp) λw hw=>?_
  rcases AW.1 hw with rfl|hw
  .exact WO _ (by decide)
  .obtain⟨b,_,rfl⟩:=CU.1 hw;exact vD _
theorem Uk:∀(ts:LI),∀ws∈G3 ts,WsOK ws
 |[],ws,h=>by cases h
 |t::r,ws,h=>by
  rw[G3]at h;rcases A5.1 h with h|h
  .exact Ui t ws h
  .exact Uk r ws h
theorem zcx{m:Md}(h:EU m=AC)(hw:cP m):vN ((MU m).map F2)=m:=by
 obtain⟨hd,hc,hl,⟨g0,g1,g2⟩,ht⟩:=vz h;obtain⟨d,c,b0,b1,b2,ts⟩:=m;simp only at hd hc hl g0 g1 g2 ht;obtain⟨i0,_⟩:=pT g0;obtain⟨i1,z1⟩:=pT g1;obtain⟨i2,z2⟩:=pT g2;have hh1:=rV ⟨d,c,b0,b1,b2,ts⟩ [OR,DZ d,DZ c] (AY ..);have hh2:=rV ⟨d,c,b0,b1,b2,ts⟩ (JP::([b0,b1,b2].take c.toNat).map D5) (A6 _ (AY ..));have e:(MU ⟨d,c,b0,b1,b2,ts⟩).map F2=F2 [OR,DZ d,DZ c]::F2 (JP::([b0,b1,b2].take c.toNat).map D5)::(G3 ts).map F2:=rfl;have hn1:=nF hh1 (F2 (JP::([b0,b1,b2].take c.toNat).map D5)::(G3 ts).map F2);have hn2:=nF hh2 ((G3 ts).map F2);have hC:bM ((MU ⟨d,c,b0,b1,b2,ts⟩).map F2)=c:=by
  unfold bM;rw[e,hn1];show FU (DZ c) 3=c;exact YA AG AG AG
 have hT:L8 9 (A3 2 ((MU ⟨d,c,b0,b1,b2,ts⟩).map F2))=ts:=by
  rw[e];show L8 9 ((G3 ts).map F2)=ts;exact Na AG 9 ts AG hw ht
 have hD:FU (D9 (FH ((MU ⟨d,c,b0,b1,b2,ts⟩).map F2)) 1) 4=d:=by
  rw[e,hn1];show FU (DZ d) 4=d;exact YA AG AG AG
 have hB:∀j,L7 ((MU ⟨d,c,b0,b1,b2,ts⟩).map F2) c j=cond (AE ((j:Int)<c)) (GL (D9 ((JP::([b0,b1,b2].take c.toNat).map D5).map IV.str) (1+j))) 0:=λj=>by
  unfold L7;rw[e];show cond _ (GL (D9 (FH (F2 (JP::([b0,b1,b2].take c.toNat).map D5)::(G3 ts).map F2)) (1+j))) 0=_;rw[hn2]
 unfold vN;rw[hC,hT,hD,hB,hB,hB];obtain⟨C,rfl⟩:∃C:Nat,c=(C:Int):=⟨c.toNat,by omega⟩;have w0:∀l,D9 ((JP::l).map IV.str) (1+0)=D9 (l.map IV.str) 0:=λl=>rfl
 have w1:∀l,D9 ((JP::l).map IV.str) (1+1)=D9 (l.map IV.str) 1:=λl=>rfl
 have w2:∀l,D9 ((JP::l).map IV.str) (1+2)=D9 (l.map IV.str) 2:=λl=>rfl
 have v0:∀x l,D9 ((x::l).map IV.str) 0=x:=λx l=>rfl
 have v1:∀x y l,D9 ((x::y::l).map IV.str) 1=y:=λx y l=>rfl
 have v2:∀x y z l,D9 ((x::y::z::l).map IV.str) 2=z:=λx y z l=>rfl
 rw[w0,w1,w2,BE];rcases(show C=1\/C=2\/C=3 by omega)with rfl|rfl|rfl
 .
  have y1:=z1 AG;have y2:=z2 AG;have t:([b0,b1,b2].take 1).map D5=[D5 b0]:=rfl;rw[t,v0,V9 i0,AL (show((0:Nat):Int)<((1:Nat):Int) by omega),AS (show¬((1:Nat):Int)<((1:Nat):Int) by omega),AS (show¬((2:Nat):Int)<((1:Nat):Int) by omega),y1,y2];rfl
 .
  have y2:=z2 AG;have t:([b0,b1,b2].take 2).map D5=[D5 b0,D5 b1]:=rfl;rw[t,v0,v1,V9 i0,V9 i1,AL (show((0:Nat):Int)<((2:Nat):Int) by omega),AL (show((1:Nat):Int)<((2:Nat):Int) by omega),AS (show¬((2:Nat):Int)<((2:Nat):Int) by omega),y2];rfl
 .
  have t:([b0,b1,b2].take 3).map D5=[D5 b0,D5 b1,D5 b2]:=rfl;rw[t,v0,v1,v2,V9 i0,V9 i1,V9 i2,AL (show((0:Nat):Int)<((3:Nat):Int) by omega),AL (show((1:Nat):Int)<((3:Nat):Int) by omega),AL (show((2:Nat):Int)<((3:Nat):Int) by omega)];rfl
theorem zfp{m:Md}(h:EU m=AC)(hw:cP m):OQ (HU m)=AC/\HN (HU m)=m:=by
 have hp:HU m=GI (MU m):=by unfold HU;rw[h];rfl
 have hc:aF (HU m)=m:=by
  unfold aF
  have:VT (HU m)=(MU m).map F2:=by
   rw[hp];exact vn _ _ (λws hws=>by
    have hws:ws∈TX m++G3 m.ts:=hws;rcases A5.1 hws with hws|hws
    .exact rV m ws hws
    .exact Uk m.ts ws hws)
  rw[this,zcx h hw]
 have hk:OQ (HU m)=AC:=by
  unfold OQ;rw[hc,U8,CK]
  have:((HU m).toList==ZL.toList)=AD:=gN (λe=>by
   have hd:=xP [OR,DZ m.d,DZ m.c] ((JP::([m.b0,m.b1,m.b2].take m.c.toNat).map D5)::G3 m.ts);have e':GI (MU m)=ZL:=by rw[<-hp,e]
   have:GI (MU m)=GI ([OR,DZ m.d,DZ m.c]::((JP::([m.b0,m.b1,m.b2].take m.c.toNat).map D5)::G3 m.ts)):=rfl
   rw[<-this,e']at hd
   have:=congrArg AN hd
   rw[A2]at this;simp at this)
  rw[this];rfl
 refine⟨hk,?_⟩;unfold HN;rw[hk,hc];rfl
theorem vy(d c:Int)(bias ts:LI):cP (nB d c bias ts):=by
 intro t ht;have ht:t∈SS d c ts:=ht;unfold SS at ht;obtain⟨u,_,rfl⟩:=CU.1 ht;refine⟨_,_,rfl,λw hw=>?_⟩;unfold NQ at hw;obtain⟨x,_,rfl⟩:=CU.1 hw;exact⟨_,rfl⟩
open Go
def YS(L:List (List UInt8)):List UInt8:=L.flatMap λl=>l++[10]
theorem tB(l:List UInt8)(L:List (List UInt8)):YS (l::L)=l++10::YS L:=by simp[YS]
theorem zfH{s:BA}{l:List UInt8}(h:s.data.toList=l++[10]):(GN s F6).data.toList=l:=Uo h
def WG:Nat->List Vd->BA
 |_,[]=>EQ
 |i,v::r=>L3 i++(JI v++WG (i+1) r)
theorem Gt(i:Nat):0<(L3 i).size:=by
 unfold L3;rw[BC];show 0<_+1;omega
theorem Ve:∀(i:Nat) (vs:List Vd),vs.length<=(WG i vs).size
 |_,[]=>A4 _
 |i,v::r=>by
  have:=Ve (i+1) r
  have hp:=Gt i;unfold WG;rw[BC,BC,AV];omega
open Go
theorem Mg:∀{l:LI} {left out:LI} {most:Int} {st:Int×Int} {lo:LI×LI},(∀y∈left,(EG y).good)->(∀y∈out,(EG y).good)->J6 l (ic left.length,most)=AA st->I7 l (left,out)=AA lo->∀x∈l,K8 x=AC/\RH x
 |[],_,_,_,_,_,_,_,_,_=>λx hx=>by cases hx
 |x::l,left,out,most,st,lo,hl,ho,hd,hp=>by
  rw[J6]at hd;rw[I7]at hp;cases h1:NJ (ic left.length,most) x with
  |none=>rw[h1]at hd;cases hd
  |some s1=>
   cases h2:MY (left,out) x with
   |none=>rw[h2]at hp;cases hp
   |some l1=>
    rw[h1]at hd;rw[h2]at hp;obtain⟨g1,g2,g3⟩:=vH hl ho h1 h2;have hx:K8 x=AC/\RH x:=by
     obtain⟨hne,hr,hd'⟩:=lM h1;refine⟨hr,?_⟩;have hlen:0<left.length:=by simp only[ic]at hne;omega
     have ht:(EC left).good:=hl _ (UG hlen).1;unfold MY at h2;rcases hd' with⟨hs,_⟩|⟨hs,_⟩
     .unfold K8 at hr;rw[hs,DQ]at hr;simp only[AQ,CF]at hr;unfold RH H6;omega
     .have hpl:=nZ hr hs;rw[hs]at h2;cases hc:(AE (GE x<((EC left).g (FP x).toNat).lo)||decide (GE x>=((EC left).g (FP x).toNat).hi))with
      |true=>simp only[hc,BK,B5]at h2;cases h2
      |false=>
       simp only[vag,B3]at hc
       have:=ht (FP x).toNat AG
       unfold RH H6;omega
    obtain⟨a,b⟩:=l1;obtain⟨c,d⟩:=s1;obtain rfl:c=ic a.length:=g3;have ih:=Mg g1 g2 hd hp;intro y hy;rcases AW.1 hy with rfl|hy
    .exact hx
    .exact ih y hy
theorem zcV{x:IV}(h:K8 x=AC):cE x=AC:=by
 unfold K8 at h;unfold cE;cases hs:I1 x with
 |true=>
  rw[hs,DQ]at h;simp only[AQ,CF]at h;simp[h.1,h.2]
 |false=>
  rw[hs,DR]at h;simpa using h
theorem ac{m:Md}{q:Qy}{s:Sr}(h:s.v.kind=2\/s.v.bare=AC):(GO m q s).v.kind=2\/(GO m q s).v.bare=AC:=by
 unfold GO;cases G4 m q (EC s.left)with
 |true=>
  rw[DQ];cases(ic (s.left.length-1)==0)with
  |true=>exact .inr rfl
  |false=>exact h
 |false=>
  rw[DR];cases GH m q (EC s.left).low (EC s.left).s4.hi with
  |true=>exact .inl rfl
  |false=>
   rw[DR];cases(FI m q (EC s.left)).isSome with
   |true=>exact h
   |false=>exact .inr rfl
theorem zO{m:Md}{q:Qy}:∀(d:Nat) (s:Sr),s.v.kind=2\/s.v.bare=AC->(M1 m q d s).v.kind=2\/(M1 m q d s).v.bare=AC
 |0,_,h=>h
 |d+1,s,h=>by
  rw[M1];cases KQ q s with
  |true=>exact h
  |false=>exact zO d _ (ac h)
theorem zc8(m:Md)(q:Qy):(IR m q).kind=2\/(IR m q).bare=AC:=by
 have hn:(VV m q).v.kind=2\/(VV m q).v.bare=AC:=by
  unfold VV;cases E8 m q<;>exact .inr rfl
 have h:=zO (m:=m) (q:=q) (q.bu.toNat+1) _ hn;unfold IR;generalize M1 m q (q.bu.toNat+1) (VV m q)=s at h;rcases h with h|h
 .exact .inl (by simp[HV,h])
 .exact .inr h
theorem tb{b:Bx}(hb:b.good){p:Pt}{t:Int}(h:b.has p t=AC):H6 p.p0/\H6 p.p1/\H6 p.p2/\H6 p.p3/\H6 t:=by
 unfold Bx.has Sp.has at h;simp only[AQ,AZ]at h;have h0: -2147483648<=b.s0.lo/\b.s0.lo<=b.s0.hi/\b.s0.hi<=2147483647:=hb 0 AG;have h1: -2147483648<=b.s1.lo/\b.s1.lo<=b.s1.hi/\b.s1.hi<=2147483647:=hb 1 AG;have h2: -2147483648<=b.s2.lo/\b.s2.lo<=b.s2.hi/\b.s2.hi<=2147483647:=hb 2 AG;have h3: -2147483648<=b.s3.lo/\b.s3.lo<=b.s3.hi/\b.s3.hi<=2147483647:=hb 3 AG;have h4: -2147483648<=b.s4.lo/\b.s4.lo<=b.s4.hi/\b.s4.hi<=2147483647:=hb 4 AG;unfold H6;omega
open Go
theorem Oh{m:Md}{q:Qy}(hr:E8 m q=AC):(IR m q).right=AC/\(IR m q).rng/\((IR m q).kind=1\/(IR m q).kind=2\/(IR m q).kind=3)/\(IR m q).spent<=q.bu/\
  ((IR m q).kind=3->(IR m q).spent=q.bu)/\((IR m q).kind≠3->1<=(IR m q).spent):=by
 have h3:=(bT hr).2.2.1;have hb:=zc8 m q;have hg:=WD hr;have hnew:VV m q=⟨[(FG q).I],[],Vd.none,0⟩:=by unfold VV;rw[hr,DQ]
 obtain⟨hi,ho⟩:=Nr hr (q.bu.toNat+1) _ (zcP hr) (by show q.bu<0+_;omega);unfold IR at hb ⊢;rw[hnew]at hb ⊢;generalize M1 m q (q.bu.toNat+1) _=s at hi ho hb;have hsp:=hi.sp;have r0:AE (0<=(HV s).spent)=AC:=AL hsp.1;have r1:AE ((HV s).spent<=65536)=AC:=AL (by show s.spent<=65536;omega);have hspI:H6 (HV s).spent:=by show H6 s.spent;unfold H6;omega
 have bare_rng:(HV s).bare=AC->(∀x∈(HV s).proof,RH x)->(HV s).rng:=λhbare hst=>by
  obtain⟨z0,z1,z2,z3,z4⟩:=aa hbare;exact{w0:=by rw[z0];exact HO,w1:=by rw[z1];exact HO,w2:=by rw[z2];exact HO,w3:=by rw[z3];exact HO,twin:=by rw[z4];exact HO,spent:=hspI,proof:=hst}
 rcases hi.kinds with hk|hk|hk
 .have ek:(HV s).kind=3:=by simp[HV,hk]
  have hnil:(HV s).proof=[]:=(hi.opn hk).2.2.2.1;have hbare:(HV s).bare=AC:=by
   rcases hb with h|h
   .omega
   .exact h
  have heq:s.spent=q.bu:=by
   unfold KQ at ho;rw[hk]at ho
   have:s.spent>=q.bu:=by simpa using ho
   omega
  refine⟨?_,bare_rng hbare (λx hx=>by rw[hnil]at hx;cases hx),.inr (.inr ek),hsp.2,λ_=>heq,λh=>absurd ek h⟩;unfold Vd.right;rw[r0,r1,hnil,hbare,show((HV s).kind==3)=AC by rw[ek];rfl];simp
 .have ek:(HV s).kind=1:=by simp[HV,hk]
  have hbare:(HV s).bare=AC:=by
   rcases hb with h|h
   .omega
   .exact h
  obtain⟨hrp,hl,hlen,hvp⟩:=hi.holds hk;have epr:(HV s).proof=s.proof:=hvp;obtain⟨outs,hps,_⟩:=hrp.ps;obtain⟨most,hdp,_,_⟩:=hrp.dp;have hst:∀x∈(HV s).proof,K8 x=AC/\RH x:=by
   rw[epr];refine Mg (left:=[(FG q).I]) (out:=[]) (most:=1) (λy hy=>?_) (λy hy=>by cases hy) hdp hps;obtain rfl:=BZ.1 hy;rw[HX];exact hg
  have hl1:1<=s.proof.length:=by
   cases hp:s.proof with
   |nil=>
    rw[hp,hl]at hdp
    have:=congrArg Prod.fst (CB hdp)
    exact absurd (show(1:Int)=0 from this) (by decide)
   |cons x r=>simp
  have hsB:UE (HV s).proof=AC:=by
   unfold UE;rw[epr,AL hl1,AL (show s.proof.length<=65536 by simp only[ic]at hlen;omega),BI,BI,CZ];exact λx hx=>zcV (hst x (by rw[epr];exact hx)).1
  refine⟨?_,bare_rng hbare (λx hx=>(hst x hx).2),.inl ek,hsp.2,λh=>by omega,λ_=>by show 1<=s.spent;simp only[ic]at hlen;omega⟩;unfold Vd.right;rw[r0,r1,hbare,hsB,show((HV s).kind==1)=AC by rw[ek];rfl];rfl
 .have ek:(HV s).kind=2:=by simp[HV,hk]
  obtain⟨hvp,hs1,hh,_⟩:=hi.fails hk;have hnil:(HV s).proof=[]:=hvp;have hin:=tb hg hh;refine⟨?_,{w0:=hin.1,w1:=hin.2.1,w2:=hin.2.2.1,w3:=hin.2.2.2.1,twin:=hin.2.2.2.2,spent:=hspI,proof:=λx hx=>by rw[hnil]at hx;cases hx},.inr (.inl ek),hsp.2,λh=>by omega,λ_=>hs1⟩;unfold Vd.right;rw[r0,r1,hnil,show((HV s).kind==2)=AC by rw[ek];rfl];simp
theorem Vo:o9.right=AC/\o9.rng:=⟨by decide,{w0:=HO,w1:=HO,w2:=HO,w3:=HO,twin:=HO,spent:=HO,proof:=λx hx=>by cases hx}⟩
theorem Zf{m:Md}{q:Qy}(hr:E8 m q=AC):(gJ m q).right=AC/\(gJ m q).rng:=by
 unfold gJ;cases((IR m q).kind==3||NS m q (IR m q))with
 |true=>exact⟨(Oh hr).1,(Oh hr).2.1⟩
 |false=>exact Vo
theorem Ze{m:Md}{l:BA}(h:TJ m l=AC):E8 m (E1 l)=AC:=by
 unfold TJ at h;simp only[AQ]at h;exact h.2.2
theorem Zg(m:Md)(l:BA):(LY m l).right=AC/\(LY m l).rng:=by
 unfold LY;cases h:TJ m l with
 |true=>exact Zf (Ze h)
 |false=>exact Vo
theorem vT(m:Md):∀(ls:LI) (s:BA) (i:Nat),V4 m s i ls=s++WG i (ls.map λx=>LY m x.toStr)
 |[],s,i=>by
  show s=s++EQ;exact(ByteArray.append_empty).symm
 |x::l,s,i=>by
  rw[V4,vT m l,A8,WG,vai,vai]
def XW(m:Md)(ls:LI):List Vd:=ls.map λx=>LY m x.toStr
theorem zde{a:BA}(h:OQ a=AC)(b:BA):PJ a b=WG 0 (XW (HN a) (FO b)):=by
 unfold PJ XW;rw[h,DQ,vT];exact ByteArray.empty_append
theorem Zh(m:Md)(ls:LI):∀v∈XW m ls,v.right=AC/\v.rng:=by
 intro v hv;obtain⟨x,_,rfl⟩:=CU.1 hv;exact Zg m x.toStr
open Go Go.Proofs
theorem wT:D6 PR B0 29 TB:=by
 refine EF [(64,N6),(65,TC)] [] TB [[.list AD [.str]]] Tryz.func29 qj ⟨cD,wX,trivial⟩ ?_;intro vs r hwf h;unfold TB at h;split at h
 .rename_i s;cases hg:(AE (s.size<4294967281))with
  |false=>rw[hg]at h;simp[R.get]at h
  |true=>
  rw[hg,R.get_br,DQ,R.get_ok]at h;refine⟨0,(zq 0 s).trans ?_⟩;have hz:=BB hg;have ht:=cJ s F6;rw[show AE (1<=AP {data:=#[10]})=AC from rfl,CK,AL (show(GN s {data:=#[10]}).size<4294967281 by exact vbn ht hz),DQ,<-h];unfold FO;cases(s.toList==EQ.toList)<;>rfl
 .simp[R.get]at h
theorem zec:D6 PR B0 26 eY:=by
 refine EF [(23,S2),(54,XB),(93,NB),(53,fW)] [] eY [[.z,.list AC [.bool,.z,.z],.z,.z,.z,.z,.z,.z]] Tryz.func26 qi ⟨wJ,Pp,cC,zeD,trivial⟩ ?_;intro vs r hwf h;unfold eY at h;split at h
 .rename_i m l;replace h:=II h;obtain⟨m,rfl,h⟩:=h;cases hg:(AE (l.size<4294967281))with
  |false=>rw[hg]at h;simp[R.get]at h
  |true=>
  rw[hg,R.get_br,DQ,R.get_ok]at h;refine⟨0,(zo 0 m l).trans ?_⟩;rw[hg,DQ,<-h];unfold LY TJ gJ;rw[show(ND l !=m.d)=!(ND l==m.d)from rfl];cases LZ l
  .rfl
  cases(ND l==m.d)
  .rfl
  cases E8 m (E1 l)
  .rfl
  cases((IR m (E1 l)).kind==3)
  .cases NS m (E1 l) (IR m (E1 l))<;>rfl
  .rfl
 .simp[R.get]at h
theorem Nl(m:Md)(s:BA)(i:Nat)(l:LI):s.size+l.length<=(V4 m s i l).size:=by
 rw[vT,BC]
 have:=Ve i (l.map λx=>LY m x.toStr)
 rw[BW]at this;omega
theorem Oi(N:Nat)(a:BA)(ls:LI)(hs:∀x∈ls,x.toStr.size<4294967281)(hl:ls.length<=strMax)(K:Out->St->DU)(hx:∀x y so,K (.exit 0) (WS a EQ ls x y so)=AA (.str so,[])):
  ∀(d i n:Nat) (so:BA),i+d=ls.length->d<n->(V4 (HN a) so i (ls.drop i)).size<=strMax->
   D3 (U0 N) (DS X7 [1,1,1,1,0,1,0,0]) ⟨[4,5,7,18,19,20],[5,7],[]⟩ n (WS a EQ ls (ic ls.length) (i:Int) so) K=AA (.str (V4 (HN a) so i (ls.drop i)),[])
 |0,i,n+1,so,hd,_,_=>by
  rw[D8,Sj,IZ AG,DC AG,DR];exact hx _ _ _
 |d+1,i,n+1,so,hd,hn,hz=>by
  have hi:i<ls.length:=by omega
  rw[BJ hi]at hz ⊢;rw[V4]at hz ⊢;have h1:=Nl (HN a) (so++L3 i++JI (LY (HN a) ls[i].toStr)) (i+1) (ls.drop (i+1));have h2:(so++L3 i++JI (LY (HN a) ls[i].toStr)).size=so.size+(ZM.size+(DZ (i:Int)).size+F6.size)+(JI (LY (HN a) ls[i].toStr)).size:=by
   unfold L3;simp only[BC]
  have e1:ZM.size=6:=rfl;have e2:F6.size=1:=rfl;have h3:(so++L3 i).size=so.size+(ZM.size+(DZ (i:Int)).size+F6.size):=by
   unfold L3;simp only[BC]
  have h4:=hs ls[i] (C0 hi);unfold strMax at hl;rw[D8,Sj,HY hi,IM,GM AG,IX hi];rw[AL (show AP {data:=#[113,117,101,114,121,32]}+(DZ (i:Int)).size<=strMax by show ZM.size+_<=_;omega)];rw[AL (show AP ({data:=#[113,117,101,114,121,32]}++DZ (i:Int))+AP {data:=#[10]}<=strMax by rw[BC];show ZM.size+_+F6.size<=_;omega)];rw[AL (show so.size+(VQ (i:Int)).size<=strMax by rw[<-BC];show(so++L3 i).size<=_;omega)];rw[AL h4,AL (show(JI (LY (HN a) ls[i].toStr)).size<=strMax by omega)];rw[AL (show(so++VQ (i:Int)).size+(JI (LY (HN a) ls[i].toStr)).size<=strMax by show(so++L3 i).size+_<=_;omega)];simp only[DQ,CK];exact Oi N a ls hs (by unfold strMax;omega) K hx d (i+1) n _ AG AG hz
 |0,_,0,_,_,h,_=>by omega
 |_+1,_,0,_,_,h,_=>by omega
theorem zeZ{s sep:BA}{n:Nat}(h:s.size<n):∀x∈EH s sep,x.size<n:=λx hx=>by
 have:=(ZC sep _ s).2 x hx
 omega
theorem Ir{s:BA}{n:Nat}(h:s.size<n):∀x∈FO s,x.toStr.size<n:=by
 intro x hx;unfold FO at hx;cases he:(s.toList==EQ.toList)with
 |true=>rw[he,DQ]at hx;cases hx
 |false=>
  rw[he,DR]at hx;obtain⟨y,hy,rfl⟩:=CU.1 hx;have ht:=cJ s F6;exact zeZ (vbn ht h) y hy
theorem zed:D6 PR B0 27 eZ:=by
 refine EF [(11,XA),(26,eY),(29,TB),(42,PZ),(47,U2),(94,U3),(17,XO)] [(6,⟨[4,5,7,18,19,20],[5,7],[]⟩)] eZ [[.str]] Tryz.func27 qk ⟨Po,zec,wT,jV,wU,wV,Qk,trivial⟩ ?_;intro vs r hwf h;unfold eZ at h;split at h
 .rename_i a b;cases hg:(AE (a.size<4294967281)&&(AE (b.size<4294967281)&&AE ((PJ a b).size<=strMax)))with
  |false=>rw[hg]at h;simp[R.get]at h
  |true=>
  rw[hg,R.get_br,DQ,R.get_ok]at h;rw[AQ,AQ]at hg;have hz:=BB hg.2.2;refine⟨(FO b).length+1,(zt _ a b).trans ?_⟩;rw[hg.1,DQ,<-h];unfold PJ at hz ⊢;cases ht:OQ a with
  |false=>rfl
  |true=>
   rw[ht,DQ]at hz;simp only[A9,DR,DQ];rw[hg.2.1,DQ];have hl:=Nl (HN a) EQ 0 (FO b);have e0:EQ.size=0:=rfl
   have:=Oi ((FO b).length+1) a (FO b) (Ir (BB hg.2.1)) AG _ (λx y so=>jd ((FO b).length+1) a EQ (FO b) x y so) (FO b).length 0 ((FO b).length+1) EQ AG AG (by rw[CD];exact hz)
   rw[CD]at this;exact this
 .simp[R.get]at h
theorem lg(s:BA)(a:Nat):(s.extract a s.size).data.toList=s.data.toList.drop a:=by
 rw[ByteArray.data_extract,Array.toList_extract,List.extract_eq_take_drop];exact C2 (by rw[DA,jU];omega)
def Ek(s:BA):Option Nat->DU
 |some e=>AA (.tup [.str (s.extract 0 e),.str (s.extract e s.size),.bool AC],[])
 |none=>AA (.tup [.str EQ,.str EQ,.bool AD],[])
theorem El(N:Nat)(s:BA)(n:Int)(hs:s.size<4294967281)(K:Out->St->DU)
  (hx:∀at_ x,K (.exit 0) (RP s EQ EQ AD at_ n x)=cond (AE (0<=at_)&&AE (at_<=ic s.size)) (cond (AE (0<=at_)&&AE (at_<=ic s.size)) (AA (.tup [.str (s.extract 0 at_.toNat),.str (s.extract at_.toNat s.size),.bool AC],[])) AB) AB)
  (hr:∀at_ x,K .ret (RP s EQ EQ AD at_ n x)=AA (.tup [.str EQ,.str EQ,.bool AD],[])):
  ∀(f d at_ i:Nat),at_+d=s.size->d<f->i<=at_->
   D3 (RT N) (DS VC [1,1,0,1,0,0]) ⟨[0,4,5,6,7,9,10],[],[]⟩ f (RP s EQ EQ AD (at_:Int) n (i:Int)) K=Ek s (VU s.data.toList (n-i).toNat at_)
 |f+1,d,at_,i,hd,hf,hi=>by
  have hin:(AE (0<=((at_:Nat):Int))&&AE (((at_:Nat):Int)<=ic s.size))=AC:=by
   rw[AL (show 0<=((at_:Nat):Int) by omega),AL (show((at_:Nat):Int)<=ic s.size by simp only[ic];omega)];rfl
  rw[D8,ze4];by_cases hn:((i:Nat):Int)<n
  .rw[AL hn,DQ,hin,DQ,BE,lg];rw[show(Nat.toUInt8 (AM 10))=(10:UInt8)from rfl];have hb:=rX (s.data.toList.drop at_) 10;rw[DA,<-jU]at hb;obtain⟨k,hk⟩:∃k,(n-i).toNat=k+1:=⟨(n-i).toNat-1,by omega⟩;rw[hk,VU];cases hc:AE (var (s.data.toList.drop at_) 10<0)with
   |true=>
    rw[DQ,DQ];exact hr _ _
   |false=>
    rw[DR,DR];have h0:=BM hc;obtain⟨j,hj⟩:∃j:Nat,var (s.data.toList.drop at_) 10=(j:Int):=⟨(var (s.data.toList.drop at_) 10).toNat,by omega⟩;rw[hj]at hb ⊢;have w1:AI AJ ((j:Int)+1)=(j:Int)+1:=ER AG AG;have w2:AI AJ ((at_:Int)+((j:Int)+1))=((at_+j+1:Nat):Int):=by
     rw[show(at_:Int)+((j:Int)+1)=((at_+j+1:Nat):Int) by omega];exact ER AG AG
    have w3:AI AJ ((i:Int)+1)=((i+1:Nat):Int):=by
     rw[show(i:Int)+1=((i+1:Nat):Int) by omega];exact ER AG AG
    rw[w1,w2,w3,BE];have ih:=El N s n hs K hx hr f (s.size-(at_+j+1)) (at_+j+1) (i+1) AG AG AG;rw[ih]
    have:(n-((i+1:Nat):Int)).toNat=k:=by omega
    rw[this]
  .rw[AS hn,DR,show(n-i).toNat=0 by omega,VU,hx,hin,DQ,DQ,BE];rfl
 |0,d,at_,i,_,hf,_=>by omega
theorem dt(s:BA)(n:Int):Ek s (VU s.data.toList n.toNat 0)=AA (.tup [.str (KY s n),.str (YB s n),.bool (O7 s n)],[]):=by
 unfold KY YB O7 qO;cases VU s.data.toList n.toNat 0<;>rfl
theorem zdv:D6 PR B0 56 dC:=by
 refine EF [(121,kQ)] [(3,⟨[0,4,5,6,7,9,10],[],[]⟩)] dC [[.str],[.str],[.bool]] Tryz.func56 mv ⟨zeP,trivial⟩ ?_;intro vs r hwf h;unfold dC at h;split at h
 .rename_i s n;cases hg:(AE (s.size<4294967281))with
  |false=>rw[hg]at h;simp[R.get]at h
  |true=>
  rw[hg,R.get_br,DQ,R.get_ok]at h;refine⟨s.size+1,(wx _ s n).trans ?_⟩
  have:=El (s.size+1) s n (BB hg) _ (λa x=>gf (s.size+1) s EQ EQ AD a n x) (λa x=>gg (s.size+1) s EQ EQ AD a n x) (s.size+1) s.size 0 0 AG AG AG
  refine this.trans ?_;rw[show(n-((0:Nat):Int)).toNat=n.toNat by omega,dt,<-h]
 .simp[R.get]at h
theorem zdw:D6 PR B0 57 dD:=by
 refine EF [(122,R0),(64,N6),(65,TC)] [] dD [[.z]] Tryz.func57 mw ⟨oH,cD,wX,trivial⟩ ?_;intro vs r hwf h;unfold dD at h;split at h
 .rename_i s;cases hg:(AE (s.size<4294967281))with
  |false=>rw[hg]at h;simp[R.get]at h
  |true=>
  rw[hg,R.get_br,DQ,R.get_ok]at h;refine⟨0,(wy 0 s).trans ?_⟩;have hz:=BB hg;have ht:=cJ s F6;rw[show AE (1<=AP {data:=#[32]})=AC from rfl,CK,AL (show(GN s {data:=#[10]}).size<4294967281 by exact vbn ht hz),DQ];rw[xA,show(AE ((0:Nat)<=0)&&AC)=AC from rfl,DQ,<-h];show _=(AA (V.int .i64 (QA s),[]):DU);unfold QA OT D9 YT;rw[show AM 0=0 from rfl,show AM 2=2 from rfl];generalize hL:BG IV.str (EH (GN s F6) WK)=L;cases((L.getD 0 default).toStr.toList==QR.toList)
  .rfl
  cases h3:(ic L.length==3)with
  |false=>
   rw[show(ic L.length !=3)=!(ic L.length==3)from rfl,h3];rfl
  |true=>
   rw[show(ic L.length !=3)=!(ic L.length==3)from rfl,h3];have e3:ic L.length=3:=by simpa using h3
   rw[e3,show(AE ((0:Nat)<=2)&&AE ((2:Int)<3))=AC from rfl];simp only[A9,Bool.or_self,DR,DQ];cases MK (L.getD 2 default).toStr
   .rfl
   cases AE (FT (L.getD 2 default).toStr<0)
   .cases AE (FT (L.getD 2 default).toStr>65536)<;>rfl
   .rfl
 .simp[R.get]at h
theorem zdu:D6 PR B0 48 dA:=by
 refine EF [(23,S2),(54,XB),(93,NB)] [] dA [[.bool]] Tryz.func48 mu ⟨wJ,Pp,cC,trivial⟩ ?_;intro vs r hwf h;unfold dA at h;split at h
 .rename_i m l v;replace h:=II h;obtain⟨m,rfl,h⟩:=h;replace h:=Vm h;obtain⟨v,rfl,h⟩:=h;cases hg:(AE (l.size<4294967281))with
  |false=>rw[hg]at h;simp[R.get]at h
  |true=>
  rw[hg,R.get_br,DQ,R.get_ok]at h;refine⟨0,(ww 0 m l v).trans ?_⟩;rw[hg,DQ,<-h];unfold TK TJ;rw[show(ND l !=m.d)=!(ND l==m.d)from rfl];have hw:(cond (v.kind==4) (AA (V.bool (v.spent==0),[])) (AA (V.bool AD,[])):DU)=AA (V.bool (v.kind==4&&v.spent==0),[]):=by cases v.kind==4<;>rfl
  cases LZ l
  .exact hw
  cases(ND l==m.d)
  .exact hw
  cases E8 m (E1 l)
  .exact hw
  simp only[A9,DR,DQ,BR];cases v.kind==3
  .cases v.kind==1<;>cases v.kind==2<;>cases AE (v.spent>=1)<;>cases AE (v.spent<=(E1 l).bu)<;>rfl
  .rfl
 .simp[R.get]at h
open Go Go.Proofs
def RS(N:Nat):Env:=EE [(56,dC),(57,dD),(58,dL),(42,PZ),(55,Z0)] [(3,⟨[0,2,3,4,5],[56],[⟨.tmp 4,56,50,AC,TZ⟩]⟩)] 59 N
abbrev OU(s0:BA)(b3:Bool)(n4:Nat)(x5:Int)(lo56:LI):St:=⟨[(0,(.str s0)),(2,.zs),(3,(.bool b3)),(4,(.row 56 0 n4)),(5,(.i x5))],[(56,(AA (.row AC 50 AC [.z,.list AC EO,.z,.z,.z,.z,.z,.z] lo56)))]⟩
theorem wv(N:Nat)(u00:BA):EA (RS N) VB [.tmp 2,.tmp 3] [[.list AC [.z,.list AC [.bool,.z,.z],.z,.z,.z,.z,.z,.z]],[.bool]] [.str u00]=(D3 (RS N) (DS VB [1,1,0,1,0,0]) ⟨[0,2,3,4,5],[56],[⟨(.tmp 4),56,50,AC,[.z,.list AC EO,.z,.z,.z,.z,.z,.z]⟩]⟩ N (OU u00 AD 0 0 []) (DW 0 (DX (RS N) (DS VB [1,1,1]) (D2 (RS N) AB [.tmp 2,.tmp 3] [[.list AC [.z,.list AC EO,.z,.z,.z,.z,.z,.z]],[.bool]])))):=AF
theorem ze3(N:Nat)(s0:BA)(b3:Bool)(n4:Nat)(x5:Int)(lo56:LI)(again:St->DU)(k:Out->St->DU):EY (RS N) (DS VB [1,1,0,1,0,0]) (OU s0 b3 n4 x5 lo56) (ES again ⟨[0,2,3,4,5],[56],[⟨(.tmp 4),56,50,AC,[.z,.list AC EO,.z,.z,.z,.z,.z,.z]⟩]⟩ k)=(cond (!A7 s0==A7 {data:=#[]}) (cond (AE (AP {data:=#[113,117,101,114,121,32]}+AP (DZ x5)<=strMax)) (cond (AE (AP ({data:=#[113,117,101,114,121,32]}++DZ x5)+AP {data:=#[10]}<=strMax)) (cond (!P7 s0 (VQ x5)) (k .ret (OU s0 AD n4 x5 lo56)) (cond (AE (AP (RC s0 x5)<4294967281)) (cond (!O7 (RC s0 x5) 1) (k .ret (OU s0 AD n4 x5 lo56)) (cond (AE (AP (KY (RC s0 x5) 1)<4294967281)) (cond (AE (AP (RC s0 x5)<4294967281)) (cond (!O7 (RC s0 x5) (QA (KY (RC s0 x5) 1))) (k .ret (OU s0 AD n4 x5 lo56)) (cond (AE (AP (QK s0 x5)<4294967281)) (cond (AE (AP (JI (KD (QK s0 x5)))<=strMax)) (cond (!bJ (QK s0 x5)) (k .ret (OU s0 AD n4 x5 lo56)) (cond (AE ((n4+1)*80<=EL)) (again (OU (Nz s0 x5) b3 (n4+1) (AI AJ (x5+1)) (AU n4 lo56++[IV.agg [IV.int (Vd.kind (K6 (QK s0 x5))),IV.list (Vd.proof (K6 (QK s0 x5))),IV.int (Vd.w0 (K6 (QK s0 x5))),IV.int (Vd.w1 (K6 (QK s0 x5))),IV.int (Vd.w2 (K6 (QK s0 x5))),IV.int (Vd.w3 (K6 (QK s0 x5))),IV.int (Vd.twin (K6 (QK s0 x5))),IV.int (Vd.spent (K6 (QK s0 x5)))]]))) AB)) AB) AB)) AB) AB)) AB)) AB) AB) (k (.exit 0) (OU s0 b3 n4 x5 lo56))):=AF
theorem gc(N:Nat)(s0:BA)(b3:Bool)(n4:Nat)(x5:Int)(lo56:LI):(DW 0 (DX (RS N) (DS VB [1,1,1]) (D2 (RS N) AB [.tmp 2,.tmp 3] [[.list AC [.z,.list AC EO,.z,.z,.z,.z,.z,.z]],[.bool]]))) (.exit 0) (OU s0 b3 n4 x5 lo56)=(AA (.tup [.list AC [.z,.list AC EO,.z,.z,.z,.z,.z,.z] (A3 0 (AU n4 lo56)),.bool AC],[])):=AF
theorem gd(N:Nat)(s0:BA)(b3:Bool)(n4:Nat)(x5:Int)(lo56:LI):(DW 0 (DX (RS N) (DS VB [1,1,1]) (D2 (RS N) AB [.tmp 2,.tmp 3] [[.list AC [.z,.list AC EO,.z,.z,.z,.z,.z,.z]],[.bool]]))) .ret (OU s0 b3 n4 x5 lo56)=(AA (.tup [.list AC [.z,.list AC EO,.z,.z,.z,.z,.z,.z] [],.bool b3],[])):=AF
def RR(N:Nat):Env:=EE [(15,S3),(48,dA),(29,TB),(17,XO)] [(9,⟨[6,7,10,38,39,40],[7],[]⟩)] 54 N
abbrev RO(u00:BA)(b6:Bool)(l10 l38:LI)(x39 x40:Int):St:=⟨[(6,(.bool b6)),(7,(.ptr 7 0 0)),(10,(.list AD [.str] l10)),(38,(.list AC [.z,.list AC EO,.z,.z,.z,.z,.z,.z] l38)),(39,(.i x39)),(40,(.i x40))],[(7,(AA (.box (Md.cs (HN u00)))))]⟩
theorem wu(N:Nat)(u00 u01 u02:BA):EA (RR N) VA [.tmp 6] [[.bool]] [.str u00,.str u01,.str u02]=(cond (AE (AP u00<4294967281)) (cond (!OQ u00) (AA ((.bool (A7 u02==A7 {data:=#[109,111,100,101,108,10]})),[])) (cond (AE (AP u02<4294967281)) (cond (Option.isSome (N0 u02)) (cond (AE (AP u01<4294967281)) (cond (ic (AN (vbq (N0 u02) []))!=ic (AN (FO u01))) (AA (.bool AD,[])) (D3 (RR N) (DS VA [1,1,1,1,1,1,0,1,0,0]) ⟨[6,7,10,38,39,40],[7],[]⟩ N (RO u00 AD (FO u01) (vbq (N0 u02) []) (ic (AN (vbq (N0 u02) []))) 0) (DW 0 (DX (RR N) (DS VA [1,1,1,1,1,1,1]) (D2 (RR N) AB [.tmp 6] [[.bool]]))))) AB) (cond (AE (AP u01<4294967281)) (AA (.bool AD,[])) AB)) AB)) AB):=AF
theorem Rn(N:Nat)(u00:BA)(b6:Bool)(l10 l38:LI)(x39 x40:Int)(again:St->DU)(k:Out->St->DU):EY (RR N) (DS VA [1,1,1,1,1,1,0,1,0,0]) (RO u00 b6 l10 l38 x39 x40) (ES again ⟨[6,7,10,38,39,40],[7],[]⟩ k)=(cond (AE (x40<x39)) (cond (AE (0<=x40)&&AE (x40<ic (AN l38))) (cond (AE (0<=x40)&&AE (x40<ic (AN l10))) (cond (AE (AP (IV.toStr (AR l10 (AM x40) default))<4294967281)) (cond (!TK (HN u00) (IV.toStr (AR l10 (AM x40) default)) (QQ (AR l38 (AM x40) default))) (k .ret (RO u00 AD l10 l38 x39 x40)) (again (RO u00 b6 l10 l38 x39 (AI AJ (x40+1))))) AB) AB) AB) (k (.exit 0) (RO u00 b6 l10 l38 x39 x40))):=AF
theorem fx(N:Nat)(u00:BA)(b6:Bool)(l10 l38:LI)(x39 x40:Int):(DW 0 (DX (RR N) (DS VA [1,1,1,1,1,1,1]) (D2 (RR N) AB [.tmp 6] [[.bool]]))) (.exit 0) (RO u00 b6 l10 l38 x39 x40)=(AA (.bool AC,[])):=AF
theorem fy(N:Nat)(u00:BA)(b6:Bool)(l10 l38:LI)(x39 x40:Int):(DW 0 (DX (RR N) (DS VA [1,1,1,1,1,1,1]) (D2 (RR N) AB [.tmp 6] [[.bool]]))) .ret (RO u00 b6 l10 l38 x39 x40)=(AA (.bool b6,[])):=AF
open Go Go.Proofs
theorem Kx(s:BA)(n:Int):(KY s n).size<=s.size:=by
 unfold KY;cases O7 s n with
 |true=>rw[DQ,vay];omega
 |false=>exact CH _
theorem ae(s:BA)(n:Int):(YB s n).size<=s.size:=by
 unfold YB;cases O7 s n with
 |true=>rw[DQ,vay];omega
 |false=>exact CH _
theorem zfI{s p:BA}(h:P7 s p=AC)(hp:0<p.size):(GT s p).size<s.size:=by
 have h1:Lib.hasPrefix s.data.toList p.data.toList=AC:=h;have h2:p.data.toList.length<=s.data.toList.length:=by
  unfold Lib.hasPrefix at h1;rw[List.isPrefixOf_iff_prefix]at h1;exact h1.length_le
 have e:(GT s p).size=s.data.toList.length-p.data.toList.length:=by
  unfold GT Lib.trimPrefix;rw[BX h1];show(List.toArray _).size=_;rw[DM,DA]
 rw[jU]at hp ⊢;rw[<-jU,e,jU];omega
def zfo:Option LI->DU
 |some l=>AA (.tup [.list AC TZ l,.bool AC],[])
 |none=>AA (.tup [.list AC TZ [],.bool AD],[])
theorem ud(i:Nat)(h:i<=9223372036854775807):(DZ (i:Int)).size<=21:=aT (by show -9223372036854775808<=_;omega) (by show _<=(9223372036854775807:Int);omega)
theorem Re(N:Nat)(K:Out->St->DU)
  (hx:∀s x O,K (.exit 0) (OU s AD O.length x O)=AA (.tup [.list AC TZ (A3 0 (AU O.length O)),.bool AC],[]))
  (hr:∀s x O n,K .ret (OU s AD n x O)=AA (.tup [.list AC TZ [],.bool AD],[])):
  ∀(m n:Nat) (s:BA) (i:Nat) (O:LI),s.size<m->m<=n->s.size<4294967281->i+s.size<=4294967281->O.length=i->
   D3 (RS N) (DS VB [1,1,0,1,0,0]) ⟨[0,2,3,4,5],[56],[⟨(.tmp 4),56,50,AC,TZ⟩]⟩ n (OU s AD O.length (i:Int) O) K=zfo (j7 m i s O)
 |m+1,n+1,s,i,O,hm,hn,hs,hi,hO=>by
  rw[D8,ze3,j7];cases h0:(s.toList==EQ.toList)with
  |true=>
   rw[A9,DR,DQ,hx,CD,BS];rfl
  |false=>
   have hit:=ud i AG;have e1:AP {data:=#[113,117,101,114,121,32]}=6:=rfl;have e2:AP {data:=#[10]}=1:=rfl;rw[BF,DQ,DR];rw[AL (show AP {data:=#[113,117,101,114,121,32]}+(DZ (i:Int)).size<=strMax by unfold strMax;omega),DQ];rw[AL (show AP ({data:=#[113,117,101,114,121,32]}++DZ (i:Int))+AP {data:=#[10]}<=strMax by rw[BC];unfold strMax;omega),DQ];unfold Oa;rw[show VQ (i:Int)=L3 i from rfl];cases hp:P7 s (L3 i)with
   |false=>
    rw[BF,DQ,BP,DR,hr];rfl
   |true=>
    have hlt:(K9 s i).size<s.size:=zfI hp (Gt i);have ho1:=Kx (K9 s i) 1;have ho2:=Kx (K9 s i) (QA (KY (K9 s i) 1));have hb2:=ae (K9 s i) (QA (KY (K9 s i) 1));rw[A9,DR,BI];rw[show RC s (i:Int)=K9 s i from rfl,show QK s (i:Int)=V8 s i from rfl,show Nz s (i:Int)=n8 s i from rfl];rw[AL (show(K9 s i).size<4294967281 by omega),DQ];cases hc1:O7 (K9 s i) 1 with
    |false=>
     rw[BF,DQ,BP,DR,hr];rfl
    |true=>
     rw[A9,DR,BI,AL (show(KY (K9 s i) 1).size<4294967281 by omega),DQ,DQ];cases hc2:O7 (K9 s i) (QA (KY (K9 s i) 1))with
     |false=>
      rw[BF,DQ,BP,DR,hr];rfl
     |true=>
      have hpz:=Lr (zcB (V8 s i));rw[A9,DR,BI,AL (show(V8 s i).size<4294967281 by show(KY _ _).size<_;omega),DQ,AL (show(JI (KD (V8 s i))).size<=strMax by unfold strMax;omega),DQ];cases hc3:bJ (V8 s i)with
      |false=>
       rw[BF,DQ,DR,hr];rfl
      |true=>
       rw[A9,DR,DQ,AL (show(O.length+1)*80<=EL by unfold EL;omega),DQ,BS,GM AG];have hsz:(n8 s i).size<s.size:=vbn hb2 hlt;have ih:=Re N K hx hr m n (n8 s i) (i+1) (O++[(K6 (V8 s i)).I]) AG AG AG AG (by rw[A2];simp;omega);rw[<-ih,A2];rfl
 |0,_,_,_,_,h,_,_,_,_=>by omega
 |_+1,0,_,_,_,_,h,_,_,_=>by omega
theorem wK:D6 PR B0 15 S3:=by
 refine EF [(56,dC),(57,dD),(58,dL),(42,PZ),(55,Z0)] [(3,⟨[0,2,3,4,5],[56],[⟨.tmp 4,56,50,AC,TZ⟩]⟩)] S3 [[.list AC [.z,.list AC [.bool,.z,.z],.z,.z,.z,.z,.z,.z]],[.bool]] Tryz.func15 mt ⟨zdv,zdw,zdE,jV,Qh,trivial⟩ ?_;intro vs r hwf h;unfold S3 at h;split at h
 .rename_i s;rw[R.get_br]at h;cases hg:AE (s.size<4294967281)with
  |false=>rw[hg]at h;simp[R.get]at h
  |true=>
   have hs:=BB hg;refine⟨s.size+1,(wv _ s).trans ?_⟩
   have:=Re (s.size+1) _ (λs' x O=>gc (s.size+1) s' AD O.length x O) (λs' x O n=>gd (s.size+1) s' AD n x O) (s.size+1) (s.size+1) s 0 [] AG AG hs AG rfl
   refine this.trans ?_;rw[hg,DQ,R.get_br]at h;rw[<-h];unfold N0;cases j7 (s.size+1) 0 s []<;>rfl
 .simp[R.get]at h
theorem zQ(N:Nat)(a:BA)(ls vs:LI)(hs:∀x∈ls,x.toStr.size<4294967281)(hl:vs.length=ls.length)(hm:vs.length<=4294967281)(K:Out->St->DU)
  (hx:∀x y,K (.exit 0) (RO a AD ls vs x y)=AA (.bool AC,[])) (hr:∀x y,K .ret (RO a AD ls vs x y)=AA (.bool AD,[])):
  ∀(d i n:Nat),i+d=vs.length->d<n->
   D3 (RR N) (DS VA [1,1,1,1,1,1,0,1,0,0]) ⟨[6,7,10,38,39,40],[7],[]⟩ n (RO a AD ls vs (ic vs.length) (i:Int)) K=AA (.bool (U6 (HN a) (vs.drop i) (ls.drop i)),[])
 |0,i,n+1,hd,_=>by
  rw[D8,Rn,IZ AG,DC (l:=vs) AG,DR];exact hx _ _
 |d+1,i,n+1,hd,hn=>by
  have hi:i<vs.length:=by omega
  have hi2:i<ls.length:=by omega
  have h4:=hs ls[i] (C0 hi2);rw[D8,Rn,HY hi,IM,HY (l:=ls) hi2,GM AG,IX hi,IX hi2];rw[BJ hi,BJ hi2,AL h4];simp only[DQ,CK];show _=(AA (V.bool (TK (HN a) ls[i].toStr (QQ vs[i])&&U6 (HN a) (vs.drop (i+1)) (ls.drop (i+1))),[]):DU);cases TK (HN a) ls[i].toStr (QQ vs[i])with
  |false=>
   rw[BF,DQ,BP];exact hr _ _
  |true=>
   rw[A9,DR,BI];exact zQ N a ls vs hs hl hm K hx hr d (i+1) n AG AG
 |0,_,0,_,h=>by omega
 |_+1,_,0,_,h=>by omega
theorem ve(s:BA):(FO s).length<=s.size+1:=by
 unfold FO;cases(s.toList==EQ.toList)with
 |true=>exact CH _
 |false=>
  rw[DR,BW];have h1:=(ZC F6 (Lib.countB (GN s F6) F6) (GN s F6)).1;have h2:=Lib.countB_le F6 (by decide) _ (GN s F6) (A4 _);have h3:=cJ s F6;show(Lib.splitB F6 0 (Lib.countB (GN s F6) F6) (GN s F6)).length<=_;omega
theorem Pl:D6 PR B0 12 W7:=by
 refine EF [(15,S3),(48,dA),(29,TB),(17,XO)] [(9,⟨[6,7,10,38,39,40],[7],[]⟩)] W7 [[.bool]] Tryz.func12 mr ⟨wK,zdu,wT,Qk,trivial⟩ ?_;intro vs r hwf h;unfold W7 at h;split at h
 .rename_i a b r0;cases hg:(AE (a.size<4294967281)&&(AE (b.size<4294967281)&&AE (r0.size<4294967281)))with
  |false=>rw[hg]at h;simp[R.get]at h
  |true=>
  rw[hg,R.get_br,DQ,R.get_ok]at h;rw[AQ,AQ]at hg;refine⟨(FO b).length+1,(wu _ a b r0).trans ?_⟩;rw[hg.1,hg.2.1,hg.2.2,DQ,DQ,DQ,<-h];unfold bR;cases ht:OQ a with
  |false=>rfl
  |true=>
   simp only[A9,DR,DQ];cases hq:N0 r0 with
   |none=>rfl
   |some vs=>
    show cond (ic vs.length !=ic (FO b).length) _ _=(AA (V.bool (ic vs.length==ic (FO b).length&&U6 (HN a) vs (FO b)),[]):DU);cases he:(ic vs.length==ic (FO b).length)with
    |false=>
     rw[show(ic vs.length !=ic (FO b).length)=!(ic vs.length==ic (FO b).length)from rfl,he];rfl
    |true=>
     rw[show(ic vs.length !=ic (FO b).length)=!(ic vs.length==ic (FO b).length)from rfl,he];have hl:vs.length=(FO b).length:=by
      have:ic vs.length=ic (FO b).length:=by simpa using he
      simp only[ic]at this;omega
     have hbz:=BB hg.2.1;have hll:=ve b
     have:=zQ ((FO b).length+1) a (FO b) vs (Ir hbz) hl AG _ (λx y=>fx ((FO b).length+1) a AD (FO b) vs x y) (λx y=>fy ((FO b).length+1) a AD (FO b) vs x y) vs.length 0 ((FO b).length+1) AG AG
     rw[CD,CD]at this;exact this
 .simp[R.get]at h
open Go
theorem Ij:∀(x:List UInt8) (L:List (List UInt8)),YS (x::L)=Lib.join (x::L) [10]++[10]
 |x,[]=>by rw[tB,Lib.join_one];rfl
 |x,y::L=>by rw[tB,Ij y L,mF];simp
theorem vg(s:BA)(hs:s.data.toList≠[]):(FO s).map (λy=>y.toStr.data.toList)=Lib.split (GN s F6).data.toList [10]:=by
 unfold FO;have e:(s.toList==EQ.toList)=AD:=by
  rw[bf];exact AS λh=>hs (by rw[h])
 rw[e,DR,List.map_map]
 have:((λx=>x.toStr.data.toList)∘IV.str)=λb:BA=>b.data.toList:=rfl
 rw[this,zeW]
theorem vj{s:BA}{x:List UInt8}{L:List (List UInt8)}(h:s.data.toList=YS (x::L))(hno:∀l∈x::L,(10:UInt8)∉l):(FO s).map (λy=>y.toStr.data.toList)=x::L:=by
 rw[Ij]at h;rw[vg s (by rw[h];simp),zfH h,w8 10 x L hno]
theorem vh(s:BA):∃l:List BA,FO s=l.map IV.str:=by
 unfold FO;cases(s.toList==EQ.toList)with
 |true=>exact⟨[],rfl⟩
 |false=>exact⟨_,rfl⟩
theorem vi{s:BA}{L:List BA}(h:(FO s).map (λy=>y.toStr.data.toList)=L.map (·.data.toList)):FO s=L.map IV.str:=by
 obtain⟨l,hl⟩:=vh s;rw[hl]at h ⊢;rw[List.map_map]at h
 have:((λx=>x.toStr.data.toList)∘IV.str)=λb:BA=>b.data.toList:=rfl
 rw[this]at h;rw[m6 h]
theorem vl:FO EQ=[]:=by simp[FO]
open Go
theorem zb5{q:Qy}(hq:q.In)(d:Int):(EW q d).size<=2000:=by
 cases h:PG q d with
 |false=>rw[Lu h];decide
 |true=>
  obtain⟨h1,h4,_,_,_,_,hk⟩:=Ko h;have hp:EW q d=GU (JW q d.toNat) HI:=by
   unfold EW;rw[h];rfl
  have zi:∀{n:Int},EN n->(DZ n).size<=100:=λh=>by have:=sF h;omega
  have zp:∀{n:Int},EN n->(D5 n).size<=100:=λh=>by have:=(Y6 _ h).2;omega
  have hl:(JW q d.toNat).length<=15:=by
   unfold JW IB;simp only[A2,AV,BW,BL,BN,Qy.spans];cases(q.k==1)<;>cases(q.k==2)<;>simp only[B5,BK,AV,BN]<;>omega
  have hz:=Hm (JW q d.toNat) (λw hw=>by
   unfold JW at hw;rcases A5.1 hw with hw|hw
   .rcases A5.1 hw with hw|hw
    .unfold IB at hw;cases h1:(q.k==1)<;>rw[h1]at hw<;>simp only[B5,BK]at hw
     .cases h2:(q.k==2)<;>rw[h2]at hw<;>simp only[B5,BK,AW,CC,C7]at hw
      .rcases hw with rfl|rfl|rfl|rfl
       .cases q.fl<;>decide
       .exact zi hq.c
       .decide
       .exact zi hq.ft
      .rcases hw with rfl|rfl
       .decide
       .exact zi hq.c
     .simp only[AW,CC,C7]at hw;rcases hw with rfl|rfl|rfl|rfl|rfl|rfl
      .decide
      .exact zi hq.c
      .decide
      .exact zp hq.lo
      .decide
      .exact zp hq.hi
    .rcases AW.1 hw with rfl|hw
     .decide
     .obtain⟨s,hs,rfl⟩:=CU.1 hw;have hs:=vaO hs;have hin:EN s.1/\EN s.2:=by
       simp only[Qy.spans,AW,CC,C7]at hs;rcases hs with rfl|rfl|rfl|rfl|rfl
       .exact⟨hq.a0,hq.b0⟩
       .exact⟨hq.a1,hq.b1⟩
       .exact⟨hq.a2,hq.b2⟩
       .exact⟨hq.a3,hq.b3⟩
       .exact⟨hq.a4,hq.b4⟩
      have:=Qz hin.1 hin.2
      omega
   .simp only[AW,CC,C7]at hw;rcases hw with rfl|rfl
    .decide
    .exact zi hq.bu)
  rw[hp];omega
theorem Qy.In.sp{q:Qy}(hq:q.In):∀s∈q.spans,EN s.1/\EN s.2:=by
 intro s hs;simp only[Qy.spans,AW,CC,C7]at hs;rcases hs with rfl|rfl|rfl|rfl|rfl
 .exact⟨hq.a0,hq.b0⟩
 .exact⟨hq.a1,hq.b1⟩
 .exact⟨hq.a2,hq.b2⟩
 .exact⟨hq.a3,hq.b3⟩
 .exact⟨hq.a4,hq.b4⟩
theorem zbf{q:Qy}{d:Int}(h1:1<=d)(h4:d<=4)(hc:KS q.c=AC)(hf:KS q.ft=AC)(hb:KS q.bu=AC)
  (hk:(q.k=1/\q.ft=0/\q.fl=AD)\/(q.k=2/\q.lo=0/\q.hi=0/\q.ft=0/\q.fl=AD)\/(q.k=3/\q.lo=0/\q.hi=0))
  (z0:(0:Int)<d\/(q.a0=0/\q.b0=0)) (z1:(1:Int)<d\/(q.a1=0/\q.b1=0)) (z2:(2:Int)<d\/(q.a2=0/\q.b2=0)) (z3:(3:Int)<d\/(q.a3=0/\q.b3=0)) (z4:(4:Int)<d\/(q.a4=0/\q.b4=0)):PG q d=AC:=by
 have cz:∀(x:Int) (j:Int),(j<d\/x=0)->cond (AE (j<d)) x 0=x:=λx j h=>by
  rcases h with h|h
  .rw[AL h];rfl
  .subst h;cases AE (j<d)<;>rfl
 have ht:F5 q d=q:=by
  obtain⟨k,c,a0,b0,a1,b1,a2,b2,a3,b3,a4,b4,lo,hi,ft,fl,bu⟩:=q;simp only at hk z0 z1 z2 z3 z4;simp only[F5,Qy.mk.injEq,vaS];refine⟨cz _ _ (z0.imp_right (·.1)),cz _ _ (z0.imp_right (·.2)),cz _ _ (z1.imp_right (·.1)),cz _ _ (z1.imp_right (·.2)),cz _ _ (z2.imp_right (·.1)),cz _ _ (z2.imp_right (·.2)),cz _ _ (z3.imp_right (·.1)),cz _ _ (z3.imp_right (·.2)),cz _ _ (z4.imp_right (·.1)),cz _ _ (z4.imp_right (·.2)),?_⟩;rcases hk with⟨rfl,rfl,rfl⟩|⟨rfl,rfl,rfl,rfl,rfl⟩|⟨rfl,rfl,rfl⟩<;>exact⟨rfl,rfl,rfl,rfl,trivial⟩
 have hk3:(q.k==1||(q.k==2||q.k==3))=AC:=by
  rcases hk with⟨h,_⟩|⟨h,_⟩|⟨h,_⟩<;>rw[h]<;>rfl
 unfold PG;rw[ht,Qy.eq_self,hc,hf,hb,hk3,AS (show¬d<1 by omega),AS (show¬d>4 by omega)];rfl
theorem zcI(d:Int)(l:LI)(i:Int): -2<=F7 d l i/\F7 d l i<=9:=by
 unfold F7
 have:=(HR (n:=E0 l (2*i)) (lo:= -2) (hi:=9) AG AG AG).2
 cases AE (i<d)<;>simp only[B5,BK]<;>omega
theorem zcJ(d:Int)(l:LI)(i:Int): -2<=F8 d l i/\F8 d l i<=20:=by
 unfold F8
 have:=(HR (n:=E0 l (2*i)) (lo:= -2) (hi:=9) AG AG AG).2
 have:=(HR (n:=E0 l (2*i+1)) (lo:=0) (hi:=11) AG AG AG).2
 cases AE (i<d)<;>simp only[B5,BK]<;>omega
theorem vR{d:Int}(l:LI){i:Int}(h:d<=i):F7 d l i=0/\F8 d l i=0:=by
 unfold F7 F8;rw[AS (show¬i<d by omega)];exact⟨rfl,rfl⟩
theorem Hs(a:Ak)(cls:Int):FV a cls=1\/FV a cls=2\/FV a cls=3:=by
 unfold FV
 have:=(HR (n:=a.k) (lo:=1) (hi:=3) AG AG AG).2
 cases(D0 a.k 1 3==2&&AE (cls<2))with
 |true=>exact .inl rfl
 |false=>
  rw[DR];omega
theorem wI{n:Int}(h0:0<=n)(h1:n<=1073741824):KS n=AC:=by
 unfold KS;rw[AL h0,AL h1];rfl
theorem zct(a:Ak){dim cls:Int}(hd:1<=dim/\dim<=4)(hc:1<=cls/\cls<=3):PG (JU a dim cls) dim=AC:=by
 have c1:=(HR (n:=a.c) (lo:=0) (hi:=cls-1) AG AG AG).2;have f1:=(HR (n:=a.ft) (lo:=0) (hi:=dim-1) AG AG AG).2;have b1:=(HR (n:=a.bu) (lo:=0) (hi:=65536) AG AG AG).2;refine zbf hd.1 hd.2 (wI (by show 0<=D0 a.c 0 (cls-1);omega) (by show D0 a.c 0 (cls-1)<=_;omega)) ?_ (wI b1.1 (by show D0 a.bu 0 65536<=_;omega)) ?_ ?_ ?_ ?_ ?_ ?_
 .show KS (cond (FV a cls==3) (D0 a.ft 0 (dim-1)) 0)=AC;cases(FV a cls==3)with
  |true=>exact wI (n:=D0 a.ft 0 (dim-1)) f1.1 AG
  |false=>rfl
 .show(FV a cls=1/\cond (FV a cls==3) (D0 a.ft 0 (dim-1)) 0=0/\cond (FV a cls==3) a.fl AD=AD)\/
   (FV a cls=2/\cond (FV a cls==1) (K2 a) 0=0/\cond (FV a cls==1) (K2 a+D0 a.size 0 18000) 0=0/\cond (FV a cls==3) (D0 a.ft 0 (dim-1)) 0=0/\cond (FV a cls==3) a.fl AD=AD)\/
   (FV a cls=3/\cond (FV a cls==1) (K2 a) 0=0/\cond (FV a cls==1) (K2 a+D0 a.size 0 18000) 0=0)
  rcases Hs a cls with h|h|h<;>rw[h]
  .exact .inl ⟨rfl,rfl,rfl⟩
  .exact .inr (.inl ⟨rfl,rfl,rfl,rfl,rfl⟩)
  .exact .inr (.inr ⟨rfl,rfl,rfl⟩)
 .exact .inl AG
 .rcases Int.lt_or_le 1 dim with h|h
  .exact .inl h
  .exact .inr (vR a.sp h)
 .rcases Int.lt_or_le 2 dim with h|h
  .exact .inl h
  .exact .inr (vR a.sp h)
 .rcases Int.lt_or_le 3 dim with h|h
  .exact .inl h
  .exact .inr (vR a.sp h)
 .exact .inr ⟨rfl,rfl⟩
theorem zcs(a:Ak){dim cls:Int}(hd:1<=dim/\dim<=4)(hc:1<=cls/\cls<=3):(JU a dim cls).In:=by
 have c1:=(HR (n:=a.c) (lo:=0) (hi:=cls-1) AG AG AG).2;have f1:=(HR (n:=a.ft) (lo:=0) (hi:=dim-1) AG AG AG).2;have b1:=(HR (n:=a.bu) (lo:=0) (hi:=65536) AG AG AG).2;have l1:=(HR (n:=a.lo) (lo:= -9000) (hi:=9000) AG AG AG).2;have s1:=(HR (n:=a.size) (lo:=0) (hi:=18000) AG AG AG).2;have k1:=Hs a cls;have A:=λi=>zcI dim a.sp i
 have B:=λi=>zcJ dim a.sp i
 have zA:∀i,EN (F7 dim a.sp i):=λi=>by have:=A i;unfold EN;omega
 have zB:∀i,EN (F8 dim a.sp i):=λi=>by have:=B i;unfold EN;omega
 refine⟨?_,?_,zA 0,zB 0,zA 1,zB 1,zA 2,zB 2,zA 3,zB 3,?_,?_,?_,?_,?_,?_⟩
 .show EN (FV a cls);unfold EN;omega
 .show EN (D0 a.c 0 (cls-1));unfold EN;omega
 .show EN 0;unfold EN;omega
 .show EN 0;unfold EN;omega
 .show EN (cond (FV a cls==1) (K2 a) 0);unfold K2 EN;cases(FV a cls==1)<;>simp only[B5,BK]<;>omega
 .show EN (cond (FV a cls==1) (K2 a+D0 a.size 0 18000) 0);unfold K2 EN;cases(FV a cls==1)<;>simp only[B5,BK]<;>omega
 .show EN (cond (FV a cls==3) (D0 a.ft 0 (dim-1)) 0);unfold EN;cases(FV a cls==3)<;>simp only[B5,BK]<;>omega
 .show EN (D0 a.bu 0 65536);unfold EN;omega
theorem VW{l:List UInt8}(h:∀c∈l,45<=c.toNat/\c.toNat<=57):(10:UInt8)∉l:=(tZ h).2
theorem zfV(q:Qy)(D:Nat):∀w∈JW q D,(10:UInt8)∉w.data.toList:=by
 intro w hw;unfold JW at hw;have key:∀x∈IB q,(10:UInt8)∉x.data.toList:=by
  intro x hx;unfold IB at hx;cases h1:(q.k==1)<;>rw[h1]at hx<;>simp only[B5,BK]at hx
  .cases h2:(q.k==2)<;>rw[h2]at hx<;>simp only[B5,BK,AW,CC,C7]at hx
   .rcases hx with rfl|rfl|rfl|rfl
    .cases q.fl<;>decide
    .exact VW (P9 _)
    .decide
    .exact VW (P9 _)
   .rcases hx with rfl|rfl
    .decide
    .exact VW (P9 _)
  .simp only[AW,CC,C7]at hx;rcases hx with rfl|rfl|rfl|rfl|rfl|rfl
   .decide
   .exact VW (P9 _)
   .decide
   .exact VW (bL _)
   .decide
   .exact VW (bL _)
 rcases A5.1 hw with h|h
 .rcases A5.1 h with h|h
  .exact key w h
  .rcases AW.1 h with rfl|h
   .decide
   .obtain⟨s,_,rfl⟩:=CU.1 h;exact VW (Qx _ _)
 .simp only[AW,CC,C7]at h;rcases h with rfl|rfl
  .decide
  .exact VW (P9 _)
theorem Ls(q:Qy)(d:Int):(10:UInt8)∉(EW q d).data.toList:=by
 cases h:PG q d with
 |false=>
  rw[Lu h];decide
 |true=>
  have:EW q d=GU (JW q d.toNat) HI:=by
   unfold EW;rw[h];rfl
  rw[this,Hl];refine tN 32 10 (by decide) _ λv hv=>?_
  obtain⟨u,hu,rfl⟩:=CU.1 hv;exact zfV q d.toNat u hu
theorem zfR{n lo hi:Int}(h0:lo<=n)(h1:n<=hi)(h2:lo=0)(h3:hi<=1000000):D0 n lo hi=n:=by
 subst h2;have hm:=(HR (n:=n) (lo:=0) (hi:=hi) AG AG AG).1;unfold D0;rw[hm];have e:Int.tmod n (hi-0+1)=n:=Int.tmod_eq_of_lt h0 AG;rw[e,AS (show¬n<0 by omega),DR,Int.zero_add];exact ER AG AG
theorem Zw(a:Ak)(m:Md){w:Int}(h0:0<=w)(h1:w<=65536):(IW a m).bud w=IW ⟨a.k,a.c,a.lo,a.size,a.ft,w,a.fl,a.sp⟩ m:=by
 unfold IW JU Qy.bud;simp only[zfR h0 h1 rfl AG];rfl
theorem zI(a:Ak){m:Md}(hd:1<=m.d/\m.d<=4)(hc:1<=m.c/\m.c<=3){w:Int}(h0:0<=w)(h1:w<=65536):
  PG ((IW a m).bud w) m.d=AC/\((IW a m).bud w).In/\LZ (EW ((IW a m).bud w) m.d)=AC/\E1 (EW ((IW a m).bud w) m.d)=(IW a m).bud w/\ND (EW ((IW a m).bud w) m.d)=m.d:=by
 rw[Zw a m h0 h1];have ho:=zct ⟨a.k,a.c,a.lo,a.size,a.ft,w,a.fl,a.sp⟩ hd hc;have hi:=zcs ⟨a.k,a.c,a.lo,a.size,a.ft,w,a.fl,a.sp⟩ hd hc;have hp:=Zx hi.c hi.lo hi.hi hi.ft hi.bu hi.sp ho;exact⟨ho,hi,hp.1,hp.2.1,hp.2.2⟩
open Go
structure Sits (m:Md) (q:Qy):Prop where
 right:E8 m q=AC
 few:NR m q (FG q)<=199
 ok:PG q m.d=AC
 ask:LZ (EW q m.d)=AC
 qq:E1 (EW q m.d)=q
 dd:ND (EW q m.d)=m.d
theorem lr{m:Md}(h:SE m.ts<=99)(q:Qy):NR m q (FG q)<=199:=by
 have:=zb2 m q (FG q)
 omega
theorem zdo(f:Ft)(a:Ak){w:Int}(h0:0<=w)(h1:w<=65536):Sits f.M ((IW a f.M).bud w)/\((IW a f.M).bud w).In:=by
 have hd:1<=f.M.d/\f.M.d<=3:=aK f.d;have hc:1<=f.M.c/\f.M.c<=3:=gV f.c;obtain⟨l1,l2,l3,l4,l5⟩:=zI a (m:=f.M) ⟨hd.1,by omega⟩ hc h0 h1;exact⟨⟨Zy f a h0 h1,lr (by have:=lz f;omega) _,l1,l3,l4,l5⟩,l2⟩
def IP(d:Int):BA->List Qy->BA
 |s,[]=>s
 |s,q::l=>IP d (s++EW q d++F6) l
theorem Mr(d:Int):∀(l:List Qy) (s:BA),(IP d s l).data.toList=s.data.toList++YS (l.map λq=>(EW q d).data.toList)
 |[],s=>by simp[IP,YS]
 |q::l,s=>by
  rw[IP,Mr d l,A8,tB,Ev,Ev];simp
theorem vL(d:Int)(l:List Qy):FO (IP d EQ l)=l.map λq=>IV.str (EW q d):=by
 cases l with
 |nil=>exact vl
 |cons q l=>
  have h:=vj (s:=IP d EQ (q::l)) (x:=(EW q d).data.toList) (L:=l.map λq=>(EW q d).data.toList) (by rw[Mr];rfl) (by
   intro y hy;rcases AW.1 hy with rfl|hy
   .exact Ls q d
   .obtain⟨r,_,rfl⟩:=CU.1 hy;exact Ls r d)
  have h2:=vi (s:=IP d EQ (q::l)) (L:=(q::l).map λq=>EW q d) (by rw[h];simp);rw[h2,List.map_map];rfl
open Go
def Qy.I(q:Qy):IV:=.agg [.int q.k,.int q.c,.int q.a0,.int q.b0,.int q.a1,.int q.b1,.int q.a2,.int q.b2,.int q.a3,.int q.b3,.int q.a4,.int q.b4,.int q.lo,.int q.hi,.int q.ft,.bool q.fl,.int q.bu]
def TH(x:IV):Ak:=⟨cI x 0,cI x 1,cI x 2,cI x 3,cI x 4,cI x 5,(x.cell 6).toBool,(x.cell 7).toList⟩
def SN(m:Md)(xs:LI)(w:Int):List Qy:=xs.map λx=>(IW (TH x) m).bud w
def dX:D4
 |[]=>.ok (.bool AC) []
 |_=>.no
def dY:D4
 |[m,.list AC [.z,.z,.z,.z,.z,.z,.bool,.list AD [.z]] xs,.i bud]=>H8 m λm=>
  .br (QI m) (.ok (.str (IP m.d EQ (SN m (xs.take 5) (D0 bud 0 300)))) []) .no
 |_=>.no
open Go
open Go
open Go Go.Proofs
theorem Ly{m:Md}(h:EU m=AC):1<=(HU m).size/\(HU m).size<=300000:=by
 obtain⟨hd,hc,hl,_,ht⟩:=tP h;have hp:HU m=GI (MU m):=by unfold HU;rw[h];rfl
 have hall:∀(ts:LI),ts.all (HH m.d m.c)=AC->(∀l∈G3 ts,l.length<=8/\∀w∈l,w.size<=100)/\(G3 ts).length<=32*ts.length:=λts=>by
  induction ts with
  |nil=>exact λ_=>⟨λl hl=>(by cases hl),A4 _⟩
  |cons t r ih=>
   intro h;rw[van,AQ]at h;obtain⟨i1,i2⟩:=ih h.2;obtain⟨j1,j2⟩:=Uh hc.2 h.1;rw[G3];refine⟨λl hl=>?_,?_⟩
   .rcases A5.1 hl with hl|hl
    .exact j1 l hl
    .exact i1 l hl
   .rw[A2,AV];omega
 obtain⟨a1,a2⟩:=hall m.ts ht;have hz:=xQ (MU m) (λl hl=>by
  have hl:l∈TX m++G3 m.ts:=hl;rcases A5.1 hl with hl|hl
  .exact Gs h l hl
  .exact a1 l hl)
 have hn:(MU m).length=2+(G3 m.ts).length:=by
  show(TX m++G3 m.ts).length=_;rw[A2];rfl
 rw[hp];refine⟨?_,by omega⟩;have e:GI (MU m)=FW [OR,DZ m.d,DZ m.c]++GI (([JP::([m.b0,m.b1,m.b2].take m.c.toNat).map D5])++G3 m.ts):=rfl;rw[e,BC]
 have:1<=(FW [OR,DZ m.d,DZ m.c]).size:=by
  unfold FW;rw[BC];have e1:AP QS=1:=rfl;omega
 omega
open Go
theorem tz(i:Nat)(h:i<=9223372036854775807):(DZ (i:Int)).size<=21:=aT (by show -9223372036854775808<=_;omega) (by show _<=(9223372036854775807:Int);omega)
theorem tf(i:Nat)(h:i<=1000000000):(L3 i).size<=28:=by
 have:=tz i AG
 unfold L3;rw[BC,BC];show 6+_+1<=28;omega
theorem Vc:∀(vs:List Vd) (i:Nat),i+vs.length<=1000000000->(∀v∈vs,v.rng)->(WG i vs).size<=4000028*vs.length
 |[],_,_,_=>CH _
 |v::r,i,hi,h=>by
  have h1:=Lr (h v (AY ..));have h2:=Vc r (i+1) (by simp only[AV]at hi;omega) λx hx=>h x (A6 _ hx)
  have h3:=tf i (by simp only[AV]at hi;omega);unfold WG;rw[BC,BC,AV];omega
theorem Od(a b:BA)(h:(FO b).length<=1000):(PJ a b).size<=4000028*1000:=by
 cases ht:OQ a with
 |false=>
  unfold PJ;rw[ht,DR];show 6<=_;omega
 |true=>
  rw[zde ht]
  have:=Vc (XW (HN a) (FO b)) 0 (by unfold XW;rw[BW];omega) λv hv=>(Zh _ _ v hv).2
  unfold XW at this;rw[BW]at this;unfold XW;omega
theorem zco(m:Md)(x:IV)(xs:LI)(w:Int):SN m (x::xs) w=(IW (TH x) m).bud w::SN m xs w:=rfl
theorem zfm{l:LI}{k i:Nat}(h:i<l.length)(hk:i<k):(l.take k).drop i=l[i]::(l.take k).drop (i+1):=by
 rw[BJ (by rw[BL];omega),List.getElem_take]
theorem Tz{l:LI}{k i:Nat}(h:¬(i<l.length/\i<k)):(l.take k).drop i=[]:=DC (by rw[BL];omega)
theorem zbe{m:Md}(h:QI m=AC):(1<=m.d/\m.d<=4)/\(1<=m.c/\m.c<=3):=by
 unfold QI at h;simp only[AQ,AZ]at h;exact⟨⟨h.1.1,h.1.2⟩,⟨h.2.1,h.2.2⟩⟩
theorem zJ{m:Md}(h:QI m=AC)(a:Ak){w:Int}(h0:0<=w)(h1:w<=65536):(EW ((IW a m).bud w) m.d).size<=2000:=by
 obtain⟨hd,hc⟩:=zbe h;exact zb5 (zI a hd hc h0 h1).2.1 _
theorem zcq(f:Ft)(xs:LI){w:Int}(h0:0<=w)(h1:w<=65536):∀q∈SN f.M xs w,Sits f.M q:=by
 intro q hq;obtain⟨x,_,rfl⟩:=CU.1 hq;exact(zdo f (TH x) h0 h1).1
theorem zcp(m:Md)(xs:LI)(w:Int):(SN m xs w).length=xs.length:=BW ..
theorem vM(d:Int):∀(l:List Qy) (s:BA),(∀q∈l,(EW q d).size<=2000)->(IP d s l).size<=s.size+2001*l.length
 |[],s,_=>A4 _
 |q::l,s,h=>by
  have h1:=h q (AY ..);have h2:=vM d l (s++EW q d++F6) λx hx=>h x (A6 _ hx)
  rw[BC,BC]at h2;have e:F6.size=1:=rfl;rw[IP,AV];omega
theorem zcr{m:Md}(h:QI m=AC)(xs:LI){w:Int}(h0:0<=w)(h1:w<=65536):∀q∈SN m xs w,(EW q m.d).size<=2000:=by
 intro q hq;obtain⟨x,_,rfl⟩:=CU.1 hq;exact zJ h (TH x) h0 h1
theorem zcn(d:Int)(l:List Qy):(FO (IP d EQ l)).length=l.length:=by rw[vL,BW]
open Go Go.Proofs
def H9(N:Nat):Env:=EE [(32,M8),(35,S7),(74,S9)] [(4,⟨[1,2,4,5,6,7],[2,500,501],[⟨.tmp 5,500,108,AC,[.bool,.z,.z,.z,.z,.z]⟩,⟨.tmp 6,501,3,AD,[.z]⟩]⟩),(14,⟨[4,11,100,101,102],[500,502],[⟨.tmp 11,502,106,AD,[.int .u64]⟩]⟩)] 113 N
abbrev ZR(x1:Int)(n5 n6:Nat)(x7 u06:Int)(u00 u01 u02 u03 u04 u05:LI):St:=⟨[(1,(.i x1)),(2,(.ptr 2 0 0)),(4,.zs),(5,(.row 500 0 n5)),(6,(.row 501 0 n6)),(7,(.i x7))],[(2,(AA (.box [.i u06,.list AD [.z] u00,.list AD [.z] u01,.list AD [.z] u02,.list AD [.z] u03]))),(500,(AA (.row AC 108 AC [.bool,.z,.z,.z,.z,.z] u04))),(501,(AA (.row AC 3 AD [.z] u05)))]⟩
abbrev cX(n11 n100:Nat)(x101 x102:Int)(u00 u01:LI):St:=⟨[(4,.zs),(11,(.row 502 0 n11)),(100,(.row 500 0 n100)),(101,(.i x101)),(102,(.i x102))],[(500,(AA (.row AC 108 AC [.bool,.z,.z,.z,.z,.z] u00))),(502,(AA (.row AC 106 AD [.int .u64] u01)))]⟩
theorem yd(N:Nat)(u00:Int)(u01 t_By t_At u02:LI)(a1:Int):EA (H9 N) NE [.tmp 4] [[.list AD [.int .u64]]] [.agg [.i u00,.list AD [.z] u01,.list AD [.z] t_By,.list AD [.z] t_At,.list AD [.z] u02],.i a1]=(D3 (H9 N) (DS NE [1,1,1,0,1,0,0]) ⟨[1,2,4,5,6,7],[2,500,501],[⟨(.tmp 5),500,108,AC,[.bool,.z,.z,.z,.z,.z]⟩,⟨(.tmp 6),501,3,AD,[.z]⟩]⟩ N (ZR a1 1 1 0 u00 u01 t_By t_At u02 [(IV.agg [IV.bool AC,IV.int (D0 (E0 u02 0) (-3000) 3000),IV.int 0,IV.int 0,IV.int 0,IV.int 0])] [(IV.int 0)]) (DW 0 (DX (H9 N) (DS NE [1,1,1,1]) (D2 (H9 N) AB [.tmp 4] [[.list AD [.int .u64]]])))):=AF
theorem Sa(N:Nat)(x1:Int)(n5 n6:Nat)(x7 u06:Int)(u00 u01 u02 u03 u04 u05:LI)(again:St->DU)(k:Out->St->DU):EY (H9 N) (DS NE [1,1,1,0,1,0,0]) (ZR x1 n5 n6 x7 u06 u00 u01 u02 u03 u04 u05) (ES again ⟨[1,2,4,5,6,7],[2,500,501],[⟨(.tmp 5),500,108,AC,[.bool,.z,.z,.z,.z,.z]⟩,⟨(.tmp 6),501,3,AD,[.z]⟩]⟩ k)=(cond (AE (x7<ic (AN u00))) (cond (AE (x7<7)) (cond (AE (0<=x7)&&AE (x7<ic (AN u00))) (cond (AE (ME 0 (AI AJ (ic (n6-0)-1))=0)) AB (cond (AE (0<=D0 (IV.toInt (AR u00 (AM x7) default)) 0 (AI AJ (ic (n6-0)-1)))&&AE (D0 (IV.toInt (AR u00 (AM x7) default)) 0 (AI AJ (ic (n6-0)-1))<ic (n6-0))) (cond (AE (0<=x7)) (cond (AE (ME 0 (AI AJ (x1-1))=0)) AB (cond (AE (0<=x7)) (cond (AE (0<=IV.toInt (AR u05 (0+AM (D0 (IV.toInt (AR u00 (AM x7) default)) 0 (AI AJ (ic (n6-0)-1)))) default))&&AE (IV.toInt (AR u05 (0+AM (D0 (IV.toInt (AR u00 (AM x7) default)) 0 (AI AJ (ic (n6-0)-1)))) default)<ic (n5-0))) (cond (AE (0<=AI AJ (AI AJ (2*x7)+1))) (cond (AE (0<=AI AJ (AI AJ (2*x7)+2))) (cond (AE ((n5+AN (A3 0 (AU 2 [IV.agg [IV.bool AC,IV.int (D0 (E0 u03 (AI AJ (AI AJ (2*x7)+1))) (-3000) 3000),IV.int 0,IV.int 0,IV.int 0,IV.int 0],IV.agg [IV.bool AC,IV.int (D0 (E0 u03 (AI AJ (AI AJ (2*x7)+2))) (-3000) 3000),IV.int 0,IV.int 0,IV.int 0,IV.int 0]])))*TI.bytes (Env.tyd (H9 N) 108)<=EL)) (cond (AE (0<=D0 (IV.toInt (AR u00 (AM x7) default)) 0 (AI AJ (ic (n6-0)-1)))&&AE (D0 (IV.toInt (AR u00 (AM x7) default)) 0 (AI AJ (ic (n6-0)-1))<=ic (n6-0))) (cond (AE ((0+AN (A3 0 (AU (0+AM (D0 (IV.toInt (AR u00 (AM x7) default)) 0 (AI AJ (ic (n6-0)-1)))) u05)))*TI.bytes (Env.tyd (H9 N) 3)<=EL)) (cond (AE (0<=AI AJ (D0 (IV.toInt (AR u00 (AM x7) default)) 0 (AI AJ (ic (n6-0)-1))+1))&&AE (AI AJ (D0 (IV.toInt (AR u00 (AM x7) default)) 0 (AI AJ (ic (n6-0)-1))+1)<=ic (n6-0))) (cond (AE ((0+AN (A3 0 (AU (0+AM (D0 (IV.toInt (AR u00 (AM x7) default)) 0 (AI AJ (ic (n6-0)-1)))) u05))+AN (A3 (0+AM (AI AJ (D0 (IV.toInt (AR u00 (AM x7) default)) 0 (AI AJ (ic (n6-0)-1))+1))) (AU (0+(n6-0)) u05)))*TI.bytes (Env.tyd (H9 N) 3)<=EL)) (cond (AE ((0+AN (A3 0 (AU (0+AM (D0 (IV.toInt (AR u00 (AM x7) default)) 0 (AI AJ (ic (n6-0)-1)))) u05))+AN (A3 (0+AM (AI AJ (D0 (IV.toInt (AR u00 (AM x7) default)) 0 (AI AJ (ic (n6-0)-1))+1))) (AU (0+(n6-0)) u05))+AN (A3 0 (AU 2 [IV.int (ic (n5-0)),IV.int (AI AJ (ic (n5-0)+1))])))*TI.bytes (Env.tyd (H9 N) 3)<=EL)) (again (ZR x1 (n5+AN (A3 0 (AU 2 [IV.agg [IV.bool AC,IV.int (D0 (E0 u03 (AI AJ (AI AJ (2*x7)+1))) (-3000) 3000),IV.int 0,IV.int 0,IV.int 0,IV.int 0],IV.agg [IV.bool AC,IV.int (D0 (E0 u03 (AI AJ (AI AJ (2*x7)+2))) (-3000) 3000),IV.int 0,IV.int 0,IV.int 0,IV.int 0]]))) (0+AN (A3 0 (AU (0+AM (D0 (IV.toInt (AR u00 (AM x7) default)) 0 (AI AJ (ic (n6-0)-1)))) u05))+AN (A3 (0+AM (AI AJ (D0 (IV.toInt (AR u00 (AM x7) default)) 0 (AI AJ (ic (n6-0)-1))+1))) (AU (0+(n6-0)) u05))+AN (A3 0 (AU 2 [IV.int (ic (n5-0)),IV.int (AI AJ (ic (n5-0)+1))]))) (AI AJ (x7+1)) u06 u00 u01 u02 u03 (AU n5 (List.set u04 (0+AM (IV.toInt (AR u05 (0+AM (D0 (IV.toInt (AR u00 (AM x7) default)) 0 (AI AJ (ic (n6-0)-1)))) default))) (PH AC [Kd.bool,Kd.int AJ,Kd.int AJ,Kd.int AJ,Kd.int AJ,Kd.int AJ] (AR u04 (0+AM (IV.toInt (AR u05 (0+AM (D0 (IV.toInt (AR u00 (AM x7) default)) 0 (AI AJ (ic (n6-0)-1)))) default))) default) 0 [IV.bool AD,IV.int 0,IV.int (D0 (E0 u01 x7) 0 (AI AJ (x1-1))),IV.int (D0 (E0 u02 x7) 0 9),IV.int (ic (n5-0)),IV.int (AI AJ (ic (n5-0)+1))]))++A3 0 (AU 2 [IV.agg [IV.bool AC,IV.int (D0 (E0 u03 (AI AJ (AI AJ (2*x7)+1))) (-3000) 3000),IV.int 0,IV.int 0,IV.int 0,IV.int 0],IV.agg [IV.bool AC,IV.int (D0 (E0 u03 (AI AJ (AI AJ (2*x7)+2))) (-3000) 3000),IV.int 0,IV.int 0,IV.int 0,IV.int 0]])) (AU (0+AN (A3 0 (AU (0+AM (D0 (IV.toInt (AR u00 (AM x7) default)) 0 (AI AJ (ic (n6-0)-1)))) u05))+AN (A3 (0+AM (AI AJ (D0 (IV.toInt (AR u00 (AM x7) default)) 0 (AI AJ (ic (n6-0)-1))+1))) (AU (0+(n6-0)) u05))) (AU (0+AN (A3 0 (AU (0+AM (D0 (IV.toInt (AR u00 (AM x7) default)) 0 (AI AJ (ic (n6-0)-1)))) u05))) (AU 0 []++A3 0 (AU (0+AM (D0 (IV.toInt (AR u00 (AM x7) default)) 0 (AI AJ (ic (n6-0)-1)))) u05))++A3 (0+AM (AI AJ (D0 (IV.toInt (AR u00 (AM x7) default)) 0 (AI AJ (ic (n6-0)-1))+1))) (AU (0+(n6-0)) u05))++A3 0 (AU 2 [IV.int (ic (n5-0)),IV.int (AI AJ (ic (n5-0)+1))])))) AB) AB) AB) AB) AB) AB) AB) AB) AB) AB)) AB) AB)) AB) (k (.exit 0) (ZR x1 n5 n6 x7 u06 u00 u01 u02 u03 u04 u05))) (k (.exit 0) (ZR x1 n5 n6 x7 u06 u00 u01 u02 u03 u04 u05))):=AF
theorem ig(N:Nat)(x1:Int)(n5 n6:Nat)(x7 u06:Int)(u00 u01 u02 u03 u04 u05:LI):(DW 0 (DX (H9 N) (DS NE [1,1,1,1]) (D2 (H9 N) AB [.tmp 4] [[.list AD [.int .u64]]]))) (.exit 0) (ZR x1 n5 n6 x7 u06 u00 u01 u02 u03 u04 u05)=(D3 (H9 N) (DS NE [1,1,1,1,1,0,1,0,0]) ⟨[4,11,100,101,102],[500,502],[⟨(.tmp 11),502,106,AD,[.int .u64]⟩]⟩ N (cX 0 n5 (ic (n5-0)) 0 u04 []) (DW 2 (DX (H9 N) (DS NE [1,1,1,1,1,1]) (D2 (H9 N) AB [.tmp 4] [[.list AD [.int .u64]]])))):=AF
theorem Sb(N n11 n100:Nat)(x101 x102:Int)(u00 u01:LI)(again:St->DU)(k:Out->St->DU):EY (H9 N) (DS NE [1,1,1,1,1,0,1,0,0]) (cX n11 n100 x101 x102 u00 u01) (ES again ⟨[4,11,100,101,102],[500,502],[⟨(.tmp 11),502,106,AD,[.int .u64]⟩]⟩ k)=(cond (AE (x102<x101)) (cond (AE (0<=x102)&&AE (x102<ic (n100-0))) (cond (AE ((n11+AN (A3 0 (AU 1 [IV.int (HK (IV.toBool (IV.cell (AR u00 (0+AM x102) default) 0)) (IV.toInt (IV.cell (AR u00 (0+AM x102) default) 1)) (IV.toInt (IV.cell (AR u00 (0+AM x102) default) 2)) (IV.toInt (IV.cell (AR u00 (0+AM x102) default) 3)) (IV.toInt (IV.cell (AR u00 (0+AM x102) default) 4)) (IV.toInt (IV.cell (AR u00 (0+AM x102) default) 5)))])))*TI.bytes (Env.tyd (H9 N) 106)<=EL)) (again (cX (n11+AN (A3 0 (AU 1 [IV.int (HK (IV.toBool (IV.cell (AR u00 (0+AM x102) default) 0)) (IV.toInt (IV.cell (AR u00 (0+AM x102) default) 1)) (IV.toInt (IV.cell (AR u00 (0+AM x102) default) 2)) (IV.toInt (IV.cell (AR u00 (0+AM x102) default) 3)) (IV.toInt (IV.cell (AR u00 (0+AM x102) default) 4)) (IV.toInt (IV.cell (AR u00 (0+AM x102) default) 5)))]))) n100 x101 (AI AJ (x102+1)) u00 (AU n11 u01++A3 0 (AU 1 [IV.int (HK (IV.toBool (IV.cell (AR u00 (0+AM x102) default) 0)) (IV.toInt (IV.cell (AR u00 (0+AM x102) default) 1)) (IV.toInt (IV.cell (AR u00 (0+AM x102) default) 2)) (IV.toInt (IV.cell (AR u00 (0+AM x102) default) 3)) (IV.toInt (IV.cell (AR u00 (0+AM x102) default) 4)) (IV.toInt (IV.cell (AR u00 (0+AM x102) default) 5)))])))) AB) AB) (k (.exit 2) (cX n11 n100 x101 x102 u00 u01))):=AF
theorem ii(N n11 n100:Nat)(x101 x102:Int)(u00 u01:LI):(DW 2 (DX (H9 N) (DS NE [1,1,1,1,1,1]) (D2 (H9 N) AB [.tmp 4] [[.list AD [.int .u64]]]))) (.exit 2) (cX n11 n100 x101 x102 u00 u01)=(AA (.list AD [.int .u64] (A3 0 (AU n11 u01)),[])):=AF
open Go Go.Proofs
structure Ns.At (i:Nat) (s:Ns):Prop where
 nl:s.nodes.length=2*i+1
 ll:s.leaves.length=i+1
 lt:∀x∈s.leaves,0<=x.toInt/\x.toInt<(2*i+1:Nat)
theorem tW{part:LI}{i:Nat}{s:Ns}(h:s.At i)(hi:i<=100):0<=IO part i s/\IO part i s<((i+1:Nat):Int)/\ME 0 (ic s.leaves.length-1)=((i+1:Nat):Int):=by
 have e:ic s.leaves.length=((i+1:Nat):Int):=by rw[h.ll]
 obtain⟨m,a,b⟩:=HR (n:=(part.getD i default).toInt) (lo:=0) (hi:=ic s.leaves.length-1) (by rw[e];omega) AG (by rw[e];omega);unfold IO;rw[e]at a b m ⊢;exact⟨a,by omega,by rw[m];omega⟩
theorem zba{part:LI}{i:Nat}{s:Ns}(h:s.At i)(hi:i<=100):0<=SF part i s/\SF part i s<(2*i+1:Nat):=by
 obtain⟨k0,k1,_⟩:=tW (part:=part) h hi;have hk:(IO part i s).toNat<s.leaves.length:=by rw[h.ll];omega
 have e:s.leaves.getD (IO part i s).toNat default=s.leaves[(IO part i s).toNat]:=by simp[hk]
 unfold SF;rw[e];exact h.lt _ (C0 hk)
theorem Ns.At.step{part byl atl val:LI}{dim:Int}{i:Nat}{s:Ns}(h:s.At i)(hi:i<=100):(K4 part byl atl val dim i s).At (i+1):=by
 obtain⟨k0,k1,_⟩:=tW (part:=part) h hi;refine⟨?_,?_,?_⟩
 .simp only[K4,A2,vaL,AV,BN,h.nl];omega
 .simp only[K4,A2,BL,DA,AV,BN,h.ll];omega
 .intro x hx;simp only[K4,A5]at hx;rcases hx with(hx|hx)|hx
  .have:=h.lt x (vaO hx)
   omega
  .have:=h.lt x (va7 hx)
   omega
  .simp only[AW,CC,C7]at hx;rcases hx with rfl|rfl
   .simp only[IV.toInt,ic,h.nl];omega
   .simp only[IV.toInt,ic,h.nl];omega
abbrev kN:List Kd:=[.bool,.z,.z,.z,.z,.z]
abbrev sU:KP:=⟨[1,2,4,5,6,7],[2,500,501],[⟨(.tmp 5),500,108,AC,[.bool,.z,.z,.z,.z,.z]⟩,⟨(.tmp 6),501,3,AD,[.z]⟩]⟩
abbrev jY(cl:Int)(part byl atl val:LI)(dim:Int)(s:Ns)(i:Int):St:=
 ⟨[(1,(.i dim)),(2,(.ptr 2 0 0)),(4,.zs),(5,(.row 500 0 s.nodes.length)),(6,(.row 501 0 s.leaves.length)),(7,(.i i))],[(2,(AA (.box [(.i cl),(.list AD [.z] part),(.list AD [.z] byl),(.list AD [.z] atl),(.list AD [.z] val)]))),(500,(AA (.row AC 108 AC kN s.nodes))),(501,(AA (.row AC 3 AD [.z] s.leaves)))]⟩
theorem za3(N:Nat):TI.bytes (Env.tyd (H9 N) 108)=48:=by rfl
theorem tr(N:Nat):TI.bytes (Env.tyd (H9 N) 3)=8:=by rfl
theorem zcj(x a b c d e f:IV):PH AC kN x 0 [a,b,c,d,e,f]=.agg [a,b,c,d,e,f]:=rfl
set_option maxHeartbeats 4000000 in
theorem za4 (N:Nat) (cl:Int) (part byl atl val:LI) (dim:Int) (h1:1≤dim) (h4:dim≤4) (s:Ns) (i:Nat) (hs:s.At i) (hi:i < part.length) (h7:i < 7) (again:St→DU) (k:Out→St→DU) :
  EY (H9 N) (DS NE [1,1,1,0,1,0,0]) (jY cl part byl atl val dim s (i:Int)) (ES again sU k)=again (jY cl part byl atl val dim (K4 part byl atl val dim i s) ((i+1:Nat):Int)):=by
 refine (Sa N dim s.nodes.length s.leaves.length i cl part byl atl val s.nodes s.leaves again k).trans ?_;obtain ⟨k0,k1,km⟩:=tW (part:=part) hs (by omega);obtain ⟨a0,a1⟩:=zba (part:=part) hs (by omega);obtain ⟨dm,_,_⟩:=HR (n:=0) (lo:=0) (hi:=dim - 1) (by omega) (by omega) (by omega);have eL:ic (s.leaves.length - 0)=ic s.leaves.length:=rfl;have eN:ic (s.nodes.length - 0)=ic s.nodes.length:=rfl;have hL:ic s.leaves.length=((i+1:Nat):Int):=by rw [hs.ll]
 have hN:ic s.nodes.length=((2*i+1:Nat):Int):=by rw [hs.nl]
 have w1:IntKind.wrap IntKind.i64 (ic s.leaves.length - 1)=ic s.leaves.length - 1:=ER (by rw [hL]; omega) (by rw [hL]; omega);have w2:IntKind.wrap IntKind.i64 (dim - 1)=dim - 1:=ER (by omega) (by omega);have w3:IntKind.wrap IntKind.i64 (2*(i:Int))=2*(i:Int):=ER (by omega) (by omega);have w4:IntKind.wrap IntKind.i64 (2*(i:Int)+1)=2*(i:Int)+1:=ER (by omega) (by omega);have w5:IntKind.wrap IntKind.i64 (2*(i:Int)+2)=2*(i:Int)+2:=ER (by omega) (by omega);have w6:IntKind.wrap IntKind.i64 (ic s.nodes.length+1)=ic s.nodes.length+1:=ER (by rw [hN]; omega) (by rw [hN]; omega);rw [eL,eN,w1,w2,w3,w4,w5,w6,Int.toNat_natCast];have eK:D0 (IV.toInt (List.getD part i default)) 0 (ic s.leaves.length - 1)=IO part i s:=rfl;rw [eK];have w7:IntKind.wrap IntKind.i64 (IO part i s+1)=IO part i s+1:=ER (by omega) (by omega);rw [w7];have e0:∀ n:Nat,0+n=n:=Nat.zero_add;simp only [e0];have eA:IV.toInt (List.getD s.leaves (IO part i s).toNat default)=SF part i s:=rfl;rw [eA,za3,tr];obtain ⟨q,hq⟩:∃ q:Nat,IO part i s=q:=⟨(IO part i s).toNat,by omega⟩;have eq1:(IO part i s+1).toNat=q+1:=by omega
 have eq0:(IO part i s).toNat=q:=by omega
 have hq1:q < i+1:=by omega
 have lt2:∀ x y:IV,(List.drop 0 (List.take 2 [x,y]))=[x,y]:=fun _ _=>rfl
 have lk:List.drop 0 (List.take q s.leaves)=List.take q s.leaves:=List.drop_zero;have lk2:List.drop (q+1) (List.take (s.leaves.length - 0) s.leaves)=List.drop (q+1) s.leaves:=by rw [Nat.sub_zero,List.take_length]
 rw [eq1,eq0,lt2,lt2,lk,lk2];have zA:(List.take q s.leaves).length=q:=by rw [List.length_take,hs.ll]; omega
 have zB:(List.drop (q+1) s.leaves).length=i - q:=by rw [List.length_drop,hs.ll]; omega
 rw [zA,zB];simp only [List.length_cons,List.length_nil];rw [decide_eq_true (show (i:Int) < ic part.length by simp only [ic]; omega),decide_eq_true (show (i:Int) < 7 by omega),decide_eq_true (show 0≤(i:Int) by omega),km,decide_eq_false (show ¬ ((i+1:Nat):Int)=0 by omega),
  decide_eq_true k0,decide_eq_true (show IO part i s < ic s.leaves.length by rw [hL]; exact k1),dm,decide_eq_false (show ¬ (dim - 1 - 0+1=0) by omega),decide_eq_true a0,decide_eq_true (show SF part i s < ic s.nodes.length by rw [hN]; exact a1),
  decide_eq_true (show 0≤2*(i:Int)+1 by omega),decide_eq_true (show 0≤2*(i:Int)+2 by omega),decide_eq_true (show (s.nodes.length+(0+1+1))*48≤EL by rw [hs.nl]; unfold EL; omega),
  decide_eq_true (show IO part i s≤ic s.leaves.length by rw [hL]; omega),decide_eq_true (show q*8≤EL by unfold EL; omega),decide_eq_true (show 0≤IO part i s+1 by omega),decide_eq_true (show IO part i s+1≤ic s.leaves.length by rw [hL]; omega),
  decide_eq_true (show (q+(i - q))*8≤EL by unfold EL; omega),decide_eq_true (show (q+(i - q)+(0+1+1))*8≤EL by unfold EL; omega)]
 simp only [Bool.and_true,DQ,DR];have g1:(K4 part byl atl val dim i s).nodes.length=s.nodes.length+(0+1+1):=by rw [(hs.step (by omega)).nl,hs.nl]; omega
 have g2:(K4 part byl atl val dim i s).leaves.length=q+(i - q)+(0+1+1):=by rw [(hs.step (by omega)).ll]; omega
 have g3:(K4 part byl atl val dim i s).nodes=List.take s.nodes.length (List.set s.nodes (SF part i s).toNat (PH true kN (List.getD s.nodes (SF part i s).toNat default) 0 [IV.bool false,IV.int 0,IV.int (D0 (E0 byl (i:Int)) 0 (dim - 1)),IV.int (D0 (E0 atl (i:Int)) 0 9),IV.int (ic s.nodes.length),IV.int (ic s.nodes.length+1)])) ++
   [IV.agg [IV.bool true,IV.int (D0 (E0 val (2*(i:Int)+1)) (-3000) 3000),IV.int 0,IV.int 0,IV.int 0,IV.int 0],IV.agg [IV.bool true,IV.int (D0 (E0 val (2*(i:Int)+2)) (-3000) 3000),IV.int 0,IV.int 0,IV.int 0,IV.int 0]]:=by
  rw [zcj,List.take_of_length_le (by rw [List.length_set]; exact Nat.le_refl _)];rfl
 have g4:(K4 part byl atl val dim i s).leaves=List.take (q+(i - q)) (List.take q (List.take 0 []++List.take q s.leaves)++List.drop (q+1) s.leaves)++[IV.int (ic s.nodes.length),IV.int (ic s.nodes.length+1)]:=by
  rw [List.take_zero,List.nil_append,List.take_take,Nat.min_self,List.take_of_length_le (by rw [List.length_append,zA,zB]; exact Nat.le_refl _)];show List.take (IO part i s).toNat s.leaves++List.drop ((IO part i s).toNat+1) s.leaves++_=_;rw [eq0]
 rw [show jY cl part byl atl val dim (K4 part byl atl val dim i s) ((i+1:Nat):Int)=⟨[(1,(.i dim)),(2,(.ptr 2 0 0)),(4,.zs),(5,(.row 500 0 (K4 part byl atl val dim i s).nodes.length)),(6,(.row 501 0 (K4 part byl atl val dim i s).leaves.length)),(7,(.i ((i+1:Nat):Int)))],[(2,(some (.box [(.i cl),(.list false [.z] part),(.list false [.z] byl),(.list false [.z] atl),(.list false [.z] val)]))),(500,(some (.row true 108 true kN (K4 part byl atl val dim i s).nodes))),(501,(some (.row true 3 false [.z] (K4 part byl atl val dim i s).leaves)))]⟩ from rfl,g1,g2,g3,g4,GM (by omega)]
theorem Kg(N:Nat)(cl:Int)(part byl atl val:LI)(dim:Int)(h1:1<=dim)(h4:dim<=4)(K:Out->St->DU):∀(d i n:Nat) (s:Ns),i+d=min part.length 7->d<n->s.At i->
  (∃j,D3 (H9 N) (DS NE [1,1,1,0,1,0,0]) sU n (jY cl part byl atl val dim s (i:Int)) K=K (.exit 0) (jY cl part byl atl val dim (bB part byl atl val dim d i s) j))/\(bB part byl atl val dim d i s).At (i+d)
 |0,i,n+1,s,hd,hn,hs=>by
  refine⟨⟨(i:Int),?_⟩,hs⟩;rw[D8];refine(Sa N dim s.nodes.length s.leaves.length i cl part byl atl val s.nodes s.leaves _ _).trans ?_;by_cases hp:i<part.length
  .rw[AL (show(i:Int)<ic part.length by simp only[ic];omega),DQ,AS (show¬(i:Int)<7 by omega),DR];rfl
  .rw[AS (show¬(i:Int)<ic part.length by simp only[ic];omega),DR];rfl
 |d+1,i,n+1,s,hd,hn,hs=>by
  obtain⟨⟨j,ih⟩,ih2⟩:=Kg N cl part byl atl val dim h1 h4 K d (i+1) n (K4 part byl atl val dim i s) AG AG (hs.step AG);refine⟨⟨j,?_⟩,by rw[show i+(d+1)=i+1+d by omega];exact ih2⟩;rw[D8,za4 N cl part byl atl val dim h1 h4 s i hs AG AG];exact ih
 |_,_,0,_,_,h,_=>by omega
theorem zfK(N:Nat):TI.bytes (Env.tyd (H9 N) 106)=8:=by rfl
abbrev Hv:KP:=⟨[4,11,100,101,102],[500,502],[⟨(.tmp 11),502,106,AD,[(.int .u64)]⟩]⟩
theorem Kw(N:Nat)(L:LI)(hL:L.length<=1000):∀(d i n:Nat) (O:LI),i+d=L.length->d<n->O.length=i->
  D3 (H9 N) (DS NE [1,1,1,1,1,0,1,0,0]) Hv n ⟨[(4,.zs),(11,(.row 502 0 O.length)),(100,(.row 500 0 L.length)),(101,(.i (ic (L.length-0)))),(102,(.i (i:Int)))],[(500,(AA (.row AC 108 AC kN L))),(502,(AA (.row AC 106 AD [(.int .u64)] O)))]⟩
   (DW 2 (DX (H9 N) (DS NE [1,1,1,1,1,1]) (D2 (H9 N) AB [(B7 4)] [[(.list AD [(.int .u64)])]])))=AA (.list AD [.int .u64] (O++(L.drop i).map T9),[])
 |0,i,n+1,O,hd,hn,hO=>by
  rw[D8];refine(Sb N O.length L.length (ic (L.length-0)) i L O _ _).trans ?_;rw[AS (show¬(i:Int)<ic (L.length-0) by simp only[ic];omega),DR];refine(ii N O.length L.length (ic (L.length-0)) i L O).trans ?_;rw[CD,BS,DC AG,CN,vab]
 |d+1,i,n+1,O,hd,hn,hO=>by
  have hi:i<L.length:=by omega
  rw[D8];refine(Sb N O.length L.length (ic (L.length-0)) i L O _ _).trans ?_;have ih:=Kw N L hL d (i+1) n (O++[T9 L[i]]) AG AG (by simp[hO]);have l1:∀x:IV,A3 0 (AU 1 [x])=[x]:=λ_=>rfl
  have eg:AR L (0+AM (i:Int)) default=L[i]:=by rw[BU,BE];simp[hi]
  rw[AL (show(i:Int)<ic (L.length-0) by simp only[ic];omega),AL (show 0<=(i:Int) by omega),CK,DQ,DQ,eg,l1,zfK,DG,AL (show(O.length+1)*8<=EL by rw[hO];unfold EL;omega),DQ,BS,GM AG];rw[BJ hi,A8];rw[A2,DG,vaz]at ih;exact ih
 |_,_,0,_,_,h,_=>by omega
theorem zdR:D6 PR B0 36 dW:=by
 refine EF [(32,M8),(35,S7),(74,S9)] [(4,sU),(14,Hv)] dW [[.list AD [.int .u64]]] Tryz.func36 ou
  ⟨bZ,wP,wR,trivial⟩ ?_
 intro vs r hwf h;unfold dW at h;split at h
 .rename_i cl part byl atl val dim;cases hc:(AE (1<=dim)&&AE (dim<=4))with
  |false=>rw[hc]at h;simp[R.get]at h
  |true=>
   rw[hc,R.get_br,DQ,R.get_ok]at h;simp only[AQ,AZ]at hc;refine⟨30,?_⟩;rw[<-h];refine(yd 30 cl part byl atl val dim).trans ?_;have h0:(⟨[MT (D0 (E0 val 0) (-3000) 3000)],[.int 0]⟩:Ns).At 0:=⟨rfl,rfl,λx hx=>by
    rw[BZ]at hx;subst hx;exact⟨by decide,by decide⟩⟩
   obtain⟨⟨j,run⟩,hat⟩:=Kg 30 cl part byl atl val dim hc.1 hc.2 (DW 0 (DX (H9 30) (DS NE [1,1,1,1]) (D2 (H9 30) AB [(B7 4)] [[(.list AD [(.int .u64)])]]))) (min part.length 7) 0 30 _ AG AG h0;refine run.trans ?_;have e:bB part byl atl val dim (min part.length 7) 0 ⟨[MT (D0 (E0 val 0) (-3000) 3000)],[.int 0]⟩=QF part byl atl val dim:=rfl;rw[e]at hat ⊢;have hn:=hat.nl;refine(ig 30 dim (QF part byl atl val dim).nodes.length (QF part byl atl val dim).leaves.length j cl part byl atl val (QF part byl atl val dim).nodes (QF part byl atl val dim).leaves).trans ?_
   have:=Kw 30 (QF part byl atl val dim).nodes AG (QF part byl atl val dim).nodes.length 0 30 [] AG AG rfl
   rw[CD,vac]at this;exact this
 .simp[R.get]at h
open Go Go.Proofs
def JX(N:Nat):Env:=EE [(32,M8),(36,dW),(35,S7)] [(3,⟨[1,2,3,14,15],[1,2,3],[]⟩),(8,⟨[1,2,3,5],[1,2,3,500],[⟨.cell 3 5,500,85,AC,[.z,.list AD [.int .u64]]⟩]⟩)] 63 N
abbrev WR(x14 x15 u02 u03:Int)(u00 u01:LI)(u04 u05 u06 u07 u08 u09 u0a u0b u0c u0d:Int):St:=⟨[(1,(.ptr 1 0 0)),(2,(.ptr 2 0 0)),(3,(.ptr 3 0 0)),(14,(.i x14)),(15,(.i x15))],[(1,(AA (.box [.i u02,.i u03,.list AD [.z] u00,.list AC [.z,.list AD [.z],.list AD [.z],.list AD [.z],.list AD [.z]] u01]))),(2,(AA (.box [.i u04,.i u05,.i u06,.i u07,.i u08,.zs]))),(3,(AA (.box [.i u09,.i u0a,.i u0b,.i u0c,.i u0d,.zs])))]⟩
abbrev ZQ(x5 u04 u05:Int)(u00 u01:LI)(u06 u07 u08 u09 u0a u0b u0c u0d u0e u0f:Int)(u03:Nat)(u02:LI):St:=⟨[(1,(.ptr 1 0 0)),(2,(.ptr 2 0 0)),(3,(.ptr 3 0 0)),(5,(.i x5))],[(1,(AA (.box [.i u04,.i u05,.list AD [.z] u00,.list AC [.z,.list AD [.z],.list AD [.z],.list AD [.z],.list AD [.z]] u01]))),(2,(AA (.box [.i u06,.i u07,.i u08,.i u09,.i u0a,.zs]))),(3,(AA (.box [.i u0b,.i u0c,.i u0d,.i u0e,.i u0f,.row 500 0 u03]))),(500,(AA (.row AC 85 AC [.z,.list AD [.int .u64]] u02)))]⟩
theorem xz(N:Nat)(u02 u01:Int)(u00 u03:LI):EA (JX N) N8 [.cell 2 31] [[.z,.z,.z,.z,.z,.list AC [.z,.list AD [.int .u64]]]] [.agg [.i u02,.i u01,.list AD [.z] u00,.list AC [.z,.list AD [.z],.list AD [.z],.list AD [.z],.list AD [.z]] u03]]=(D3 (JX N) (DS N8 [1,1,0,1,0,0]) ⟨[1,2,3,14,15],[1,2,3],[]⟩ N (WR (D0 u01 1 3) 0 u02 u01 u00 u03 0 0 0 0 0 (D0 u02 1 3) (D0 u01 1 3) 0 0 0) (DW 0 (DX (JX N) (DS N8 [1,1,1]) (D2 (JX N) AB [.cell 2 31] [[.z,.z,.z,.z,.z,.list AC [.z,.list AD [.int .u64]]]])))):=AF
theorem Rx(N:Nat)(x14 x15 u02 u03:Int)(u00 u01:LI)(u04 u05 u06 u07 u08 u09 u0a u0b u0c u0d:Int)(again:St->DU)(k:Out->St->DU):EY (JX N) (DS N8 [1,1,0,1,0,0]) (WR x14 x15 u02 u03 u00 u01 u04 u05 u06 u07 u08 u09 u0a u0b u0c u0d) (ES again ⟨[1,2,3,14,15],[1,2,3],[]⟩ k)=(cond (AE (x15<x14)) (cond (AE (0<=x15)) (cond (AE (x15=ic 0)) (again (WR x14 (AI AJ (x15+1)) u02 u03 u00 u01 u04 u05 u06 u07 u08 u09 u0a (D0 (E0 u00 x15) (-500) 500) u0c u0d)) (cond (AE (x15=ic 1)) (again (WR x14 (AI AJ (x15+1)) u02 u03 u00 u01 u04 u05 u06 u07 u08 u09 u0a u0b (D0 (E0 u00 x15) (-500) 500) u0d)) (cond (AE (x15=ic 2)) (again (WR x14 (AI AJ (x15+1)) u02 u03 u00 u01 u04 u05 u06 u07 u08 u09 u0a u0b u0c (D0 (E0 u00 x15) (-500) 500))) AB))) AB) (k (.exit 0) (WR x14 x15 u02 u03 u00 u01 u04 u05 u06 u07 u08 u09 u0a u0b u0c u0d))):=AF
theorem gz(N:Nat)(x14 x15 u02 u03:Int)(u00 u01:LI)(u04 u05 u06 u07 u08 u09 u0a u0b u0c u0d:Int):(DW 0 (DX (JX N) (DS N8 [1,1,1]) (D2 (JX N) AB [.cell 2 31] [[.z,.z,.z,.z,.z,.list AC [.z,.list AD [.int .u64]]]]))) (.exit 0) (WR x14 x15 u02 u03 u00 u01 u04 u05 u06 u07 u08 u09 u0a u0b u0c u0d)=(D3 (JX N) (DS N8 [1,1,1,0,1,0,0]) ⟨[1,2,3,5],[1,2,3,500],[⟨(.cell 3 5),500,85,AC,[.z,.list AD [.int .u64]]⟩]⟩ N (ZQ 0 u02 u03 u00 u01 u04 u05 u06 u07 u08 u09 u0a u0b u0c u0d 0 []) (DW 2 (DX (JX N) (DS N8 [1,1,1,1]) (D2 (JX N) AB [.cell 2 31] [[.z,.z,.z,.z,.z,.list AC [.z,.list AD [.int .u64]]]])))):=AF
theorem Ry(N:Nat)(x5 u04 u05:Int)(u00 u01:LI)(u06 u07 u08 u09 u0a u0b u0c u0d u0e u0f:Int)(u03:Nat)(u02:LI)(again:St->DU)(k:Out->St->DU):EY (JX N) (DS N8 [1,1,1,0,1,0,0]) (ZQ x5 u04 u05 u00 u01 u06 u07 u08 u09 u0a u0b u0c u0d u0e u0f u03 u02) (ES again ⟨[1,2,3,5],[1,2,3,500],[⟨(.cell 3 5),500,85,AC,[.z,.list AD [.int .u64]]⟩]⟩ k)=(cond (AE (x5<ic (AN u01))) (cond (AE (x5<4)) (cond (AE (0<=x5)&&AE (x5<ic (AN u01))) (cond (AE (ME 0 (AI AJ (u0c-1))=0)) AB (cond (AE (0<=x5)&&AE (x5<ic (AN u01))) (cond (AE (1<=u0b)&&AE (u0b<=4)) (cond (AE ((u03+AN (A3 0 (AU 1 [IV.agg [IV.int (D0 (IV.toInt (IV.cell (AR u01 (AM x5) default) 0)) 0 (AI AJ (u0c-1))),IV.list (NQ (IV.toList (IV.cell (AR u01 (AM x5) default) 1)) (IV.toList (IV.cell (AR u01 (AM x5) default) 2)) (IV.toList (IV.cell (AR u01 (AM x5) default) 3)) (IV.toList (IV.cell (AR u01 (AM x5) default) 4)) u0b)]])))*TI.bytes (Env.tyd (JX N) 85)<=EL)) (again (ZQ (AI AJ (x5+1)) u04 u05 u00 u01 u06 u07 u08 u09 u0a u0b u0c u0d u0e u0f (u03+AN (A3 0 (AU 1 [IV.agg [IV.int (D0 (IV.toInt (IV.cell (AR u01 (AM x5) default) 0)) 0 (AI AJ (u0c-1))),IV.list (NQ (IV.toList (IV.cell (AR u01 (AM x5) default) 1)) (IV.toList (IV.cell (AR u01 (AM x5) default) 2)) (IV.toList (IV.cell (AR u01 (AM x5) default) 3)) (IV.toList (IV.cell (AR u01 (AM x5) default) 4)) u0b)]]))) (AU u03 u02++A3 0 (AU 1 [IV.agg [IV.int (D0 (IV.toInt (IV.cell (AR u01 (AM x5) default) 0)) 0 (AI AJ (u0c-1))),IV.list (NQ (IV.toList (IV.cell (AR u01 (AM x5) default) 1)) (IV.toList (IV.cell (AR u01 (AM x5) default) 2)) (IV.toList (IV.cell (AR u01 (AM x5) default) 3)) (IV.toList (IV.cell (AR u01 (AM x5) default) 4)) u0b)]])))) AB) AB) AB)) AB) (k (.exit 2) (ZQ x5 u04 u05 u00 u01 u06 u07 u08 u09 u0a u0b u0c u0d u0e u0f u03 u02))) (k (.exit 2) (ZQ x5 u04 u05 u00 u01 u06 u07 u08 u09 u0a u0b u0c u0d u0e u0f u03 u02))):=AF
theorem ia(N:Nat)(x5 u04 u05:Int)(u00 u01:LI)(u06 u07 u08 u09 u0a u0b u0c u0d u0e u0f:Int)(u03:Nat)(u02:LI):(DW 2 (DX (JX N) (DS N8 [1,1,1,1]) (D2 (JX N) AB [.cell 2 31] [[.z,.z,.z,.z,.z,.list AC [.z,.list AD [.int .u64]]]]))) (.exit 2) (ZQ x5 u04 u05 u00 u01 u06 u07 u08 u09 u0a u0b u0c u0d u0e u0f u03 u02)=(AA (.agg [.i u0b,.i u0c,.i u0d,.i u0e,.i u0f,.list AC [.z,.list AD [.int .u64]] (A3 0 (AU u03 u02))],[])):=AF
open Go Go.Proofs
abbrev uh:List Kd:=[.z,(.list AD [.z]),(.list AD [.z]),(.list AD [.z]),(.list AD [.z])]
def bF(bias:LI)(j:Int):Int:=D0 (E0 bias j) (-500) 500
abbrev pZ(d c:Int)(bias ts:LI):Ob:=.box [(.i d),(.i c),(.list AD [.z] bias),(.list AC uh ts)]
abbrev p8:Ob:=.box [(.i 0),(.i 0),(.i 0),(.i 0),(.i 0),.zs]
abbrev Rj(d c:Int)(bias ts:LI)(D C:Int)(i:Nat)(x:Int):St:=
 ⟨[(1,(.ptr 1 0 0)),(2,(.ptr 2 0 0)),(3,(.ptr 3 0 0)),(14,(.i C)),(15,(.i x))],[(1,(AA (pZ d c bias ts))),(2,(AA p8)),(3,(AA (.box [(.i D),(.i C),(.i (cond (BV 0 i) (bF bias 0) 0)),(.i (cond (BV 1 i) (bF bias 1) 0)),(.i (cond (BV 2 i) (bF bias 2) 0)),.zs])))]⟩
theorem zS(N:Nat)(d c:Int)(bias ts:LI)(D:Int)(C:Nat)(hC:C<=3)(K:Out->St->DU):∀(m i n:Nat),i+m=C->m<n->
  D3 (JX N) (DS N8 [1,1,0,1,0,0]) ⟨[1,2,3,14,15],[1,2,3],[]⟩ n (Rj d c bias ts D C i (i:Int)) K=K (.exit 0) (Rj d c bias ts D C C (C:Int))
 |0,i,n+1,hd,hn=>by
  have hi:i=C:=by omega
  subst hi;rw[D8];refine(Rx N i i d c bias ts 0 0 0 0 0 D i (cond (BV 0 i) (bF bias 0) 0) (cond (BV 1 i) (bF bias 1) 0) (cond (BV 2 i) (bF bias 2) 0) _ _).trans ?_;rw[AS (show¬(i:Int)<(i:Int) by omega),DR]
 |m+1,i,n+1,hd,hn=>by
  rw[D8];refine(Rx N C i d c bias ts 0 0 0 0 0 D C (cond (BV 0 i) (bF bias 0) 0) (cond (BV 1 i) (bF bias 1) 0) (cond (BV 2 i) (bF bias 2) 0) _ _).trans ?_;have ih:=zS N d c bias ts D C hC K m (i+1) n AG AG;rw[AL (show(i:Int)<(C:Int) by omega),DQ,AL (show 0<=(i:Int) by omega),DQ,GM AG];have hi4:i=0\/i=1\/i=2:=by omega
  rcases hi4 with rfl|rfl|rfl
  .rw[show AE (((0:Nat):Int)=ic 0)=AC from rfl,DQ];exact ih
  .rw[show AE (((1:Nat):Int)=ic 0)=AD from rfl,show AE (((1:Nat):Int)=ic 1)=AC from rfl,DR,DQ];exact ih
  .rw[show AE (((2:Nat):Int)=ic 0)=AD from rfl,show AE (((2:Nat):Int)=ic 1)=AD from rfl,show AE (((2:Nat):Int)=ic 2)=AC from rfl,DR,DR,DQ];exact ih
 |_,_,0,_,h=>by omega
abbrev mH:List Kd:=[.z,(.list AD [(.int .u64)])]
abbrev Hu:KP:=⟨[1,2,3,5],[1,2,3,500],[⟨(.cell 3 5),500,85,AC,[.z,(.list AD [(.int .u64)])]⟩]⟩
abbrev xE(d c:Int)(bias ts:LI)(D C b0 b1 b2:Int)(O:LI)(x:Int):St:=
 ⟨[(1,(.ptr 1 0 0)),(2,(.ptr 2 0 0)),(3,(.ptr 3 0 0)),(5,(.i x))],[(1,(AA (pZ d c bias ts))),(2,(AA p8)),(3,(AA (.box [(.i D),(.i C),(.i b0),(.i b1),(.i b2),(.row 500 0 O.length)]))),(500,(AA (.row AC 85 AC mH O)))]⟩
def ZH(D C:Int)(t:IV):IV:=.agg [.int (D0 (t.cell 0).toInt 0 (C-1)),.list (NQ (t.cell 1).toList (t.cell 2).toList (t.cell 3).toList (t.cell 4).toList D)]
theorem zfC(N:Nat):TI.bytes (Env.tyd (JX N) 85)=32:=by rfl
theorem Un(N:Nat)(d c:Int)(bias ts:LI)(D C b0 b1 b2:Int)(hD:1<=D/\D<=4)(hC:1<=C/\C<=3):∀(m i n:Nat) (O:LI),i+m=min ts.length 4->m<n->O.length=i->
  D3 (JX N) (DS N8 [1,1,1,0,1,0,0]) Hu n (xE d c bias ts D C b0 b1 b2 O (i:Int)) (DW 2 (DX (JX N) (DS N8 [1,1,1,1]) (D2 (JX N) AB [(va6 2 31)] [[.z,.z,.z,.z,.z,(.list AC [.z,(.list AD [(.int .u64)])])]])))=
   AA (.agg [.i D,.i C,.i b0,.i b1,.i b2,.list AC mH (O++((ts.take 4).drop i).map (ZH D C))],[])
 |0,i,n+1,O,hd,hn,hO=>by
  have fin:(DW 2 (DX (JX N) (DS N8 [1,1,1,1]) (D2 (JX N) AB [(va6 2 31)] [[.z,.z,.z,.z,.z,(.list AC [.z,(.list AD [(.int .u64)])])]]))) (.exit 2) (xE d c bias ts D C b0 b1 b2 O (i:Int))=AA (.agg [.i D,.i C,.i b0,.i b1,.i b2,.list AC mH (O++((ts.take 4).drop i).map (ZH D C))],[]):=by
   refine(ia N i d c bias ts 0 0 0 0 0 D C b0 b1 b2 O.length O).trans ?_;rw[CD,BS,DC (by rw[BL];omega),CN,vab]
  rw[D8];refine(Ry N i d c bias ts 0 0 0 0 0 D C b0 b1 b2 O.length O _ _).trans ?_;by_cases hp:i<ts.length
  .rw[AL (show(i:Int)<ic ts.length by simp only[ic];omega),DQ,AS (show¬(i:Int)<4 by omega),DR];exact fin
  .rw[AS (show¬(i:Int)<ic ts.length by simp only[ic];omega),DR];exact fin
 |m+1,i,n+1,O,hd,hn,hO=>by
  have hi:i<ts.length:=by omega
  rw[D8];refine(Ry N i d c bias ts 0 0 0 0 0 D C b0 b1 b2 O.length O _ _).trans ?_;have l1:∀x:IV,A3 0 (AU 1 [x])=[x]:=λ_=>rfl
  have eg:AR ts (AM (i:Int)) default=ts[i]:=by rw[BE];simp[hi]
  have w1:AI AJ (C-1)=C-1:=ER AG AG;obtain⟨m1,_,_⟩:=HR (n:=0) (lo:=0) (hi:=C-1) AG AG AG;have ih:=Un N d c bias ts D C b0 b1 b2 hD hC m (i+1) n (O++[ZH D C ts[i]]) AG AG (by simp[hO]);rw[AL (show(i:Int)<ic ts.length by simp only[ic];omega),AL (show(i:Int)<4 by omega),AL (show 0<=(i:Int) by omega),w1,m1,AS (show¬(C-1-0+1=0) by omega),AL hD.1,AL hD.2,eg,l1,zfC,DG,
   AL (show(O.length+1)*32<=EL by rw[hO];unfold EL;omega),BS,GM AG]
  simp only[CK,DQ,DR];have ed:(ts.take 4).drop i=ts[i]::(ts.take 4).drop (i+1):=by
   have h4:i<(ts.take 4).length:=by rw[BL];omega
   rw[BJ h4];congr 1;rw[List.getElem_take]
  rw[ed,A8];rw[vaz]at ih;have eL:(O++[ZH D C ts[i]]).length=O.length+1:=by simp
  rw[show xE d c bias ts D C b0 b1 b2 (O++[ZH D C ts[i]]) ((i+1:Nat):Int)=⟨[(1,(.ptr 1 0 0)),(2,(.ptr 2 0 0)),(3,(.ptr 3 0 0)),(5,(.i ((i+1:Nat):Int)))],[(1,(AA (pZ d c bias ts))),(2,(AA p8)),(3,(AA (.box [(.i D),(.i C),(.i b0),(.i b1),(.i b2),(.row 500 0 (O++[ZH D C ts[i]]).length)]))),(500,(AA (.row AC 85 AC mH (O++[ZH D C ts[i]]))))]⟩from rfl,eL]at ih;exact ih
 |_,_,0,_,_,h,_=>by omega
theorem zdO:D6 PR B0 7 kJ:=by
 refine EF [(32,M8),(36,dW),(35,S7)] [(3,⟨[1,2,3,14,15],[1,2,3],[]⟩),(8,Hu)] kJ [[.z,.z,.z,.z,.z,.list AC [.z,.list AD [.int .u64]]]] Tryz.func7 oo
  ⟨bZ,zdR,wP,trivial⟩ ?_
 intro vs r hwf h;unfold kJ at h;split at h
 .rename_i d c bias ts;refine⟨20,?_⟩;rw[R.get_ok]at h;rw[<-h];refine(xz 20 d c bias ts).trans ?_;obtain⟨_,d1,d2⟩:=HR (n:=d) (lo:=1) (hi:=3) AG AG AG;obtain⟨_,c1,c2⟩:=HR (n:=c) (lo:=1) (hi:=3) AG AG AG;unfold SS cF TL LJ O9;generalize D0 d 1 3=D at d1 d2;generalize D0 c 1 3=C' at c1 c2;obtain⟨C,rfl⟩:∃C:Nat,C'=C:=⟨C'.toNat,by omega⟩;refine(zS 20 d c bias ts D C AG _ C 0 20 AG AG).trans ?_;refine(gz 20 C C d c bias ts 0 0 0 0 0 D C (cond (BV 0 C) (bF bias 0) 0) (cond (BV 1 C) (bF bias 1) 0) (cond (BV 2 C) (bF bias 2) 0)).trans ?_;refine(Un 20 d c bias ts D C _ _ _ ⟨d1,by omega⟩ ⟨c1,by omega⟩ (min ts.length 4) 0 20 [] AG AG rfl).trans ?_;rw[CD,vac];have hC:C=1\/C=2\/C=3:=by omega
  rcases hC with rfl|rfl|rfl<;>rfl
 .simp[R.get]at h
open Go Go.Proofs
def Wr(N:Nat):Env:=EE [(12,W7),(15,S3),(52,dV),(13,TE)] [] 39 N
theorem yf(N:Nat):EA (Wr N) Ba [.tmp 0] [[.bool]] []=(AA (.bool AC,[])):=AF
open Go Go.Proofs
def Wp(N:Nat):Env:=EE [(74,S9)] [] 14 N
theorem yb(N:Nat):EA (Wp N) Ay [.cell 0 31] [[.z,.z,.z,.z,.z,.list AC [.z,.list AD [.int .u64]]]] []=(AA (.agg [.i 1,.i 1,.i 3,.i 0,.i 0,.list AC G7 [(IV.agg [IV.int 0,IV.list [IV.int (HK AD 0 0 5 1 2),IV.int (HK AC 10 0 0 0 0),IV.int (HK AC 20 0 0 0 0)]])]],[])):=AF
open Go Go.Proofs
theorem zdQ:D6 PR B0 52 dV:=by
 refine EF [(74,S9)] [] dV [[.z,.z,.z,.z,.z,.list AC [.z,.list AD [.int .u64]]]] Tryz.func52 ot ⟨wR,trivial⟩ ?_;intro vs r hwf h;unfold dV at h;split at h
 .skip
  rw[R.get_ok]at h;refine⟨0,(yb 0).trans ?_⟩;rw[<-h];rfl
 .simp[R.get]at h
theorem zdS:D6 PR B0 33 dX:=by
 refine EF [(12,W7),(15,S3),(52,dV),(13,TE)] [] dX [[.bool]] Tryz.func33 ow ⟨Pl,wK,zdQ,wY,trivial⟩ ?_;intro vs r hwf h;unfold dX at h;split at h
 .skip
  rw[R.get_ok]at h;refine⟨0,(yf 0).trans ?_⟩;rw[<-h]
 .simp[R.get]at h
open Go Go.Proofs
def UY(N:Nat):Env:=EE [(10,W4),(32,M8),(9,XU),(7,XV)] [(3,⟨[1,2,3,6,7,8],[3],[]⟩)] 37 N
abbrev UR(m:Md)(l1:LI)(x2:Int)(s6 s7:BA)(x8:Int):St:=⟨[(1,(.list AC [.z,.z,.z,.z,.z,.z,.bool,.list AD [.z]] l1)),(2,(.i x2)),(3,(.ptr 3 0 0)),(6,(.str s6)),(7,(.str s7)),(8,(.i x8))],[(3,(AA (.box (Md.cs m))))]⟩
theorem yh(N:Nat)(m:Md)(asv:LI)(u00:Int):EA (UY N) X6 [.tmp 6] [[.str]] [(Md.V m),.list AC [.z,.z,.z,.z,.z,.z,.bool,.list AD [.z]] asv,.i u00]=(D3 (UY N) (DS X6 [1,1,0,1,0,0]) ⟨[1,2,3,6,7,8],[3],[]⟩ N (UR m asv u00 ({data:=#[]}) ({data:=#[]}) 0) (DW 0 (DX (UY N) (DS X6 [1,1,1]) (D2 (UY N) AB [.tmp 6] [[.str]])))):=AF
theorem ze6(N:Nat)(m:Md)(l1:LI)(x2:Int)(s6 s7:BA)(x8:Int)(again:St->DU)(k:Out->St->DU):EY (UY N) (DS X6 [1,1,0,1,0,0]) (UR m l1 x2 s6 s7 x8) (ES again ⟨[1,2,3,6,7,8],[3],[]⟩ k)=(cond (AE (x8<ic (AN l1))) (cond (AE (x8<5)) (cond (AE (0<=x8)&&AE (x8<ic (AN l1))) (cond (QI m) (cond (AE (AP s7+AP (EW (Qy.bud (IW (TH (AR l1 (AM x8) default)) m) (D0 x2 0 300)) (Md.d m))<=strMax)) (cond (AE (AP (s7++EW (Qy.bud (IW (TH (AR l1 (AM x8) default)) m) (D0 x2 0 300)) (Md.d m))+AP {data:=#[10]}<=strMax)) (again (UR m l1 x2 s6 (s7++EW (Qy.bud (IW (TH (AR l1 (AM x8) default)) m) (D0 x2 0 300)) (Md.d m)++{data:=#[10]}) (AI AJ (x8+1)))) AB) AB) AB) AB) (k (.exit 0) (UR m l1 x2 s6 s7 x8))) (k (.exit 0) (UR m l1 x2 s6 s7 x8))):=AF
theorem ij(N:Nat)(m:Md)(l1:LI)(x2:Int)(s6 s7:BA)(x8:Int):(DW 0 (DX (UY N) (DS X6 [1,1,1]) (D2 (UY N) AB [.tmp 6] [[.str]]))) (.exit 0) (UR m l1 x2 s6 s7 x8)=(AA (.str s7,[])):=AF
open Go Go.Proofs
theorem Ph:D6 PR B0 7 XV:=Snd.mono zdO λ_ _ h=>Yz h
theorem Pg:D6 PR B0 9 XU:=Snd.mono zdN λ_ _ h=>Za h
open Go Go.Proofs
open Go Go.Proofs
open Go Go.Proofs
theorem Iq(N:Nat)(m:Md)(hm:QI m=AC)(l:LI)(z:Int)(s6:BA)(K:Out->St->DU)(hx:∀s7 x,K (.exit 0) (UR m l z s6 s7 x)=AA (.str s7,[])):
  ∀(d i n:Nat) (s7:BA),i+d=5->d<n->s7.size<=2001*i->
   D3 (UY N) (DS X6 [1,1,0,1,0,0]) ⟨[1,2,3,6,7,8],[3],[]⟩ n (UR m l z s6 s7 (i:Int)) K=
    AA (.str (IP m.d s7 (SN m ((l.take 5).drop i) (D0 z 0 300))),[])
 |d,i,n+1,s7,hd,hn,h7=>by
  have hw:=UL z 0 300 AG AG AG;rw[D8,ze6];by_cases hi:i<l.length
  .by_cases hk:i<5
   .obtain⟨d,rfl⟩:∃e,d=e+1:=⟨d-1,by omega⟩;have hp:=zJ hm (TH l[i]) hw.1 (show D0 z 0 300<=65536 by omega);rw[HY hi,IM,IX hi,AL (show((i:Nat):Int)<5 by omega),hm,GM AG];rw[zfm hi hk,zco,IP];generalize(IW (TH l[i]) m).bud (D0 z 0 300)=q at hp ⊢;have g1:(s7++EW q m.d).size=s7.size+(EW q m.d).size:=BC;have e1:F6.size=1:=rfl;rw[AL (show s7.size+(EW q m.d).size<=strMax by unfold strMax;omega)];rw[AL (show(s7++EW q m.d).size+AP {data:=#[10]}<=strMax by rw[g1];unfold strMax;show _+F6.size<=_;omega)];simp only[DQ,CK];exact Iq N m hm l z s6 K hx d (i+1) n (s7++EW q m.d++F6) AG AG (by rw[BC,BC];omega)
   .rw[HY hi,AS (show¬((i:Nat):Int)<5 by omega),DQ,DR,Tz AG];exact hx _ _
  .rw[IZ AG,DR,Tz AG];exact hx _ _
 |_,_,0,_,_,h,_=>by omega
theorem zdU:D6 PR B0 31 dY:=by
 refine EF [(10,W4),(32,M8),(9,XU),(7,XV)] [(3,⟨[1,2,3,6,7,8],[3],[]⟩)] dY [[.str]] Tryz.func31 oy ⟨Pi,bZ,Pg,Ph,trivial⟩ ?_;intro vs r hwf h;unfold dY at h;split at h
 .rename_i m xs z;replace h:=II h;obtain⟨m,rfl,h⟩:=h;cases hg:(QI m)with
  |false=>rw[hg]at h;simp[R.get]at h
  |true=>
  rw[hg,R.get_br,DQ,R.get_ok]at h;refine⟨6,(yh 6 m xs z).trans ?_⟩;refine(Iq 6 m hg xs z EQ _ (λs7 x=>ij 6 m xs z EQ s7 x) 5 0 6 EQ rfl AG (A4 _)).trans ?_;rw[CD];exact h
 .simp[R.get]at h
open Go
theorem zP{m:Md}{d:Int}:∀{vs:LI} {Q:List Qy},U6 m vs (Q.map λq=>IV.str (EW q d))=AC->vs.length=Q.length->∀i (h1:i<vs.length) (h2:i<Q.length),TK m (EW Q[i] d) (QQ vs[i])=AC
 |[],_,_,_,i,h1,_=>absurd h1 (by simp)
 |v::r,[],_,hl,_,_,_=>by simp at hl
 |v::r,q::Q,hb,hl,i,h1,h2=>by
  rw[A8,U6,AQ]at hb;cases i with
  |zero=>exact hb.1
  |succ i=>exact zP (vs:=r) (Q:=Q) hb.2 (by simpa using hl) i (by simpa using h1) (by simpa using h2)
theorem af{m:Md}{q:Qy}(hs:Sits m q){v:Vd}(h:TK m (EW q m.d) v=AC):(v.kind==4)=AD/\(v.kind=1->K0 m q=AC)/\(v.kind=2->K0 m q=AD):=by
 have ho:TJ m (EW q m.d)=AC:=by
  unfold TJ;rw[hs.ask,hs.qq,hs.dd,hs.right];simp
 unfold TK at h;rw[ho,DQ,hs.qq]at h;cases h3:v.kind==3 with
 |true=>
  have e:v.kind=3:=by simpa using h3
  rw[e];exact⟨rfl,λh=>by omega,λh=>by omega⟩
 |false=>
  rw[h3,DR]at h;cases h12:(v.kind==1||v.kind==2)with
  |false=>rw[h12,DR]at h;cases h
  |true=>
   rw[h12,DQ,AQ,AQ]at h;have hp:=h.2.2;refine⟨?_,(Ma hp).1,(Ma hp).2⟩;simp only[vap,CF]at h12;rcases h12 with h|h<;>rw[h]<;>rfl
theorem ma{m:Md}(hm:EU m=AC)(hw:cP m){Q:List Qy}(hs:∀q∈Q,Sits m q){r:BA}(h:bR (HU m) (IP m.d EQ Q) r=AC):
  ∃vs,N0 r=AA vs/\vs.length=Q.length/\∀i (h1:i<vs.length) (h2:i<Q.length),((QQ vs[i]).kind==4)=AD/\((QQ vs[i]).kind=1->K0 m Q[i]=AC)/\((QQ vs[i]).kind=2->K0 m Q[i]=AD):=by
 obtain⟨t1,t2⟩:=zfp hm hw;unfold bR at h;rw[t1,DQ,t2,vL]at h;cases ht:N0 r with
 |none=>rw[ht]at h;cases h
 |some vs=>
  rw[ht]at h;replace h:(ic vs.length==ic (Q.map λq=>IV.str (EW q m.d)).length&&U6 m vs (Q.map λq=>IV.str (EW q m.d)))=AC:=h;rw[AQ]at h;have hl:vs.length=Q.length:=by
   have h1:=h.1;rw[BW]at h1;have h1:ic vs.length=ic Q.length:=by simpa using h1
   simp only[ic]at h1;omega
  exact⟨vs,rfl,hl,λi h1 h2=>af (hs _ (C0 h2)) (zP h.2 hl i h1 h2)⟩
open Go Go.Proofs
def ZW(N:Nat):Env:=EE [(23,S2),(12,W7),(15,S3),(32,M8),(33,dX),(31,dY),(34,eD),(29,TB),(27,eZ),(13,TE),(9,XU),(7,XV)] [(22,⟨[14,15,22,127,128,129],[15],[]⟩)] 172 N
abbrev N3(m:Md)(ls vs:LI)(e i:Int):St:=⟨[(14,.bool AD),(15,.ptr 15 0 0),(22,.list AD [.str] ls),(127,.list AC [.z,.list AC EO,.z,.z,.z,.z,.z,.z] vs),(128,.i e),(129,.i i)],[(15,AA (.box m.cs))]⟩
abbrev sQ:KP:=⟨[14,15,22,127,128,129],[15],[]⟩
abbrev uO:List Nat:=[1,1,1,1,1,1,1,1,1,1,0,1,0,0]
noncomputable abbrev sG(N:Nat):Out->St->DU:=DW 1 (DX (ZW N) (DS aD [1,1,1,1,1,1,1,1,1,1,1]) (D2 (ZW N) AB [.tmp 14] [[.bool]]))
def XZ(x:Int):BA:=strOfNums (BG IV.toInt [IV.int x])
def zF(r:BA)(k x w:Int)(K:BA->DU):DU:=
 cond (w==0) (cond (AE (0<=k)&&AE (k<=ic r.size)) (cond (AE ((r.extract 0 k.toNat).size+(XZ x).size<=strMax)) (cond (AE (0<=D7 (k+1))&&AE (D7 (k+1)<=ic r.size))
   (cond (AE ((r.extract 0 k.toNat++XZ x).size+(r.extract (D7 (k+1)).toNat r.size).size<=strMax)) (K (r.extract 0 k.toNat++XZ x++r.extract (D7 (k+1)).toNat r.size)) AB) AB) AB) AB)
  (cond (w==1) (cond (AE (0<=k)&&AE (k<=ic r.size)) (cond (AE ((r.extract 0 k.toNat).size+(XZ x).size<=strMax)) (cond (AE (0<=k)&&AE (k<=ic r.size))
    (cond (AE ((r.extract 0 k.toNat++XZ x).size+(r.extract k.toNat r.size).size<=strMax)) (K (r.extract 0 k.toNat++XZ x++r.extract k.toNat r.size)) AB) AB) AB) AB)
   (cond (w==2) (cond (AE (0<=k)&&AE (k<=ic r.size)) (cond (AE (0<=D7 (k+1))&&AE (D7 (k+1)<=ic r.size))
     (cond (AE ((r.extract 0 k.toNat).size+(r.extract (D7 (k+1)).toNat r.size).size<=strMax)) (K (r.extract 0 k.toNat++r.extract (D7 (k+1)).toNat r.size)) AB) AB) AB)
    (K r)))
def Z7(r:BA)(z x w:Int)(K:BA->DU):DU:=
 cond (AE (ic r.size>0)) (cond (AE (ME 0 (D7 (ic r.size-1))=0)) AB (zF r (D0 z 0 (D7 (ic r.size-1))) x w K)) (K r)
noncomputable def Z6(N:Nat)(m:Md)(t r:BA):DU:=
 cond (AE ((HU m).size<4294967281)&&(AE (t.size<4294967281)&&AE (r.size<4294967281))) (cond (!bR (HU m) t r) (AA (.bool AC,[]))
  (cond (AE (r.size<4294967281)) (cond (Option.isSome (N0 r)) (cond (AE (t.size<4294967281)) (cond (ic (AN (vbq (N0 r) []))!=ic (AN (FO t))) (AA (.bool AD,[]))
    (D3 (ZW N) (DS aD uO) sQ N (N3 m (FO t) (vbq (N0 r) []) (ic (AN (vbq (N0 r) []))) 0) (sG N))) AB)
   (cond (AE (t.size<4294967281)) (AA (.bool AD,[])) AB)) AB)) AB
def kX(a t:BA)(K:BA->DU):DU:=cond (AE (a.size<4294967281)&&(AE (t.size<4294967281)&&AE ((PJ a t).size<=strMax))) (K (PJ a t)) AB
def zG(h:Int):Bool:=AI AJ (ic (B1 (A0 (AT AJ) h&&&A0 (AT AJ) 1)))==1
noncomputable def zE(N:Nat)(m o:Md)(t:BA)(z x h:Int):DU:=
 kX (HU m) t λr=>cond (zG h) (cond (o.d==m.d) (kX (HU o) t λr=>Z7 r z x (D0 (D7 (Int.tdiv h 2)) 0 3) (Z6 N m t)) (Z7 r z x (D0 (D7 (Int.tdiv h 2)) 0 3) (Z6 N m t))) (Z7 r z x (D0 (D7 (Int.tdiv h 2)) 0 3) (Z6 N m t))
set_option maxRecDepth 100000
theorem yg(N:Nat)(f g:Ft)(al:LI)(y z x h:Int):EA (ZW N) aD [.tmp 14] [[.bool]] [f.V,g.V,.list AC [.z,.z,.z,.z,.z,.z,.bool,.list AD [.z]] al,.i y,.i z,.int .u8 x,.i h]=
 cond (QI f.M) (zE N f.M g.M (IP f.M.d EQ (SN f.M (AU 5 al) (D0 y 0 300))) z x h) AB:=AF
theorem Rk(N:Nat)(m:Md)(ls vs:LI)(e i:Int)(again:St->DU)(k:Out->St->DU):EY (ZW N) (DS aD uO) (N3 m ls vs e i) (ES again sQ k)=
 cond (AE (i<e)) (cond (AE (0<=i)&&AE (i<ic (AN vs))) (cond (AE (0<=i)&&AE (i<ic (AN ls)))
 (cond (AE ((IV.toStr (AR ls (AM i) default)).size<4294967281))
 (cond (E8 m (E1 (IV.toStr (AR ls (AM i) default)))&&(AE ((1:Int)<=1500)&&AE ((1500:Int)<=65536)))
 (cond (LZ (IV.toStr (AR ls (AM i) default))) (cond (!I6 m (E1 (IV.toStr (AR ls (AM i) default))) (FG (E1 (IV.toStr (AR ls (AM i) default)))) 1500)
 (cond (IV.toInt (IV.cell (AR vs (AM i) default) 0)==1)
 (cond (!(!I6 m (E1 (IV.toStr (AR ls (AM i) default))) (FG (E1 (IV.toStr (AR ls (AM i) default)))) 1500&&K0 m (E1 (IV.toStr (AR ls (AM i) default))))) (k .ret (N3 m ls vs e i))
 (cond (IV.toInt (IV.cell (AR vs (AM i) default) 0)==2) (cond (!I6 m (E1 (IV.toStr (AR ls (AM i) default))) (FG (E1 (IV.toStr (AR ls (AM i) default)))) 1500&&K0 m (E1 (IV.toStr (AR ls (AM i) default)))) (k .ret (N3 m ls vs e i)) (again (N3 m ls vs e (D7 (i+1))))) (again (N3 m ls vs e (D7 (i+1))))))
 (cond (IV.toInt (IV.cell (AR vs (AM i) default) 0)==2) (cond (!I6 m (E1 (IV.toStr (AR ls (AM i) default))) (FG (E1 (IV.toStr (AR ls (AM i) default)))) 1500&&K0 m (E1 (IV.toStr (AR ls (AM i) default)))) (k .ret (N3 m ls vs e i)) (again (N3 m ls vs e (D7 (i+1))))) (again (N3 m ls vs e (D7 (i+1))))))
 (again (N3 m ls vs e (D7 (i+1))))) (again (N3 m ls vs e (D7 (i+1))))) AB) AB) AB) AB)
 (k (.exit 1) (N3 m ls vs e i)):=AF
theorem fq(N:Nat)(m:Md)(ls vs:LI)(e i:Int):sG N (.exit 1) (N3 m ls vs e i)=AA (.bool AC,[]):=AF
open Go Go.Proofs
set_option maxRecDepth 100000
theorem Zt(x:Int):(XZ x).size=1:=rfl
def pI:D4
 |[f,g,.list AC [.z,.z,.z,.z,.z,.z,.bool,.list AD [.z]] _,.i _,.i _,.int .u8 _,.i _]=>o5 f λ_=>o5 g λ_=>.ok (.bool AC) []
 |_=>.no
theorem zH(N:Nat)(m:Md)(Q:List Qy)(vs:LI)(hl:vs.length=Q.length)(hQl:Q.length<=5)(hs:∀q∈Q,Sits m q)(hz:∀q∈Q,(EW q m.d).size<=2000)
  (hk:∀i (h1:i<vs.length) (h2:i<Q.length),((QQ vs[i]).kind=1->K0 m Q[i]=AC)/\((QQ vs[i]).kind=2->K0 m Q[i]=AD)):
  ∀(d i n:Nat),i+d=Q.length->d<n->D3 (ZW N) (DS aD uO) sQ n (N3 m (Q.map λq=>IV.str (EW q m.d)) vs (ic vs.length) (i:Int)) (sG N)=AA (.bool AC,[])
 |0,i,n+1,hd,_=>by
  rw[D8,Rk,IZ AG,DR,fq]
 |d+1,i,n+1,hd,hn=>by
  have h2:i<Q.length:=by omega
  have h1:i<vs.length:=by omega
  have h3:i<(Q.map λq=>IV.str (EW q m.d)).length:=by rw[BW];exact h2
  have hq:(Q.map λq=>IV.str (EW q m.d))[i]=IV.str (EW Q[i] m.d):=by rw[List.getElem_map]
  have hm:=C0 h2;obtain⟨g2,g3⟩:=hk i h1 h2;have hsz:=hz _ hm;have ht:=hs _ hm;have ih:=zH N m Q vs hl hQl hs hz hk d (i+1) n AG AG;rw[D8,Rk,HY h1,DQ,IM,BR,DQ,HY h3,BR,DQ,IX h1,IX h3,hq,show D7 ((i:Int)+1)=((i+1:Nat):Int)from GM AG];rw[show IV.toInt (IV.cell vs[i] 0)=(QQ vs[i]).kind from rfl];show cond (AE ((EW Q[i] m.d).size<4294967281)) (cond (E8 m (E1 (EW Q[i] m.d))&&_) (cond (LZ (EW Q[i] m.d)) _ _) AB) AB=_;generalize QQ vs[i]=v at g2 g3 ⊢;rw[AL (show(EW Q[i] m.d).size<4294967281 by omega),DQ];show cond (E8 m (E1 (EW Q[i] m.d))&&_) (cond (LZ (EW Q[i] m.d)) (cond (!I6 m (E1 (EW Q[i] m.d)) (FG (E1 (EW Q[i] m.d))) 1500)
   (cond (v.kind==1)
      (cond (!(!I6 m (E1 (EW Q[i] m.d)) (FG (E1 (EW Q[i] m.d))) 1500&&K0 m (E1 (EW Q[i] m.d)))) _
       (cond (v.kind==2) (cond (!I6 m (E1 (EW Q[i] m.d)) (FG (E1 (EW Q[i] m.d))) 1500&&K0 m (E1 (EW Q[i] m.d))) _ _) _))
      (cond (v.kind==2) (cond (!I6 m (E1 (EW Q[i] m.d)) (FG (E1 (EW Q[i] m.d))) 1500&&K0 m (E1 (EW Q[i] m.d))) _ _) _)) _) _) AB=_
  rw[ht.qq,ht.ask,ht.right];rw[show(AC&&(AE ((1:Int)<=1500)&&AE ((1500:Int)<=65536)))=AC from rfl,DQ,DQ];cases hov:I6 m Q[i] (FG Q[i]) 1500 with
  |true=>exact ih
  |false=>
   rw[BF,DQ,BI];cases hk1:v.kind==1 with
   |true=>
    have e:v.kind=1:=by simpa using hk1
    rw[g2 e,show(v.kind==2)=AD by rw[e];rfl];exact ih
   |false=>
    rw[DR];cases hk2:v.kind==2 with
    |true=>
     have e:v.kind=2:=by simpa using hk2
     rw[g3 e];exact ih
    |false=>exact ih
 |0,_,0,_,h=>by omega
 |_+1,_,0,_,h=>by omega
theorem Zu{m:Md}(hm:EU m=AC)(hw:cP m){Q:List Qy}(hQl:Q.length<=5)(hs:∀q∈Q,Sits m q)(hz:∀q∈Q,(EW q m.d).size<=2000){r:BA}(hr:r.size<=4000028001):
  Z6 6 m (IP m.d EQ Q) r=AA (.bool AC,[]):=by
 have hps:=Ly hm;have hqz:=vM m.d Q EQ hz;have n0:EQ.size=0:=rfl;unfold Z6;rw[AL (show(HU m).size<4294967281 by omega),AL (show(IP m.d EQ Q).size<4294967281 by omega),AL (show r.size<4294967281 by omega),BR,BR,DQ];cases hrep:bR (HU m) (IP m.d EQ Q) r with
 |false=>rfl
 |true=>
  obtain⟨vs,ht,hl,hall⟩:=ma hm hw hs hrep;rw[ht,vL];have hne:(ic (AN (vbq (AA vs) []))!=ic (Q.map λq=>IV.str (EW q m.d)).length)=AD:=by
   show(ic vs.length !=ic _)=AD;rw[BW,hl];simp
  rw[hne];simp only[A9,DR,Option.isSome_some,DQ,vam];exact zH 6 m Q vs hl hQl hs hz (λi h1 h2=>(hall i h1 h2).2) Q.length 0 6 AG AG
theorem Zv{K:BA->DU}(hK:∀s:BA,s.size<=4000028001->K s=AA (.bool AC,[])){r:BA}(hr:r.size<=4000028000)(z x w:Int):Z7 r z x w K=AA (.bool AC,[]):=by
 unfold Z7;by_cases h0:0<r.size
 .rw[AL (show ic r.size>0 by simp only[ic];omega),DQ];have e1:D7 (ic r.size-1)=ic r.size-1:=ER (by simp only[ic];omega) (by simp only[ic];omega);have hk:=UL z 0 (ic r.size-1) (by simp only[ic];omega) AG (by simp only[ic];omega);have hm0:ME 0 (ic r.size-1)≠0:=by
   unfold ME;rw[show D7 (ic r.size-1-0)=ic r.size-1 by rw[Int.sub_zero];exact e1];rw[show D7 (ic r.size-1+1)=ic r.size from by rw[Int.sub_add_cancel];exact ER (by simp only[ic];omega) (by simp only[ic];omega)];simp only[ic];omega
  rw[e1,AS hm0,DR];generalize D0 z 0 (ic r.size-1)=k at hk ⊢;obtain⟨j,rfl⟩:=Int.eq_ofNat_of_zero_le hk.1;have hj:j+1<=r.size:=by simp only[ic]at hk;omega
  have e2:D7 ((j:Int)+1)=((j+1:Nat):Int):=GM AG;have z1:(r.extract 0 j).size=j:=by rw[vay];omega
  have z2:(r.extract (j+1) r.size).size=r.size-(j+1):=by rw[vay];omega
  have z3:(r.extract j r.size).size=r.size-j:=by rw[vay];omega
  have c1:(AE (0<=(j:Int))&&AE ((j:Int)<=ic r.size))=AC:=by rw[AL AG,AL (by simp only[ic];omega)];rfl
  have c2:(AE (0<=((j+1:Nat):Int))&&AE (((j+1:Nat):Int)<=ic r.size))=AC:=by rw[AL AG,AL (by simp only[ic];omega)];rfl
  have zb:=Zt x;unfold zF;rw[e2,c1,c2];simp only[BE,BC,z1,z2,z3,zb,DQ];rw[AL (show j+1<=strMax by unfold strMax;omega),AL (show j+1+(r.size-(j+1))<=strMax by unfold strMax;omega),AL (show j+1+(r.size-j)<=strMax by unfold strMax;omega),AL (show j+(r.size-(j+1))<=strMax by unfold strMax;omega)];simp only[DQ];rw[hK _ (by simp only[BC,z1,z2,zb];omega),hK _ (by simp only[BC,z1,z3,zb];omega),hK _ (by simp only[BC,z1,z2];omega),hK r AG];cases w==0<;>cases w==1<;>cases w==2<;>rfl
 .rw[AS (show¬ic r.size>0 by simp only[ic];omega),DR];exact hK r AG
theorem zdT:D6 PR B0 6 pI:=by
 refine EF [(23,S2),(12,W7),(15,S3),(32,M8),(33,dX),(31,dY),(34,eD),(29,TB),(27,eZ),(13,TE),(9,XU),(7,XV)] [(22,⟨[14,15,22,127,128,129],[15],[]⟩)] pI [[.bool]] Tryz.func6 ox ⟨wJ,Pl,wK,bZ,zdS,zdU,zd1,wT,zed,wY,Pg,Ph,trivial⟩ ?_;intro vs r hwf h;unfold pI at h;split at h
 .rename_i f g al y z x hh;replace h:=yG h;obtain⟨f,rfl,h⟩:=h;replace h:=yG h;obtain⟨g,rfl,h⟩:=h;rw[R.get_ok]at h;refine⟨6,(yg 6 f g al y z x hh).trans ?_⟩;rw[<-h,yU,DQ];have hw:=UL y 0 300 AG AG AG;have hsm:=zcr (yU f) (al.take 5) hw.1 (show D0 y 0 300<=65536 by omega);have hsi:=zcq f (al.take 5) hw.1 (show D0 y 0 300<=65536 by omega);have hql:(SN f.M (al.take 5) (D0 y 0 300)).length<=5:=by rw[zcp,BL];omega
  generalize SN f.M (al.take 5) (D0 y 0 300)=Q at hsm hsi hql ⊢;have hM:=pH f;have hW:cP f.M:=vy _ _ _ _;have hqz:=vM f.M.d Q EQ hsm;have n0:EQ.size=0:=rfl;have hll:(FO (IP f.M.d EQ Q)).length<=1000:=by rw[zcn];omega
  have hrun:∀(o:Ft) (K:BA->DU),kX (HU o.M) (IP f.M.d EQ Q) K=K (PJ (HU o.M) (IP f.M.d EQ Q)):=λo K=>by
   have h1:=Ly (pH o);have h2:=Od (HU o.M) (IP f.M.d EQ Q) hll;unfold kX;rw[AL (show(HU o.M).size<4294967281 by omega),AL (show(IP f.M.d EQ Q).size<4294967281 by omega),AL (show(PJ (HU o.M) (IP f.M.d EQ Q)).size<=strMax by unfold strMax;omega),BR,BR,DQ]
  have hfin:∀o:Ft,Z7 (PJ (HU o.M) (IP f.M.d EQ Q)) z x (D0 (D7 (Int.tdiv hh 2)) 0 3) (Z6 6 f.M (IP f.M.d EQ Q))=AA (.bool AC,[]):=λo=>
   Zv (λs hs=>Zu hM hW hql hsi hsm hs) (by have:=Od (HU o.M) (IP f.M.d EQ Q) hll;omega) z x _
  unfold zE;rw[hrun f,hrun g,hfin f,hfin g];cases zG hh<;>cases(g.M.d==f.M.d)<;>rfl
 .simp[R.get]at h
end Go.FM
