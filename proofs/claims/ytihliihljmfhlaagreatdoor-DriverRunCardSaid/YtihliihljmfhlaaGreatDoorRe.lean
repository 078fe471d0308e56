/-
  A small machine that reckons what a call comes to; the functions of the program, one by one. (cert's FUNCTIONS COME TO WHAT IS SAID (2): read, Print, Pars, WHAT driver's AND audit's FUNCTIONS COME TO: specifications., strings.IndexByte COMES TO WHAT IS SAID (out of the shelf's , and so on.)
-/
import Derived.Test.YtihliihljmfhlaaGreatDoorRd
import Derived.Lib.LaidU8
set_option linter.all false
set_option maxRecDepth 100000
open Array renaming length_toList→C8,getElem?_eq_some_iff→DI,toList_append→vaj
open BitVec renaming ofInt→A0,toNat→B1
open Bool renaming and_eq_true→AP,not_true→A9,true_and→BE,not_false→BG,false_and→BP,and_self→BX,not_eq_true'→CC,and_true→CJ,and_false→DB,or_eq_false_iff→vaa,eq_iff_iff→vac,false_or→vam,or_eq_true→vap,true→AC,false→AD
open ByteArray renaming size→AR,size_append→A7,toList→BY,empty→CQ,append_assoc→DM,size_extract→vaQ,size_push→va6
open Decidable renaming decide→AE
open Go.IntKind renaming wrap→AI,i64→AJ,u64→AO,bits→AT,u8→vbb
open Go.Lib renaming decDigits→CS,join→vaJ,split→va3,itoa→va7
open Go.Lib.laidMet renaming reads→vbr
open Go.ResultVar renaming tmp→B9,cell→vbm
open Go.World renaming cell?→vaH
open Int renaming toNat→AM,toNat_natCast→BH,fdiv→C3,le_refl→DO,fdiv_eq_ediv_of_nonneg→vaD
open List renaming length→AN,getD→AQ,take→AU,length_cons→AV,mem_cons→AY,mem_cons_self→AZ,length_append→A2,drop→A3,mem_append→A4,mem_cons_of_mem→A6,map_cons→A8,drop_eq_getElem_cons→BD,getElem?_eq_getElem→BF,length_take→BJ,getD_eq_getElem?_getD→BK,length_nil→BL,map→BQ,replicate→BU,take_length→BW,getElem?_eq_none→B4,mem_singleton→B7,length_map→B8,drop_zero→CA,not_mem_nil→CD,getElem?_map→CK,map_nil→CN,mem_map→CV,all_eq_true→CZ,cons_append→C0,drop_of_length_le→C1,drop_length→C4,take_of_length_le→C9,getElem_mem→DC,length_singleton→DD,nil_append→DK,length_drop→DL,length_set→DP,append_nil→vad,all_cons→van,foldl_cons→vas,mem_of_mem_take→vav,append_assoc→vax,range→vaA,mem_range→vaF,getElem?_set_ne→vaG,mem_of_mem_drop→vaL,set→vaM,eq_nil_of_length_eq_zero→vaZ,map_append→va5,range'→va8,getElem?_set_self→vbh,isPrefixOf→vbu
open List.Pairwise renaming of_cons→vbB
open List.cons renaming injEq→vaB
open Nat renaming le_of_ble_eq_true→AX,le_refl→A5,zero_add→BS,blt→BV,beq→BZ,ble→CF,zero_le→CG,ble_eq_true_of_le→CU,lt_of_lt_of_le→CY,le_trans→DF,eq_of_beq_eq_true→vag,min_eq_left→vau,sub_zero→vay,pow_le_pow_right→vaS
open Option renaming some→AA,none→AB
open Option.some renaming injEq→AK,inj→CI
namespace Go.FM
open Go Go.Proofs
theorem Ic(s w:BA)(l:LI):s.size<=(HL s w l).size:=by
 unfold HL
 have:=m6 l (s++w)
 rw[A7]at this;rw[va6];omega
theorem uQ:∀(l:LI) (s:BA),s.size<=(R6 s l).size
 |[],s=>A5 _
 |x::l,s=>by
  unfold R6;refine DF ?_ (uQ l _);cases I0 x
  .exact Ic _ _ _
  .exact Ic _ _ _
theorem Lu(N:Nat)(l:LI)(t:BA)(K:Out->St->DW)(hl:l.length<=65536)
  (hx:∀s x26 x27,K (.exit 1) ⟨[(2,(.str t)),(3,(.ptr 3 0 0)),(25,(.list AC EX l)),(26,(.i x26)),(27,(.i x27))],[(3,(AA (.bld s)))]⟩=AA (.str s,[])):
  ∀(d i n:Nat) (s:BA),i+d=l.length->d<n->(R6 s (l.drop i)).size<=strMax->
   D7 (UH N) (DU XF [1,1,1,0,1,0,1,0,1,1,0,0]) ⟨[2,3,25,26,27],[3],[]⟩ n ⟨[(2,(.str t)),(3,(.ptr 3 0 0)),(25,(.list AC EX l)),(26,(.i (ic l.length))),(27,(.i (i:Int)))],[(3,(AA (.bld s)))]⟩ K=AA (.str (R6 s (l.drop i)),[])
 |0,i,n+1,s,hd,_,_=>by
  rw[ED,Rr,I6 AG,C1 (l:=l) (i:=i) AG];simp only[DT,R6];exact hx s _ _
 |d+1,i,n+1,s,hd,hn,hs=>by
  have hi:i<l.length:=by omega
  rw[ED,Rr,H0 hi,IG,GQ AG,IK hi];rw[BD hi]at hs ⊢;simp only[R6]at hs ⊢;simp only[DS,CJ];have hsz:=uQ (l.drop (i+1)) (cond (I0 l[i]) (HL s jX []) (HL s jW [.int (FW l[i]),.int (GY l[i])]));have ih:=λs' h'=>Lu N l t K hl hx d (i+1) n s' AG AG h'
  have es:(l[i].cell 0).toBool=I0 l[i]:=rfl;rw[es];cases hc:I0 l[i]with
  |true=>
   rw[hc]at hsz hs;simp only[DS]at hsz hs ⊢;rw[AL (show(HL s jX []).size<=strMax by omega)];simp only[DS];exact ih _ hs
  |false=>
   rw[hc]at hsz hs;simp only[DT]at hsz hs ⊢;have e2:[IV.int (IV.toInt (IV.cell l[i] 1)),IV.int (IV.toInt (IV.cell l[i] 2))]=[.int (FW l[i]),.int (GY l[i])]:=rfl;rw[e2,AL (show(HL s jW [.int (FW l[i]),.int (GY l[i])]).size<=strMax by omega)];simp only[DS];exact ih _ hs
 |0,_,0,_,_,h,_=>by omega
 |_+1,_,0,_,_,h,_=>by omega
theorem zcI{v:Vd}(h:v.right=AC):v.proof.length<=65536:=by
 unfold Vd.right at h;simp only[AP,vap]at h;rcases h.2.2 with h1|h1|h1
 .have:=h1.2.2
  unfold TZ at this;simp only[AP,AW]at this;exact this.2.1
 .have:=h1.2
  cases hp:v.proof with
  |nil=>simp
  |cons a b=>rw[hp]at this;cases this
 .have:=h1.2.2
  cases hp:v.proof with
  |nil=>simp
  |cons a b=>rw[hp]at this;cases this
theorem Pl:D9 PR B0 11 WP:=by
 refine EJ [(45,cU),(46,cV),(47,UM)] [(9,⟨[2,3,25,26,27],[3],[]⟩)] WP [[.str]] Tryz.func11 nn ⟨zdA,zdB,wM,trivial⟩ ?_;intro vs r hwf h;unfold WP at h;split at h
 .rename_i k p a b c d t s;obtain⟨v,hv⟩:∃v:Vd,v=⟨k,p,a,b,c,d,t,s⟩:=⟨_,rfl⟩;refine⟨v.proof.length+1,?_⟩;rw[<-h];rw[<-hv]at h ⊢;have hn:=wz (v.proof.length+1) v;rw[show Vd.V v=.agg [.i k,.list AC [.bool,.z,.z] p,.i a,.i b,.i c,.i d,.i t,.i s] by rw[hv];rfl]at hn;refine hn.trans ?_;clear hn;rw[R.get_br,R.get_ok,R.get_no]at h;simp only[R.get_br,R.get_ok,R.get_no];cases hc:AE ((HU v).size<=strMax)with
  |false=>rw[hc]at h;cases h
  |true=>
   have hle:=BB hc;simp only[DS];unfold HU at hle ⊢;cases hr:Vd.right v with
   |false=>rfl
   |true=>
    rw[hr]at hle;simp only[A9,DS,DT]at hle ⊢;have e0:CQ=GM:=rfl;simp only[e0];cases k1:v.kind==1 with
    |true=>
     rw[k1]at hle;simp only[DS]at hle ⊢;have h1:=uQ v.proof (HL GM YX [.int v.spent,.int (ic v.proof.length)]);rw[AL (show(HL GM YX [.int v.spent,.int (ic v.proof.length)]).size<=strMax by omega)];simp only[DS]
     have:=Lu (v.proof.length+1) v.proof GM _ (zcI hr) (λs' x26 x27=>gl (v.proof.length+1) GM v.proof x26 x27 s') v.proof.length 0 (v.proof.length+1) (HL GM YX [.int v.spent,.int (ic v.proof.length)]) AG AG (by rw[CA];exact hle)
     rw[CA]at this;exact this
    |false=>
     rw[k1]at hle;simp only[DT]at hle ⊢;cases k2:v.kind==2 with
     |true=>
      rw[k2]at hle;simp only[DS]at hle ⊢;have ew:(A3 0 (AU (1+4+1) (AU (1+4) (AU 1 [IV.int (Vd.spent v)]++[IV.int (Vd.w0 v),IV.int (Vd.w1 v),IV.int (Vd.w2 v),IV.int (Vd.w3 v)])++[IV.int (Vd.twin v)])))=[.int v.spent,.int v.w0,.int v.w1,.int v.w2,.int v.w3,.int v.twin]:=rfl;rw[ew,AL hle];rfl
     |false=>
      rw[k2]at hle;simp only[DT]at hle ⊢;cases k3:v.kind==3 with
      |true=>
       rw[k3]at hle;simp only[DS]at hle ⊢;rw[AL hle];rfl
      |false=>
       rw[k3]at hle;simp only[DT]at hle ⊢;rw[AL hle];rfl
 .simp[R.get]at h
open Go
abbrev K9:BA:=⟨#[113,117,101,114,121,32]⟩
abbrev zfO:BA:=⟨#[109,111,100,101,108,10]⟩
def HR(s:BA):LI:=cond (s.toList==GM.toList) [] ((EP (JA s IC) IC).map IV.str)
def S0:D5
 |[.str s]=>.br (AE (s.size<4294967281)) (.ok (.list AD [.str] (HR s)) []) .no
 |_=>.no
def V1:Vd:=⟨4,[],0,0,0,0,0,0⟩
def NV(m:Md)(l:BA):Bool:=MH l&&(NA l==m.d&&E8 m (GJ l))
def ZO(m:Md)(q:Qy):Vd:=cond ((FP m q).kind==3||P2 m q (FP m q)) (FP m q) V1
def HE(m:Md)(l:BA):Vd:=cond (NV m l) (ZO m (GJ l)) V1
def WW:D5
 |[m,.str l]=>ID m λm=>.br (AE (l.size<4294967281)) (.ok (HE m l).V []) .no
 |_=>.no
def KD(i:Nat):BA:=(K9++D0 (i:Int))++IC
def gU(i:Int):BA:=(K9++D0 i)++IC
def VL(m:Md):BA->Nat->LI->BA
 |s,_,[]=>s
 |s,i,x::l=>VL m (s++KD i++HU (HE m x.toStr)) (i+1) l
def M1(a b:BA):BA:=cond (Q3 a) (VL (JG a) GM 0 (HR b)) zfO
def WX:D5
 |[.str a,.str b]=>.br (AE (a.size<4294967281)&&(AE (b.size<4294967281)&&AE ((M1 a b).size<=strMax))) (.ok (.str (M1 a b)) []) .no
 |_=>.no
def Vd.I(v:Vd):IV:=.agg [.int v.kind,.list v.proof,.int v.w0,.int v.w1,.int v.w2,.int v.w3,.int v.twin,.int v.spent]
open Go Go.Proofs
open Go Go.Proofs
def Xr(N:Nat):Env:=EI [(64,RJ),(65,W6)] [] 8 N
theorem zl(N:Nat)(s:BA):EB (Xr N) Bh [.tmp 2] [[.list AD [.str]]] [.str s]=(cond (BY s==BY {data:=#[]}) (AA (.list AD [.str] [],[])) (cond (AE (AR (JA s {data:=#[10]})<4294967281)&&AE (1<=AR {data:=#[10]})) (AA ((.list AD [.str] (BQ IV.str (EP (JA s {data:=#[10]}) {data:=#[10]}))),[])) AB)):=AF
def Xq(N:Nat):Env:=EI [(23,WJ),(54,cX),(93,OK),(53,fB)] [] 46 N
theorem zk(N:Nat)(m:Md)(line:BA):EB (Xq N) Bg [.cell 4 50] [[.z,.list AC [.bool,.z,.z],.z,.z,.z,.z,.z,.z]] [(Md.V m),.str line]=(cond (AE (AR line<4294967281)) (cond (!MH line) (AA (.agg [.i 4,.list AC EX [],.i 0,.i 0,.i 0,.i 0,.i 0,.i 0],[])) (cond (NA line !=Md.d m) (AA (.agg [.i 4,.list AC EX [],.i 0,.i 0,.i 0,.i 0,.i 0,.i 0],[])) (cond (!E8 m (GJ line)) (AA (.agg [.i 4,.list AC EX [],.i 0,.i 0,.i 0,.i 0,.i 0,.i 0],[])) (cond (Vd.kind (FP m (GJ line))==3) (AA ((Vd.V (FP m (GJ line))),[])) (cond (P2 m (GJ line) (FP m (GJ line))) (AA ((Vd.V (FP m (GJ line))),[])) (AA (.agg [.i 4,.list AC EX [],.i 0,.i 0,.i 0,.i 0,.i 0,.i 0],[]))))))) AB):=AF
def UK(N:Nat):Env:=EI [(11,WP),(26,WW),(29,S0),(42,RI),(47,UM),(94,UN),(17,fI)] [(6,⟨[4,5,7,18,19,20],[5,7],[]⟩)] 37 N
abbrev V5(u00 s4:BA)(l18:LI)(x19 x20:Int)(so7:BA):St:=⟨[(4,(.str s4)),(5,(.ptr 5 0 0)),(7,(.ptr 7 0 0)),(18,(.list AD [.str] l18)),(19,(.i x19)),(20,(.i x20))],[(5,(AA (.box (Md.cs (JG u00))))),(7,(AA (.bld so7)))]⟩
theorem zm(N:Nat)(u00 u01:BA):EB (UK N) XK [.tmp 4] [[.str]] [.str u00,.str u01]=(cond (AE (AR u00<4294967281)) (cond (!Q3 u00) (AA ((.str ({data:=#[109,111,100,101,108,10]})),[])) (cond (AE (AR u01<4294967281)) (D7 (UK N) (DU XK [1,1,1,1,0,1,0,0]) ⟨[4,5,7,18,19,20],[5,7],[]⟩ N (V5 u00 ({data:=#[]}) (HR u01) (ic (AN (HR u01))) 0 CQ) (DZ 0 (D1 (UK N) (DU XK [1,1,1,1,1]) (D4 (UK N) AB [.tmp 4] [[.str]])))) AB)) AB):=AF
theorem Sk(N:Nat)(u00 s4:BA)(l18:LI)(x19 x20:Int)(so7:BA)(again:St->DW)(k:Out->St->DW):E3 (UK N) (DU XK [1,1,1,1,0,1,0,0]) (V5 u00 s4 l18 x19 x20 so7) (ES again ⟨[4,5,7,18,19,20],[5,7],[]⟩ k)=(cond (AE (x20<x19)) (cond (AE (0<=x20)&&AE (x20<ic (AN l18))) (cond (AE (AR {data:=#[113,117,101,114,121,32]}+AR (D0 x20)<=strMax)) (cond (AE (AR ({data:=#[113,117,101,114,121,32]}++D0 x20)+AR {data:=#[10]}<=strMax)) (cond (AE (AR so7+AR (gU x20)<=strMax)) (cond (AE (AR (IV.toStr (AQ l18 (AM x20) default))<4294967281)) (cond (AE (AR (HU (HE (JG u00) (IV.toStr (AQ l18 (AM x20) default))))<=strMax)) (cond (AE (AR (so7++(gU x20))+AR (HU (HE (JG u00) (IV.toStr (AQ l18 (AM x20) default))))<=strMax)) (again (V5 u00 s4 l18 x19 (AI AJ (x20+1)) (so7++(gU x20)++HU (HE (JG u00) (IV.toStr (AQ l18 (AM x20) default)))))) AB) AB) AB) AB) AB) AB) AB) (k (.exit 0) (V5 u00 s4 l18 x19 x20 so7))):=AF
theorem je(N:Nat)(u00 s4:BA)(l18:LI)(x19 x20:Int)(so7:BA):(DZ 0 (D1 (UK N) (DU XK [1,1,1,1,1]) (D4 (UK N) AB [.tmp 4] [[.str]]))) (.exit 0) (V5 u00 s4 l18 x19 x20 so7)=(AA (.str so7,[])):=AF
open Go
theorem pM{s t:BA}(h:s.data.toList=t.data.toList):s=t:=ByteArray.ext (Array.ext' h)
theorem gA(s t:BA):(s.toList==t.toList)=AE (s=t):=by
 rw[Lib.toList_data,Lib.toList_data];by_cases h:s=t
 .subst h;simp
 .rw[AS h,BI];exact λe=>h (pM e)
theorem zdl(s:BA):s.size=s.data.toList.length:=by rw[C8];rfl
theorem zeU(w:List UInt8)(c:UInt8)(h:c∉w):va3 w [c]=[w]:=by
 unfold va3;rw[Lib.count_one,List.count_eq_zero_of_not_mem h];rfl
theorem Rd(s sep:BA):(EP s sep).map (·.data.toList)=va3 s.data.toList sep.data.toList:=by
 unfold EP va3;rw[Lib.splitB_data]
open Go
theorem XO(s t:BA):(s++t).data.toList=s.data.toList++t.data.toList:=by simp
def IW(n:Int):Prop:= -9223372036854775808<=n/\n<=9223372036854775807
def VT(x:IV):Prop:=IW (FW x)/\IW (GY x)
structure Vd.rng (v:Vd):Prop where
 w0:IW v.w0
 w1:IW v.w1
 w2:IW v.w2
 w3:IW v.w3
 twin:IW v.twin
 spent:IW v.spent
 proof:∀x∈v.proof,VT x
theorem Kh:∀(l:LI) (s:BA),(∀x∈l,IW x.toInt)->(PZ s l).size<=s.size+22*l.length
 |[],s,_=>A5 _
 |x::l,s,h=>by
  rw[PZ];refine DF (Kh l _ (λy hy=>h y (A6 _ hy))) ?_;have hx:=h x (AZ ..)
  have:=gV (n:=x.toInt) hx.1 hx.2
  rw[A7,va6,AV];omega
theorem aQ(s w:BA)(l:LI)(h:∀x∈l,IW x.toInt):(HL s w l).size<=s.size+w.size+22*l.length+1:=by
 unfold HL
 have:=Kh l (s++w) h
 rw[A7]at this;rw[va6];omega
theorem Lq:∀(l:LI) (s:BA),(∀x∈l,VT x)->(R6 s l).size<=s.size+48*l.length
 |[],s,_=>A5 _
 |x::l,s,h=>by
  rw[R6];refine DF (Lq l _ (λy hy=>h y (A6 _ hy))) ?_;have hx:=h x (AZ ..);rw[AV];cases I0 x
  .have:=aQ s jW [.int (FW x),.int (GY x)] (λy hy=>by
    simp only[AY,List.mem_nil_iff,C7]at hy;rcases hy with rfl|rfl
    .exact hx.1
    .exact hx.2)
   have e:jW.size=3:=rfl;simp only[BC,AV,BL]at this ⊢;omega
  .have:=aQ s jX [] (λy hy=>by cases hy)
   have e:jX.size=3:=rfl;simp only[BN,BL]at this ⊢;omega
open Go
theorem zcJ{v:Vd}(h:v.right=AC):v.proof.length<=65536:=by
 unfold Vd.right at h;simp only[AP,vap]at h;rcases h.2.2 with h1|h1|h1
 .have:=h1.2.2
  unfold TZ at this;simp only[AP,AW]at this;exact this.2.1
 .have:=h1.2
  cases hp:v.proof with
  |nil=>simp
  |cons a b=>rw[hp]at this;cases this
 .have:=h1.2.2
  cases hp:v.proof with
  |nil=>simp
  |cons a b=>rw[hp]at this;cases this
theorem rM{l:List Int}(h:∀n∈l,IW n):∀x∈l.map IV.int,IW x.toInt:=by
 intro x hx;obtain⟨n,hn,rfl⟩:=CV.1 hx;exact h n hn
theorem uu{n:Nat}(h:n<=65536):IW (ic n):=by unfold IW ic;omega
theorem uO{v:Vd}(hr:v.rng):(HU v).size<=4000000:=by
 unfold HU;cases h:v.right with
 |false=>simp only[BC];decide
 |true=>
  simp only[BN];have hp:=zcJ h;cases v.kind==1 with
  |true=>
   simp only[BN];have h1:=Lq v.proof (HL GM YX [.int v.spent,.int (ic v.proof.length)]) hr.proof;have h2:=aQ GM YX [.int v.spent,.int (ic v.proof.length)] (rM (l:=[v.spent,ic v.proof.length]) (by
    intro n hn;simp only[AY,List.mem_nil_iff,C7]at hn;rcases hn with rfl|rfl
    .exact hr.spent
    .exact uu hp))
   have e1:GM.size=0:=rfl;have e2:YX.size=5:=rfl;simp only[AV,BL]at h2;omega
  |false=>
   simp only[BC];cases v.kind==2 with
   |true=>
    simp only[BN];have h2:=aQ GM xT [.int v.spent,.int v.w0,.int v.w1,.int v.w2,.int v.w3,.int v.twin] (rM (l:=[v.spent,v.w0,v.w1,v.w2,v.w3,v.twin]) (by
     intro n hn;simp only[AY,List.mem_nil_iff,C7]at hn;rcases hn with rfl|rfl|rfl|rfl|rfl|rfl
     .exact hr.spent
     .exact hr.w0
     .exact hr.w1
     .exact hr.w2
     .exact hr.w3
     .exact hr.twin))
    have e1:GM.size=0:=rfl;have e2:xT.size=5:=rfl;simp only[AV,BL]at h2;omega
   |false=>
    simp only[BC];have hs:∀x∈[IV.int v.spent],IW x.toInt:=rM (l:=[v.spent]) (by
     intro n hn;simp only[AY,List.mem_nil_iff,C7]at hn;subst hn;exact hr.spent)
    have e1:GM.size=0:=rfl;cases v.kind==3 with
    |true=>
     simp only[BN];have h2:=aQ GM xW [.int v.spent] hs;have e2:xW.size=7:=rfl;simp only[AV,BL]at h2;omega
    |false=>
     simp only[BC];have h2:=aQ GM xX [.int v.spent] hs;have e2:xX.size=5:=rfl;simp only[AV,BL]at h2;omega
theorem Q8:IW 0:=⟨by decide,by decide⟩
open Go
theorem ze1(x:IV):bM x x=AC:=by simp[bM]
theorem jJ{x y:IV}:bM x y=AC↔I0 x=I0 y/\FW x=FW y/\GY x=GY y:=by simp[bM]
theorem Oh:∀l:LI,H3 l l=AC
 |[]=>rfl
 |x::l=>by simp[H3,ze1,Oh l]
theorem Oi:∀{l m:LI},H3 l m=AC->H3 m l=AC
 |[],[],_=>rfl
 |[],_::_,h=>by simp[H3]at h
 |_::_,[],h=>by simp[H3]at h
 |x::l,y::m,h=>by
  simp only[H3,AP]at h ⊢;obtain⟨h1,h2,h3⟩:=jJ.1 h.1;exact⟨jJ.2 ⟨h1.symm,h2.symm,h3.symm⟩,Oi h.2⟩
theorem Oj:∀{l m n:LI},H3 l m=AC->H3 m n=AC->H3 l n=AC
 |[],[],[],_,_=>rfl
 |[],[],_::_,_,h=>by simp[H3]at h
 |[],_::_,_,h,_=>by simp[H3]at h
 |_::_,[],_,h,_=>by simp[H3]at h
 |_::_,_::_,[],_,h=>by simp[H3]at h
 |x::l,y::m,z::n,h,k=>by
  simp only[H3,AP]at h k ⊢;obtain⟨h1,h2,h3⟩:=jJ.1 h.1;obtain⟨k1,k2,k3⟩:=jJ.1 k.1;exact⟨jJ.2 ⟨h1.trans k1,h2.trans k2,h3.trans k3⟩,Oj h.2 k.2⟩
structure VSame (a b:Vd):Prop where
 kind:a.kind=b.kind
 proof:H3 a.proof b.proof=AC
 w0:a.w0=b.w0
 w1:a.w1=b.w1
 w2:a.w2=b.w2
 w3:a.w3=b.w3
 twin:a.twin=b.twin
 spent:a.spent=b.spent
theorem zfL{a b:Vd}:jT a b=AC↔VSame a b:=by
 unfold jT;simp only[AP,CE];exact⟨λ⟨h1,h2,h3,h4,h5,h6,h7,h8⟩=>⟨h1,h2,h3,h4,h5,h6,h7,h8⟩,λ⟨h1,h2,h3,h4,h5,h6,h7,h8⟩=>⟨h1,h2,h3,h4,h5,h6,h7,h8⟩⟩
theorem VSame.rfl'(a:Vd):VSame a a:=⟨rfl,Oh _,rfl,rfl,rfl,rfl,rfl,rfl⟩
theorem VSame.symm{a b:Vd}(h:VSame a b):VSame b a:=⟨h.kind.symm,Oi h.proof,h.w0.symm,h.w1.symm,h.w2.symm,h.w3.symm,h.twin.symm,h.spent.symm⟩
theorem VSame.trans{a b c:Vd}(h:VSame a b)(k:VSame b c):VSame a c:=⟨h.kind.trans k.kind,Oj h.proof k.proof,h.w0.trans k.w0,h.w1.trans k.w1,h.w2.trans k.w2,h.w3.trans k.w3,h.twin.trans k.twin,h.spent.trans k.spent⟩
theorem ai{v:Vd}(h:v.bare=AC):v.w0=0/\v.w1=0/\v.w2=0/\v.w3=0/\v.twin=0:=by
 unfold Vd.bare at h;simpa using h
open Go
theorem Hd(x y:List UInt8)(r:List (List UInt8)):vaJ (x::y::r) [32]=x++32::vaJ (y::r) [32]:=by
 rw[Lib.join_cons,Lib.join_cons];simp[Lib.joinTail]
theorem Rf:∀(x:List UInt8) (r:List (List UInt8)),(∀w∈x::r,(32:UInt8)∉w)->va3 (vaJ (x::r) [32]) [32]=x::r
 |x,[],h=>by rw[Lib.join_one];exact Rg x 32 (h x (AZ ..))
 |x,y::r,h=>by
  rw[Hd,Re x _ 32 (h x (AZ ..)),Rf y r (λw hw=>h w (A6 _ hw))]
theorem iI:∀{l m:List BA},l.map (·.data.toList)=m.map (·.data.toList)->l=m
 |[],[],_=>rfl
 |[],_::_,h=>by simp at h
 |_::_,[],h=>by simp at h
 |x::l,y::m,h=>by
  simp only[A8,vaB]at h;rw[US h.1,iI h.2]
theorem Id(ws:List BA)(h0:ws≠[])(h:∀w∈ws,(32:UInt8)∉w.data.toList):H1 (GV ws HH)=ws.map IV.str:=by
 unfold H1;congr 1;apply iI;rw[Rc];cases ws with
 |nil=>exact absurd rfl h0
 |cons x r=>
  show va3 (vaJ ((x::r).map (·.data.toList)) [32]) [32]=_;rw[A8];exact Rf _ _ (λw hw=>by
   rcases AY.1 hw with rfl|hw
   .exact h x (AZ ..)
   .obtain⟨y,hy,rfl⟩:=CV.1 hw;exact h y (A6 _ hy))
theorem Pe(u:Nat):∀c∈JF u,c.toNat=46\/(48<=c.toNat/\c.toNat<=57):=by
 intro c hc;rw[jE]at hc;rcases A4.1 hc with h|h
 .exact .inr (XP _ c h)
 .split at h
  .cases h
  .rename_i h0;rcases AY.1 h with rfl|h
   .exact .inl rfl
   .exact .inr ((k9 h0 (by omega:u%256<256)).2.1 c h)
theorem uP(n:Int):∀c∈LM n,45<=c.toNat/\c.toNat<=57:=by
 intro c hc;unfold LM at hc;split at hc
 .rcases AY.1 hc with rfl|h
  .exact⟨by decide,by decide⟩
  .have:=Pe _ c h
   omega
 .have:=Pe _ c hc
  omega
theorem rX(n:Int):∀c∈va7 n,45<=c.toNat/\c.toNat<=57:=by
 intro c hc
 have:=uc n c hc
 omega
theorem Gz(n:Int):va7 n≠[]:=by
 unfold va7;split
 .simp
 .exact k8 _
theorem TN{l:List UInt8}(h:∀c∈l,45<=c.toNat/\c.toNat<=57):(32:UInt8)∉l:=λhc=>by
 have:=(h _ hc).1
 revert this;decide
theorem fZ{x y:BA}(h:x≠y):(x.toList==y.toList)=AD:=by rw[kS];exact AS h
theorem UR(x:BA):(x.toList==x.toList)=AC:=by simp
theorem Jk{w x:BA}(hw:∀c∈w.data.toList,97<=c.toNat)(hx:x.data.toList≠[])(h:∀c∈x.data.toList,45<=c.toNat/\c.toNat<=57):(w.toList==x.toList)=AD:=by
 refine fZ (λe=>?_);subst e;cases hl:w.data.toList with
 |nil=>exact hx hl
 |cons c r=>
  have h1:=hw c (by rw[hl];exact AZ ..);have h2:=h c (by rw[hl];exact AZ ..);omega
def LY:List UInt8->Bool
 |[]=>AC
 |[c]=>!(c==46)
 |a::b::r=>!(a==46&&b==46)&&LY (b::r)
theorem tM:∀{l:List UInt8},(∀c∈l,c≠46)->LY l=AC
 |[],_=>rfl
 |[c],h=>by simp[LY,h c (AZ ..)]
 |a::b::r,h=>by
  have ha:=h a (AZ ..);have e:(a==46)=AD:=BI.2 ha;simp only[LY,e,BP,BG,BE];exact tM (λc hc=>h c (A6 _ hc))
theorem tL:∀{l:List UInt8} {c:UInt8} {r:List UInt8},(∀c∈l,c≠46)->c≠46->LY (c::r)=AC->LY (l++46::c::r)=AC
 |[],c,r,_,hc,hr=>by
  have e:(c==46)=AD:=BI.2 hc;simp only[DK,LY,e,DB,BG,BE,hr]
 |[a],c,r,h,hc,hr=>by
  have e:(a==46)=AD:=BI.2 (h a (AZ ..))
  have:=tL (l:=[]) (λc hc=>by cases hc) hc hr
  simp only[DK]at this;simp only[C0,DK,LY,e,BP,BG,BE];simpa only[LY]using this
 |a::b::l,c,r,h,hc,hr=>by
  have e:(a==46)=AD:=BI.2 (h a (AZ ..))
  have:=tL (l:=b::l) (λc hc=>h c (A6 _ hc)) hc hr
  simp only[C0]at this ⊢;simp only[LY,e,BP,BG,BE];exact this
theorem rQ:∀(w r:List UInt8),LY w=AC->Lib.index (w++46::46::r) [46,46]=w.length
 |[],r,_=>by simp[Lib.index,vbu]
 |[c],r,h=>by
  have e:(c==46)=AD:=by simpa[LY]using h
  have e':((46:UInt8)==c)=AD:=by rw[BI]at e ⊢;exact λh=>e h.symm
  have h0:=rQ [] r rfl;simp only[DK,BL]at h0;rw[List.singleton_append,Lib.index,h0];simp[vbu,e']
 |a::b::l,r,h=>by
  simp only[LY,AP]at h;have ih:=rQ (b::l) r h.2;have e:[(46:UInt8),46].isPrefixOf (a::b::l++46::46::r)=AD:=by
   simp only[C0,vbu,CJ];have h1:=h.1;cases ha:(a==46)with
   |false=>
    have:((46:UInt8)==a)=AD:=by rw[BI]at ha ⊢;exact λh=>ha h.symm
    rw[this,BP]
   |true=>
    rw[ha,BE]at h1;have hb:(b==46)=AD:=by simpa using h1
    have:((46:UInt8)==b)=AD:=by rw[BI]at hb ⊢;exact λh=>hb h.symm
    rw[this,DB]
  have e2:(((b::l).length:Int)== -1)=AD:=by rw[BI];simp only[AV];omega
  rw[C0,Lib.index];rw[C0]at e;rw[e,ih,e2];simp
theorem Jp(u:Nat):LY (JF u)=AC:=by
 have hd:∀c∈CS (u/256),c≠46:=λc hc e=>by
  subst e
  have:=XP _ _ hc
  revert this;decide
 rw[jE];by_cases h:u%256=0
 .rw[B3 h,vad];exact tM hd
 .rw[BO h];obtain⟨_,h2,l,c,h3,_⟩:=k9 h (by omega:u%256<256);have hp:∀c∈KX (u%256),c≠46:=λc hc e=>by
   subst e
   have:=h2 _ hc
   revert this;decide
  cases hl:KX (u%256)with
  |nil=>rw[h3]at hl;simp at hl
  |cons x r=>
   rw[hl]at hp;exact tL hd (hp x (AZ ..)) (tM hp)
theorem zaY(n:Int):LY (LM n)=AC:=by
 unfold LM;split
 .obtain⟨c,r,h,_⟩:=v8 n.natAbs
  have:=Jp n.natAbs
  rw[h]at this ⊢;simp only[LY,AP];exact⟨by rfl,this⟩
 .exact Jp _
theorem dq(w r:List UInt8)(h:LY w=AC):Lib.cut (w++46::46::r) [46,46]=(w,r,AC):=by
 unfold Lib.cut;rw[rQ w r h,B3 AG];simp
theorem Rb(a b:Int):cutL (NQ a b) bT=D8 a/\HP (NQ a b) bT=D8 b:=by
 have e:(NQ a b).data.toList=LM a++46::46::LM b:=by
  unfold NQ;simp only[ByteArray.data_append,vaj];show(LM a++[46,46])++LM b=_;simp
 unfold cutL HP;rw[e]
 have:=dq (LM a) (LM b) (zaY a)
 show(⟨(Lib.cut _ [46,46]).1.toArray⟩:BA)=_/\(⟨(Lib.cut _ [46,46]).2.1.toArray⟩:BA)=_;rw[this];exact⟨rfl,rfl⟩
theorem Qy.eq_of{p q:Qy}(h:p.eq q=AC):p=q:=by
 cases p;cases q;simp only[Qy.eq,AP,CE,CH]at h;simp only[Qy.mk.injEq];exact h
theorem Qy.eq_self(p:Qy):p.eq p=AC:=by
 simp[Qy.eq]
theorem RO{n:Int}(h:EN n):GK (D0 n)=n:=y8 rfl h.1 h.2
theorem jA{n:Int}(h:EN n):GP (D8 n)=n:=(zb8 h).2
theorem a8(n:Int):∀c∈(D8 n).data.toList,45<=c.toNat/\c.toNat<=57:=uP n
theorem PV(n:Int):∀c∈(D0 n).data.toList,45<=c.toNat/\c.toNat<=57:=rX n
theorem zb1(n:Int):(D8 n).data.toList≠[]:=by
 obtain⟨c,r,h,_⟩:=Ls n;rw[h];simp
theorem Qz(a b:Int):∀c∈(NQ a b).data.toList,45<=c.toNat/\c.toNat<=57:=by
 intro c hc;unfold NQ at hc;simp only[ByteArray.data_append,vaj,A4]at hc;rcases hc with(h|h)|h
 .exact uP a c h
 .have h:c∈[(46:UInt8),46]:=h;simp only[AY,CD,C7,or_self]at h;subst h;decide
 .exact uP b c h
theorem zfX(q:Qy)(D:Nat):∀w∈I3 q D,(32:UInt8)∉w.data.toList:=by
 intro w hw;unfold I3 at hw;have key:∀x∈IL q,(32:UInt8)∉x.data.toList:=by
  intro x hx;unfold IL at hx;cases h1:(q.k==1)<;>rw[h1]at hx<;>simp only[BN,BC]at hx
  .cases h2:(q.k==2)<;>rw[h2]at hx<;>simp only[BN,BC,AY,CD,C7]at hx
   .rcases hx with rfl|rfl|rfl|rfl
    .cases q.fl<;>decide
    .exact TN (PV _)
    .decide
    .exact TN (PV _)
   .rcases hx with rfl|rfl
    .decide
    .exact TN (PV _)
  .simp only[AY,CD,C7]at hx;rcases hx with rfl|rfl|rfl|rfl|rfl|rfl
   .decide
   .exact TN (PV _)
   .decide
   .exact TN (a8 _)
   .decide
   .exact TN (a8 _)
 rcases A4.1 hw with h|h
 .rcases A4.1 h with h|h
  .exact key w h
  .rcases AY.1 h with rfl|h
   .decide
   .obtain⟨s,_,rfl⟩:=CV.1 h;exact TN (Qz _ _)
 .simp only[AY,CD,C7]at h;rcases h with rfl|rfl
  .decide
  .exact TN (PV _)
theorem Gj(w:BA):∀(l:LI) (r:LI) (k:Int),(∀x∈l,(w.toList==x.toStr.toList)=AD)->GC (l++.str w::r) w k=k+(l.length:Int)
 |[],r,k,_=>by
  simp only[DK,GC,IV.toStr,UR,BN,BL];omega
 |x::l,r,k,h=>by
  rw[C0,GC,h x (AZ ..),BC,Gj w l r (k+1) (λy hy=>h y (A6 _ hy))];simp only[AV];omega
theorem th(q:Qy):∀x∈(IL q).map IV.str,(OE.toList==x.toStr.toList)=AD:=by
 intro y hy;obtain⟨x,hx,rfl⟩:=CV.1 hy;simp only[IV.toStr];have li:∀c∈OE.data.toList,97<=c.toNat:=by decide
 have ni:=λn=>Jk li (Gz n) (PV n)
 have np:=λn=>Jk li (zb1 n) (a8 n)
 have dd:∀{a b:BA},a.data.toList≠b.data.toList->(a.toList==b.toList)=AD:=λh=>fZ (λe=>h (by rw[e]))
 unfold IL at hx;cases h1:(q.k==1)<;>rw[h1]at hx<;>simp only[BN,BC]at hx
 .cases h2:(q.k==2)<;>rw[h2]at hx<;>simp only[BN,BC,AY,CD,C7]at hx
  .rcases hx with rfl|rfl|rfl|rfl
   .cases q.fl<;>exact dd (by decide)
   .exact ni _
   .exact dd (by decide)
   .exact ni _
  .rcases hx with rfl|rfl
   .exact dd (by decide)
   .exact ni _
 .simp only[AY,CD,C7]at hx;rcases hx with rfl|rfl|rfl|rfl|rfl|rfl
  .exact dd (by decide)
  .exact ni _
  .exact dd (by decide)
  .exact np _
  .exact dd (by decide)
  .exact np _
theorem tp(q:Qy)(hc:EN q.c)(hlo:EN q.lo)(hhi:EN q.hi)(hft:EN q.ft)(hk:q.k=1\/q.k=2\/q.k=3)(n1:q.k≠1->q.lo=0/\q.hi=0)(n3:q.k≠3->q.ft=0/\q.fl=AD):
  E4 ((IL q).map IV.str)=⟨q.k,q.c,0,0,0,0,0,0,0,0,0,0,q.lo,q.hi,q.ft,q.fl,0⟩:=by
 have dd:∀{a b:BA},a.data.toList≠b.data.toList->(a.toList==b.toList)=AD:=λh=>fZ (λe=>h (by rw[e]))
 obtain⟨k,c,a0,b0,a1,b1,a2,b2,a3,b3,a4,b4,lo,hi,ft,fl,bu⟩:=q;simp only at hc hlo hhi hft hk n1 n3 ⊢;rcases hk with rfl|rfl|rfl
 .obtain⟨rfl,rfl⟩:=n3 (by decide);show E4 [IV.str NR,IV.str (D0 c),IV.str VX,IV.str (D8 lo),IV.str VY,IV.str (D8 hi)]=_;unfold E4;rw[show EF [IV.str NR,IV.str (D0 c),IV.str VX,IV.str (D8 lo),IV.str VY,IV.str (D8 hi)] 0=NR from rfl,UR,BN,
   show EF [IV.str NR,IV.str (D0 c),IV.str VX,IV.str (D8 lo),IV.str VY,IV.str (D8 hi)] 1=D0 c from rfl,show EF [IV.str NR,IV.str (D0 c),IV.str VX,IV.str (D8 lo),IV.str VY,IV.str (D8 hi)] 3=D8 lo from rfl,
   show EF [IV.str NR,IV.str (D0 c),IV.str VX,IV.str (D8 lo),IV.str VY,IV.str (D8 hi)] 5=D8 hi from rfl,RO hc,jA hlo,jA hhi]
 .obtain⟨rfl,rfl⟩:=n3 (by decide);obtain⟨rfl,rfl⟩:=n1 (by decide);show E4 [IV.str PB,IV.str (D0 c)]=_;unfold E4;rw[show EF [IV.str PB,IV.str (D0 c)] 0=PB from rfl,dd (show PB.data.toList≠NR.data.toList by decide),BC,UR,BN,show EF [IV.str PB,IV.str (D0 c)] 1=D0 c from rfl,RO hc]
 .obtain⟨rfl,rfl⟩:=n1 (by decide);cases fl with
  |true=>
   show E4 [IV.str M4,IV.str (D0 c),IV.str PC,IV.str (D0 ft)]=_;unfold E4;rw[show EF [IV.str M4,IV.str (D0 c),IV.str PC,IV.str (D0 ft)] 0=M4 from rfl,dd (show M4.data.toList≠NR.data.toList by decide),BC,dd (show M4.data.toList≠PB.data.toList by decide),BC,dd (show M4.data.toList≠NS.data.toList by decide),UR,vam,BN,
    show EF [IV.str M4,IV.str (D0 c),IV.str PC,IV.str (D0 ft)] 1=D0 c from rfl,show EF [IV.str M4,IV.str (D0 c),IV.str PC,IV.str (D0 ft)] 3=D0 ft from rfl,RO hc,RO hft]
  |false=>
   show E4 [IV.str NS,IV.str (D0 c),IV.str PC,IV.str (D0 ft)]=_;unfold E4;rw[show EF [IV.str NS,IV.str (D0 c),IV.str PC,IV.str (D0 ft)] 0=NS from rfl,dd (show NS.data.toList≠NR.data.toList by decide),BC,dd (show NS.data.toList≠PB.data.toList by decide),BC,dd (show NS.data.toList≠M4.data.toList by decide),UR,Bool.or_false,BN,
    show EF [IV.str NS,IV.str (D0 c),IV.str PC,IV.str (D0 ft)] 1=D0 c from rfl,show EF [IV.str NS,IV.str (D0 c),IV.str PC,IV.str (D0 ft)] 3=D0 ft from rfl,RO hc,RO hft]
theorem xR(A B:LI)(i:Nat):EF (A++B) (A.length+i)=EF B i:=by
 unfold EF;congr 1;rw[AQ,List.getElem?_append_right AG,Nat.add_sub_cancel_left];rfl
def K7(q:Qy)(D:Nat):LI:=(OE::((q.spans.take D).map λs=>NQ s.1 s.2)++[VW,D0 q.bu]).map IV.str
theorem Vt(q:Qy)(D:Nat):(I3 q D).map IV.str=(IL q).map IV.str++K7 q D:=by
 unfold I3 K7;simp
theorem zct(q:Qy)(hc:EN q.c)(hlo:EN q.lo)(hhi:EN q.hi)(hft:EN q.ft)(hbu:EN q.bu)(hsp:∀s∈q.spans,EN s.1/\EN s.2)(D:Nat)(h1:1<=D)(h4:D<=4)(hk:q.k=1\/q.k=2\/q.k=3)(ht:q=F3 q D):
  iY ((I3 q D).map IV.str) (IL q).length D=q:=by
 rw[Vt];have ht':=ht;have n1:q.k≠1->q.lo=0/\q.hi=0:=λhn=>by
  have e:(q.k==1)=AD:=BI.2 hn;have a:=congrArg Qy.lo ht';have b:=congrArg Qy.hi ht';simp only[F3,e,BC]at a b;exact⟨a,b⟩
 have n3:q.k≠3->q.ft=0/\q.fl=AD:=λhn=>by
  have e:(q.k==3)=AD:=BI.2 hn;have a:=congrArg Qy.ft ht';have b:=congrArg Qy.fl ht';simp only[F3,e,BC]at a b;exact⟨a,b⟩
 have hh:=tp q hc hlo hhi hft hk n1 n3;have hlen:((IL q).map IV.str).length=(IL q).length:=B8 ..
 generalize hA:(IL q).map IV.str=A at hh hlen;have htk:AU (IL q).length (A++K7 q D)=A:=by rw[<-hlen];exact List.take_left
 have spA_of:∀(i:Nat) (a b:Int),EN a->EF (K7 q D) i=NQ a b->SC (A++K7 q D) ((IL q).length+i)=a:=λi a b ha e=>by
  unfold SC;rw[<-hlen,xR,e,(Rb a b).1];exact jA ha
 have spB_of:∀(i:Nat) (a b:Int),EN b->EF (K7 q D) i=NQ a b->SD (A++K7 q D) ((IL q).length+i)=b:=λi a b hb e=>by
  unfold SD;rw[<-hlen,xR,e,(Rb a b).2];exact jA hb
 have hlast:(A++K7 q D).length-1=(IL q).length+((K7 q D).length-1):=by
  rw[A2,hlen]
  have:0<(K7 q D).length:=by unfold K7;simp
  omega
 unfold iY;rw[htk,hh,hlast,<-hlen,xR,hlen];clear htk hh hlast;obtain⟨k,c,a0,b0,a1,b1,a2,b2,a3,b3,a4,b4,lo,hi,ft,fl,bu⟩:=q;have s0:=hsp (a0,b0) (by simp[Qy.spans]);have s1:=hsp (a1,b1) (by simp[Qy.spans]);have s2:=hsp (a2,b2) (by simp[Qy.spans]);have s3:=hsp (a3,b3) (by simp[Qy.spans]);simp only[F3,Qy.mk.injEq,vaP]at ht;obtain⟨t1,t2,t3,t4,t5,t6,t7,t8,t9,t10,_⟩:=ht;have hD:D=1\/D=2\/D=3\/D=4:=by omega
 have n45:a4=0/\b4=0:=by
  rw[AS (show¬(4:Int)<D by omega)]at t9 t10;exact⟨t9,t10⟩
 obtain⟨rfl,rfl⟩:=n45;have hbu:EN bu:=hbu;rcases hD with rfl|rfl|rfl|rfl
 .simp only[show AE ((1:Int)<((1:Nat):Int))=AD from rfl,show AE ((2:Int)<((1:Nat):Int))=AD from rfl,show AE ((3:Int)<((1:Nat):Int))=AD from rfl,BC]at t3 t4 t5 t6 t7 t8;subst t3 t4 t5 t6 t7 t8;rw[spA_of 1 a0 b0 s0.1 rfl,spB_of 1 a0 b0 s0.2 rfl,show EF (K7 ⟨k,c,a0,b0,0,0,0,0,0,0,0,0,lo,hi,ft,fl,bu⟩ 1) ((K7 ⟨k,c,a0,b0,0,0,0,0,0,0,0,0,lo,hi,ft,fl,bu⟩ 1).length-1)=D0 bu from rfl,RO hbu];rfl
 .simp only[show AE ((2:Int)<((2:Nat):Int))=AD from rfl,show AE ((3:Int)<((2:Nat):Int))=AD from rfl,BC]at t5 t6 t7 t8;subst t5 t6 t7 t8;rw[spA_of 1 a0 b0 s0.1 rfl,spB_of 1 a0 b0 s0.2 rfl,spA_of 2 a1 b1 s1.1 rfl,spB_of 2 a1 b1 s1.2 rfl,show EF (K7 ⟨k,c,a0,b0,a1,b1,0,0,0,0,0,0,lo,hi,ft,fl,bu⟩ 2) ((K7 ⟨k,c,a0,b0,a1,b1,0,0,0,0,0,0,lo,hi,ft,fl,bu⟩ 2).length-1)=D0 bu from rfl,RO hbu];rfl
 .simp only[show AE ((3:Int)<((3:Nat):Int))=AD from rfl,BC]at t7 t8;subst t7 t8;rw[spA_of 1 a0 b0 s0.1 rfl,spB_of 1 a0 b0 s0.2 rfl,spA_of 2 a1 b1 s1.1 rfl,spB_of 2 a1 b1 s1.2 rfl,spA_of 3 a2 b2 s2.1 rfl,spB_of 3 a2 b2 s2.2 rfl,show EF (K7 ⟨k,c,a0,b0,a1,b1,a2,b2,0,0,0,0,lo,hi,ft,fl,bu⟩ 3) ((K7 ⟨k,c,a0,b0,a1,b1,a2,b2,0,0,0,0,lo,hi,ft,fl,bu⟩ 3).length-1)=D0 bu from rfl,RO hbu];rfl
 .rw[spA_of 1 a0 b0 s0.1 rfl,spB_of 1 a0 b0 s0.2 rfl,spA_of 2 a1 b1 s1.1 rfl,spB_of 2 a1 b1 s1.2 rfl,spA_of 3 a2 b2 s2.1 rfl,spB_of 3 a2 b2 s2.2 rfl,spA_of 4 a3 b3 s3.1 rfl,spB_of 4 a3 b3 s3.2 rfl,show EF (K7 ⟨k,c,a0,b0,a1,b1,a2,b2,a3,b3,0,0,lo,hi,ft,fl,bu⟩ 4) ((K7 ⟨k,c,a0,b0,a1,b1,a2,b2,a3,b3,0,0,lo,hi,ft,fl,bu⟩ 4).length-1)=D0 bu from rfl,RO hbu];rfl
theorem Km{q:Qy}{d:Int}(h:N8 q d=AC):1<=d/\d<=4/\q=F3 q d/\KR q.c=AC/\KR q.ft=AC/\KR q.bu=AC/\(q.k=1\/q.k=2\/q.k=3):=by
 unfold N8 at h;simp only[AP,CC,B6,vap,CE]at h;obtain⟨⟨h1,h2⟩,h3,h4,h5,h6,h7⟩:=h;exact⟨by omega,by omega,Qy.eq_of h3,h4,h5,h6,h7⟩
theorem zfV(q:Qy)(D:Nat):I3 q D≠[]:=by
 unfold I3;simp
theorem ac{q:Qy}{d:Int}(hc:EN q.c)(hlo:EN q.lo)(hhi:EN q.hi)(hft:EN q.ft)(hbu:EN q.bu)(hsp:∀s∈q.spans,EN s.1/\EN s.2)(h:N8 q d=AC):MH (G0 q d)=AC/\GJ (G0 q d)=q/\NA (G0 q d)=d:=by
 obtain⟨h1,h4,ht,_,_,_,hk⟩:=Km h;obtain⟨D,rfl⟩:∃D:Nat,d=D:=⟨d.toNat,by omega⟩;have hp:G0 q (D:Int)=GV (I3 q D) HH:=by
  unfold G0;rw[h];rfl
 have hline:H1 (G0 q (D:Int))=(I3 q D).map IV.str:=by
  rw[hp];exact Id _ (zfV q D) (zfX q D)
 have hI:N4 (G0 q (D:Int))=((IL q).length:Int):=by
  unfold N4;rw[hline,Vt];show GC ((IL q).map IV.str++IV.str OE::_) OE 0=_;rw[Gj OE _ _ 0 (th q),B8];omega
 have hD:OW (G0 q (D:Int))=(D:Int):=by
  unfold OW;rw[hline,hI,B8]
  have:(I3 q D).length=(IL q).length+1+D+2:=by
   unfold I3;simp only[A2,AV,B8,BJ,BL,Qy.spans];omega
  rw[this];simp only[ic];omega
 have hQ:hZ (G0 q (D:Int))=q:=by
  unfold hZ;rw[hline,hI,hD];exact zct q hc hlo hhi hft hbu hsp D AG AG hk ht
 have hok:MH (G0 q (D:Int))=AC:=by
  unfold MH;rw[hI,hD,hQ,AS (show¬((IL q).length:Int)<0 by omega),AS (show¬(D:Int)<1 by omega),AS (show¬(D:Int)>4 by omega),UR];rfl
 refine⟨hok,?_,?_⟩
 .unfold GJ;rw[hok,hQ];rfl
 .unfold NA;rw[hok,hD];rfl
theorem Lr{q:Qy}{d:Int}(h:N8 q d=AD):G0 q d=YZ:=by
 unfold G0;rw[h];rfl
open Go
theorem X3(c:UInt8)(x y:List UInt8)(r:List (List UInt8)):vaJ (x::y::r) [c]=x++c::vaJ (y::r) [c]:=by
 rw[Lib.join_cons,Lib.join_cons];simp[Lib.joinTail]
theorem nY(c:UInt8):∀(x:List UInt8) (r:List (List UInt8)),(∀w∈x::r,c∉w)->va3 (vaJ (x::r) [c]) [c]=x::r
 |x,[],h=>by rw[Lib.join_one];exact Rg x c (h x (AZ ..))
 |x,y::r,h=>by
  rw[X3,Re x _ c (h x (AZ ..)),nY c y r (λw hw=>h w (A6 _ hw))]
theorem tD(c e:UInt8)(hne:e≠c):∀(l:List (List UInt8)),(∀w∈l,e∉w)->e∉vaJ l [c]
 |[],_=>by rw[Lib.join_nil];simp
 |[x],h=>by rw[Lib.join_one];exact h x (AZ ..)
 |x::y::r,h=>by
  rw[X3];intro hm;rcases A4.1 hm with hm|hm
  .exact h x (AZ ..) hm
  .rcases AY.1 hm with hm|hm
   .exact hne hm
   .exact tD c e hne (y::r) (λw hw=>h w (A6 _ hw)) hm
structure WsOK (ws:List BA):Prop where
 ne:ws≠[]
 sp:∀w∈ws,(32:UInt8)∉w.data.toList
 lf:∀w∈ws,(10:UInt8)∉w.data.toList
def F2(ws:List BA):IV:=.str (GV ws HH)
theorem rY(ws:List BA):(GV ws HH).data.toList=vaJ (ws.map (·.data.toList)) [32]:=rfl
theorem Ib(ws:List BA):(FV ws).data.toList=(GV ws HH).data.toList++[10]:=by
 unfold FV;simp
theorem xD:∀(x:List BA) (r:List (List BA)),(GL (x::r)).data.toList=vaJ ((x::r).map λws=>(GV ws HH).data.toList) [10]++[10]
 |x,[]=>by
  have e:GL [x]=FV x:=by
   show FV x++CQ=_;rw[ByteArray.append_empty]
  rw[e,Ib,A8,CN,Lib.join_one]
 |x,y::r=>by
  have e:(GL (x::y::r)).data.toList=(FV x).data.toList++(GL (y::r)).data.toList:=by
   rw[GL];simp
  rw[e,xD y r,Ib];simp only[A8];rw[X3];simp
theorem Ut{s:BA}{l:List UInt8}(h:s.data.toList=l++[10]):(bR s).data.toList=l:=by
 have hz:s.size=l.length+1:=by rw[TX,h,A2];rfl
 have hs:QS s QB=AC:=by
  unfold QS;have e1:AR QB=1:=rfl;rw[e1,AL (show 1<=s.size by omega),BE,kS];refine AL (US ?_);rw[ByteArray.data_extract,Array.toList_extract,List.extract_eq_take_drop,h,hz];simp
 have e1:AR QB=1:=rfl;unfold bR JA;rw[hs,e1];show(s.extract 0 (s.size-1)).data.toList=l;rw[ByteArray.data_extract,Array.toList_extract,List.extract_eq_take_drop,h,hz];simp
theorem vi(x:List BA)(r:List (List BA))(h:∀ws∈x::r,WsOK ws):VB (GL (x::r))=(x::r).map F2:=by
 unfold VB;have hd:(EP (bR (GL (x::r))) QB)=(x::r).map λws=>GV ws HH:=by
  apply iI;rw[Rc,Ut (xD x r)];show va3 (vaJ ((x::r).map λws=>(GV ws HH).data.toList) [10]) [10]=_;rw[List.map_map,A8,nY]
  .rfl
  .intro w hw;rw[<-A8 (f:=λws=>(GV ws HH).data.toList)]at hw;obtain⟨ws,hws,rfl⟩:=CV.1 hw;rw[rY];refine tD 32 10 (by decide) _ λv hv=>?_
   obtain⟨u,hu,rfl⟩:=CV.1 hv;exact(h ws hws).lf u hu
 rw[hd,List.map_map];rfl
theorem mZ{ws:List BA}(h:WsOK ws)(r:LI):FG (F2 ws::r)=ws.map IV.str:=Id ws h.ne h.sp
theorem tQ{l:List UInt8}(h:∀c∈l,45<=c.toNat/\c.toNat<=57):(32:UInt8)∉l/\(10:UInt8)∉l:=by
 refine⟨TN h,λhc=>?_⟩
 have:=(h _ hc).1
 revert this;decide
theorem XN{n most:Int}(h0:0<=n)(h1:n<=most)(h2:most<=1000):FS (D0 n) most=n:=by
 have hv:GK (D0 n)=n:=y8 rfl AG AG;have hn:OM (D0 n)=AC:=by
  unfold OM
  have:(D0 n).data.toList=va7 n:=rfl
  rw[this,y9 n AG AG]
 unfold FS;rw[hn,hv,AS (show¬n<0 by omega),AS (show¬n>most by omega)];rfl
theorem VP{n:Int}(h: -2147483648<=n/\n<=2147483647):GP (D8 n)=n:=jA (by unfold EN;omega)
structure NdIn (x:Nd):Prop where
 v: -2147483648<=x.v/\x.v<=2147483647
 f:0<=x.f/\x.f<4
 a: -2147483648<=x.a/\x.a<=2147483647
 l:0<=x.l/\x.l<31
 r:0<=x.r/\x.r<31
 lf:x.lf=AC->x.f=0/\x.a=0/\x.l=0/\x.r=0
 fk:x.lf=AD->x.v=0
theorem rE{n:Int}(h:EV n=AC): -2147483648<=n/\n<=2147483647:=by
 unfold EV at h
 rwa [AP,AW,AW]at h
theorem zcH{x:Nd}(h:IQ x=AC):NdIn x:=by
 obtain⟨lf,v,f,a,l,r⟩:=x;unfold IQ at h;cases lf with
 |true=>
  simp only[BN,AP,Nd.eq,CE]at h;obtain⟨⟨_,_,h1,h2,h3,h4,_⟩,hv⟩:=h;subst h1 h2 h3 h4;have z4:(0:Int)<=0/\(0:Int)<4:=by decide
  have z31:(0:Int)<=0/\(0:Int)<31:=by decide
  have zf:(-2147483648:Int)<=0/\(0:Int)<=2147483647:=by decide
  exact⟨rE hv,z4,zf,z31,z31,λ_=>⟨rfl,rfl,rfl,rfl⟩,λh=>Bool.noConfusion h⟩
 |false=>
  simp only[BC,AP,CE,AW,NY]at h;obtain⟨hv,hf0,hf1,ha,⟨hl0,hl1⟩,hr0,hr1⟩:=h;subst hv;have zf:(-2147483648:Int)<=0/\(0:Int)<=2147483647:=by decide
  have l0:(0:Int)<=l:=by omega
  have r0:(0:Int)<=r:=by omega
  exact⟨zf,⟨hf0,hf1⟩,rE ha,⟨l0,hl1⟩,⟨r0,hr1⟩,λh=>Bool.noConfusion h,λ_=>rfl⟩
theorem V0(w:BA)(h:(w.data.toList.all λc=>!(c==32)&&!(c==10))=AC):(32:UInt8)∉w.data.toList/\(10:UInt8)∉w.data.toList:=by
 rw[CZ]at h;refine⟨λhc=>?_,λhc=>?_⟩
 .have:=h _ hc
  revert this;decide
 .have:=h _ hc
  revert this;decide
theorem j4{ws:List BA}(hne:ws≠[])(h:∀w∈ws,(32:UInt8)∉w.data.toList/\(10:UInt8)∉w.data.toList):WsOK ws:=⟨hne,λw hw=>(h w hw).1,λw hw=>(h w hw).2⟩
theorem X2(n:Int):(32:UInt8)∉(D0 n).data.toList/\(10:UInt8)∉(D0 n).data.toList:=tQ (PV n)
theorem uR(n:Int):(32:UInt8)∉(D8 n).data.toList/\(10:UInt8)∉(D8 n).data.toList:=tQ (a8 n)
theorem Js(x:Nd):WsOK (MY x):=by
 unfold MY;cases x.lf with
 |true=>
  refine j4 (by simp) λw hw=>?_
  simp only[BN,AY,CD,C7]at hw;rcases hw with rfl|rfl
  .exact V0 _ (by decide)
  .exact uR _
 |false=>
  refine j4 (by simp) λw hw=>?_
  simp only[BC,AY,CD,C7]at hw;rcases hw with rfl|rfl|rfl|rfl|rfl|rfl|rfl|rfl
  .exact V0 _ (by decide)
  .exact X2 _
  .exact V0 _ (by decide)
  .exact uR _
  .exact V0 _ (by decide)
  .exact X2 _
  .exact V0 _ (by decide)
  .exact X2 _
theorem zcw{x:Nd}(h:NdIn x):N9 ((MY x).map IV.str)=x:=by
 obtain⟨lf,v,f,a,l,r⟩:=x;obtain⟨hv,hf,ha,hl,hr,h1,h2⟩:=h;simp only at hv hf ha hl hr h1 h2;cases lf with
 |true=>
  obtain⟨rfl,rfl,rfl,rfl⟩:=h1 rfl;have e0:N9 ((MY ⟨AC,v,0,0,0,0⟩).map IV.str)=⟨AC,GP (D8 v),0,0,0,0⟩:=by
   have:(BY (EF ((MY ⟨AC,v,0,0,0,0⟩).map IV.str) 0)==BY T4)=AC:=UR _
   unfold N9;rw[this];rfl
  rw[e0,VP hv]
 |false=>
  have h2:=h2 rfl;subst h2;have e0:N9 ((MY ⟨AD,0,f,a,l,r⟩).map IV.str)=⟨AD,0,FS (D0 f) 4,GP (D8 a),FS (D0 l) 31,FS (D0 r) 31⟩:=by
   have:(BY (EF ((MY ⟨AD,0,f,a,l,r⟩).map IV.str) 0)==BY T4)=AD:=fZ (x:=oO) (y:=T4) (by decide)
   unfold N9;rw[this];rfl
  rw[e0,XN hf.1 AG AG,VP ha,XN hl.1 AG AG,XN hr.1 AG AG]
def Vn(w:IV):Prop:=∃n,w=.int n
def Vo(t:IV):Prop:=∃k l,t=.agg [.int k,.list l]/\∀w∈l,Vn w
def jY(m:Md):Prop:=∀t∈m.ts,Vo t
theorem Jx{dim n:Int}:∀{l:LI} {i:Nat},IY dim n i l=AC->∀w∈l,FJ w.toInt=AC
 |[],_,_,w,hw=>by cases hw
 |x::l,i,h,w,hw=>by
  unfold IY at h;rw[AP,AP]at h;rcases AY.1 hw with rfl|hw
  .exact h.1.1
  .exact Jx h.2 w hw
theorem zfy{d c:Int}{t:IV}(h:HN d c t=AC):0<=(t.cell 0).toInt/\(t.cell 0).toInt<c/\1<=(t.cell 1).toList.length/\(t.cell 1).toList.length<=31/\∀w∈(t.cell 1).toList,FJ w.toInt=AC:=by
 unfold HN F5 at h;simp only[AP,CC,B6]at h;obtain⟨h1,h2,⟨h3,h4⟩,h5,_⟩:=h;exact⟨by omega,by omega,AX h3,AX h4,Jx h5⟩
theorem zcx{l:LI}(hw:∀w∈l,Vn w)(hn:∀w∈l,FJ w.toInt=AC)(R:LI):NN ((IM l).map F2++R) l.length=l:=by
 apply List.ext_getElem?;intro i;unfold NN;by_cases hi:i<l.length
 .rw[CK,List.getElem?_range hi];have hdr:A3 i ((IM l).map F2++R)=F2 (MY (DV l[i].toInt))::(((IM l).map F2).drop (i+1)++R):=by
   have hl:((IM l).map F2).length=l.length:=by simp[IM]
   rw[List.drop_append_of_le_length AG,BD AG];simp[IM]
  have hb:=hn l[i] (DC hi);obtain⟨p1,p2⟩:=iM hb;obtain⟨n,hn'⟩:=hw l[i] (DC hi);have e:(IV.int (HG (N9 (FG (A3 i ((IM l).map F2++R))))))=l[i]:=by
   rw[hdr,mZ (Js _),zcw (zcH p2),p1,hn'];rfl
  show AA (IV.int (HG (N9 (FG (A3 i ((IM l).map F2++R))))))=_;rw[e,BF hi]
 .rw[B4 (by simp;omega),B4 AG]
theorem Un(t:IV):∀ws∈T2 t,WsOK ws:=by
 intro ws hws;unfold T2 at hws;rcases AY.1 hws with rfl|hws
 .refine j4 (by simp) λw hw=>?_
  simp only[AY,CD,C7]at hw;rcases hw with rfl|rfl|rfl
  .exact V0 _ (by decide)
  .exact X2 _
  .exact X2 _
 .unfold IM at hws;obtain⟨w,_,rfl⟩:=CV.1 hws;exact Js _
theorem Mw{d c:Int}(hc:c<=3):∀(n:Nat) (ts:LI),ts.length<=n->(∀t∈ts,Vo t)->ts.all (HN d c)=AC->L6 n ((G9 ts).map F2)=ts
 |0,[],_,_,_=>rfl
 |0,_::_,h,_,_=>by simp at h
 |n+1,[],_,_,_=>rfl
 |n+1,t::r,h,hw,ht=>by
  rw[van,AP]at ht;obtain⟨k,l,rfl,hl⟩:=hw t (AZ ..);obtain⟨h1,h2,h3,h4,h5⟩:=zfy ht.1;have h1:0<=k:=h1;have h2:k<c:=h2;have h3:1<=l.length:=h3;have h4:l.length<=31:=h4;have h5:∀w∈l,FJ w.toInt=AC:=h5;have hws:=Un (.agg [.int k,.list l]) [PD,D0 k,D0 (ic l.length)] (AZ ..);have e:(G9 (.agg [.int k,.list l]::r)).map F2=F2 [PD,D0 k,D0 (ic l.length)]::((IM l).map F2++(G9 r).map F2):=by
   show(([PD,D0 k,D0 (ic l.length)]::IM l)++G9 r).map F2=_;rw[va5,A8];rfl
  have hnx:=mZ hws ((IM l).map F2++(G9 r).map F2);have hk:NK (F2 [PD,D0 k,D0 (ic l.length)]::((IM l).map F2++(G9 r).map F2))=l.length:=by
   unfold NK;rw[hnx];show(FS (D0 (ic l.length)) 31).toNat=_;rw[XN (by simp only[ic];omega) (by simp only[ic];omega) AG];simp only[ic];omega
  have hr:bA (F2 [PD,D0 k,D0 (ic l.length)]::((IM l).map F2++(G9 r).map F2))=.agg [.int k,.list l]:=by
   unfold bA;rw[hk,hnx];show IV.agg [IV.int (FS (D0 k) 3),IV.list (NN ((IM l).map F2++(G9 r).map F2) l.length)]=_;rw[XN h1 AG AG,zcx hl h5]
  have hdl:A3 l.length ((IM l).map F2++(G9 r).map F2)=(G9 r).map F2:=by
   have:l.length=((IM l).map F2).length:=by simp[IM]
   rw[this,List.drop_left]
  rw[e,L6,hr,hk,hdl,Mw hc n r (by simp at h;omega) (λt ht=>hw t (A6 _ ht)) ht.2]
theorem vu{m:Md}(h:ET m=AC):(1<=m.d/\m.d<=4)/\(1<=m.c/\m.c<=3)/\m.ts.length<=8/\(GU m.c 0 m.b0=AC/\GU m.c 1 m.b1=AC/\GU m.c 2 m.b2=AC)/\m.ts.all (HN m.d m.c)=AC:=by
 unfold ET at h;simp only[AP,CC,B6]at h;obtain⟨⟨h1,h2,h3,h4,h5⟩,⟨h6,h7,h8⟩,h9⟩:=h;exact⟨⟨by omega,by omega⟩,⟨by omega,by omega⟩,AX h5,⟨h6,h7,h8⟩,h9⟩
theorem pE{c j b:Int}(h:GU c j b=AC):(-2147483648<=b/\b<=2147483647)/\(c<=j->b=0):=by
 unfold GU at h;rw[AP]at h;refine⟨rE h.1,λhj=>?_⟩
 have:=h.2
 rw[AL (show j>=c from hj)]at this;simpa using this
theorem rJ(m:Md):∀ws∈TG m,WsOK ws:=by
 intro ws hws;unfold TG at hws;simp only[AY,CD,C7]at hws;rcases hws with rfl|rfl
 .refine j4 (by simp) λw hw=>?_
  simp only[AY,CD,C7]at hw;rcases hw with rfl|rfl|rfl
  .exact V0 _ (by decide)
  .exact X2 _
  .exact X2 _
 .refine j4 (by simp) λw hw=>?_
  rcases AY.1 hw with rfl|hw
  .exact V0 _ (by decide)
  .obtain⟨b,_,rfl⟩:=CV.1 hw;exact uR _
theorem Up:∀(ts:LI),∀ws∈G9 ts,WsOK ws
 |[],ws,h=>by cases h
 |t::r,ws,h=>by
  rw[G9]at h;rcases A4.1 h with h|h
  .exact Un t ws h
  .exact Up r ws h
theorem zcv{m:Md}(h:ET m=AC)(hw:jY m):u9 ((MT m).map F2)=m:=by
 obtain⟨hd,hc,hl,⟨g0,g1,g2⟩,ht⟩:=vu h;obtain⟨d,c,b0,b1,b2,ts⟩:=m;simp only at hd hc hl g0 g1 g2 ht;obtain⟨i0,_⟩:=pE g0;obtain⟨i1,z1⟩:=pE g1;obtain⟨i2,z2⟩:=pE g2;have hh1:=rJ ⟨d,c,b0,b1,b2,ts⟩ [OD,D0 d,D0 c] (AZ ..);have hh2:=rJ ⟨d,c,b0,b1,b2,ts⟩ (JS::([b0,b1,b2].take c.toNat).map D8) (A6 _ (AZ ..));have e:(MT ⟨d,c,b0,b1,b2,ts⟩).map F2=F2 [OD,D0 d,D0 c]::F2 (JS::([b0,b1,b2].take c.toNat).map D8)::(G9 ts).map F2:=rfl;have hn1:=mZ hh1 (F2 (JS::([b0,b1,b2].take c.toNat).map D8)::(G9 ts).map F2);have hn2:=mZ hh2 ((G9 ts).map F2);have hC:a9 ((MT ⟨d,c,b0,b1,b2,ts⟩).map F2)=c:=by
  unfold a9;rw[e,hn1];show FS (D0 c) 3=c;exact XN AG AG AG
 have hT:L6 9 (A3 2 ((MT ⟨d,c,b0,b1,b2,ts⟩).map F2))=ts:=by
  rw[e];show L6 9 ((G9 ts).map F2)=ts;exact Mw AG 9 ts AG hw ht
 have hD:FS (EF (FG ((MT ⟨d,c,b0,b1,b2,ts⟩).map F2)) 1) 4=d:=by
  rw[e,hn1];show FS (D0 d) 4=d;exact XN AG AG AG
 have hB:∀j,L5 ((MT ⟨d,c,b0,b1,b2,ts⟩).map F2) c j=cond (AE ((j:Int)<c)) (GP (EF ((JS::([b0,b1,b2].take c.toNat).map D8).map IV.str) (1+j))) 0:=λj=>by
  unfold L5;rw[e];show cond _ (GP (EF (FG (F2 (JS::([b0,b1,b2].take c.toNat).map D8)::(G9 ts).map F2)) (1+j))) 0=_;rw[hn2]
 unfold u9;rw[hC,hT,hD,hB,hB,hB];obtain⟨C,rfl⟩:∃C:Nat,c=(C:Int):=⟨c.toNat,by omega⟩;have w0:∀l,EF ((JS::l).map IV.str) (1+0)=EF (l.map IV.str) 0:=λl=>rfl
 have w1:∀l,EF ((JS::l).map IV.str) (1+1)=EF (l.map IV.str) 1:=λl=>rfl
 have w2:∀l,EF ((JS::l).map IV.str) (1+2)=EF (l.map IV.str) 2:=λl=>rfl
 have v0:∀x l,EF ((x::l).map IV.str) 0=x:=λx l=>rfl
 have v1:∀x y l,EF ((x::y::l).map IV.str) 1=y:=λx y l=>rfl
 have v2:∀x y z l,EF ((x::y::z::l).map IV.str) 2=z:=λx y z l=>rfl
 rw[w0,w1,w2,BH];rcases(show C=1\/C=2\/C=3 by omega)with rfl|rfl|rfl
 .
  have y1:=z1 AG;have y2:=z2 AG;have t:([b0,b1,b2].take 1).map D8=[D8 b0]:=rfl;rw[t,v0,VP i0,AL (show((0:Nat):Int)<((1:Nat):Int) by omega),AS (show¬((1:Nat):Int)<((1:Nat):Int) by omega),AS (show¬((2:Nat):Int)<((1:Nat):Int) by omega),y1,y2];rfl
 .
  have y2:=z2 AG;have t:([b0,b1,b2].take 2).map D8=[D8 b0,D8 b1]:=rfl;rw[t,v0,v1,VP i0,VP i1,AL (show((0:Nat):Int)<((2:Nat):Int) by omega),AL (show((1:Nat):Int)<((2:Nat):Int) by omega),AS (show¬((2:Nat):Int)<((2:Nat):Int) by omega),y2];rfl
 .
  have t:([b0,b1,b2].take 3).map D8=[D8 b0,D8 b1,D8 b2]:=rfl;rw[t,v0,v1,v2,VP i0,VP i1,VP i2,AL (show((0:Nat):Int)<((3:Nat):Int) by omega),AL (show((1:Nat):Int)<((3:Nat):Int) by omega),AL (show((2:Nat):Int)<((3:Nat):Int) by omega)];rfl
theorem Ue{m:Md}(h:ET m=AC)(hw:jY m):Q3 (H2 m)=AC/\JG (H2 m)=m:=by
 have hp:H2 m=GL (MT m):=by unfold H2;rw[h];rfl
 have hc:Z3 (H2 m)=m:=by
  unfold Z3
  have:VB (H2 m)=(MT m).map F2:=by
   rw[hp];exact vi _ _ (λws hws=>by
    have hws:ws∈TG m++G9 m.ts:=hws;rcases A4.1 hws with hws|hws
    .exact rJ m ws hws
    .exact Up m.ts ws hws)
  rw[this,zcv h hw]
 have hk:Q3 (H2 m)=AC:=by
  unfold Q3;rw[hc,UR,CJ]
  have:((H2 m).toList==YZ.toList)=AD:=fZ (λe=>by
   have hd:=xD [OD,D0 m.d,D0 m.c] ((JS::([m.b0,m.b1,m.b2].take m.c.toNat).map D8)::G9 m.ts);have e':GL (MT m)=YZ:=by rw[<-hp,e]
   have:GL (MT m)=GL ([OD,D0 m.d,D0 m.c]::((JS::([m.b0,m.b1,m.b2].take m.c.toNat).map D8)::G9 m.ts)):=rfl
   rw[<-this,e']at hd
   have:=congrArg AN hd
   rw[A2]at this;simp at this)
  rw[this];rfl
 refine⟨hk,?_⟩;unfold JG;rw[hk,hc];rfl
theorem vt(d c:Int)(bias ts:LI):jY (mW d c bias ts):=by
 intro t ht;have ht:t∈SF d c ts:=ht;unfold SF at ht;obtain⟨u,_,rfl⟩:=CV.1 ht;refine⟨_,_,rfl,λw hw=>?_⟩;unfold NI at hw;obtain⟨x,_,rfl⟩:=CV.1 hw;exact⟨_,rfl⟩
open Go
def PW(L:List (List UInt8)):List UInt8:=L.flatMap λl=>l++[10]
theorem sV(l:List UInt8)(L:List (List UInt8)):PW (l::L)=l++10::PW L:=by simp[PW]
theorem ux(L M:List (List UInt8)):PW (L++M)=PW L++PW M:=by simp[PW]
theorem zfE{s:BA}{l:List UInt8}(h:s.data.toList=l++[10]):(JA s IC).data.toList=l:=Ut h
def QA:Nat->List Vd->BA
 |_,[]=>GM
 |i,v::r=>KD i++(HU v++QA (i+1) r)
theorem tl(i:Nat):0<(KD i).size:=by
 unfold KD;rw[A7];show 0<_+1;omega
theorem Vk:∀(i:Nat) (vs:List Vd),vs.length<=(QA i vs).size
 |_,[]=>A5 _
 |i,v::r=>by
  have:=Vk (i+1) r
  have hp:=tl i;unfold QA;rw[A7,A7,AV];omega
open Go
theorem Lz:∀{l:LI} {left out:LI} {most:Int} {st:Int×Int} {lo:LI×LI},(∀y∈left,(EC y).good)->(∀y∈out,(EC y).good)->LH l (ic left.length,most)=AA st->JX l (left,out)=AA lo->∀x∈l,K6 x=AC/\VT x
 |[],_,_,_,_,_,_,_,_,_=>λx hx=>by cases hx
 |x::l,left,out,most,st,lo,hl,ho,hd,hp=>by
  rw[LH]at hd;rw[JX]at hp;cases h1:OT (ic left.length,most) x with
  |none=>rw[h1]at hd;cases hd
  |some s1=>
   cases h2:O3 (left,out) x with
   |none=>rw[h2]at hp;cases hp
   |some l1=>
    rw[h1]at hd;rw[h2]at hp;obtain⟨g1,g2,g3⟩:=Ma hl ho h1 h2;have hx:K6 x=AC/\VT x:=by
     obtain⟨hne,hr,hd'⟩:=qJ h1;refine⟨hr,?_⟩;have hlen:0<left.length:=by simp only[ic]at hne;omega
     have ht:(EA left).good:=hl _ (VU hlen).1;unfold O3 at h2;rcases hd' with⟨hs,_⟩|⟨hs,_⟩
     .unfold K6 at hr;rw[hs,DS]at hr;simp only[AP,CE]at hr;unfold VT IW;omega
     .have hpl:=vM hr hs;rw[hs]at h2;cases hc:(AE (GY x<((EA left).g (FW x).toNat).lo)||decide (GY x>=((EA left).g (FW x).toNat).hi))with
      |true=>simp only[hc,BC,BN]at h2;cases h2
      |false=>
       simp only[vaa,B6]at hc
       have:=ht (FW x).toNat AG
       unfold VT IW;omega
    obtain⟨a,b⟩:=l1;obtain⟨c,d⟩:=s1;obtain rfl:c=ic a.length:=g3;have ih:=Lz g1 g2 hd hp;intro y hy;rcases AY.1 hy with rfl|hy
    .exact hx
    .exact ih y hy
theorem zcK{x:IV}(h:K6 x=AC):bN x=AC:=by
 unfold K6 at h;unfold bN;cases hs:I0 x with
 |true=>
  rw[hs,DS]at h;simp only[AP,CE]at h;simp[h.1,h.2]
 |false=>
  rw[hs,DT]at h;simpa using h
theorem aj{m:Md}{q:Qy}{s:Sr}(h:s.v.kind=2\/s.v.bare=AC):(FF m q s).v.kind=2\/(FF m q s).v.bare=AC:=by
 unfold FF;cases GB m q (EA s.left)with
 |true=>
  rw[DS];cases(ic (s.left.length-1)==0)with
  |true=>exact .inr rfl
  |false=>exact h
 |false=>
  rw[DT];cases HK m q (EA s.left).low (EA s.left).s4.hi with
  |true=>exact .inl rfl
  |false=>
   rw[DT];cases(EQ m q (EA s.left)).isSome with
   |true=>exact h
   |false=>exact .inr rfl
theorem zD{m:Md}{q:Qy}:∀(d:Nat) (s:Sr),s.v.kind=2\/s.v.bare=AC->(I9 m q d s).v.kind=2\/(I9 m q d s).v.bare=AC
 |0,_,h=>h
 |d+1,s,h=>by
  rw[I9];cases H8 q s with
  |true=>exact h
  |false=>exact zD d _ (aj h)
theorem zcY(m:Md)(q:Qy):(FP m q).kind=2\/(FP m q).bare=AC:=by
 have hn:(O2 m q).v.kind=2\/(O2 m q).v.bare=AC:=by
  unfold O2;cases E8 m q<;>exact .inr rfl
 have h:=zD (m:=m) (q:=q) (q.bu.toNat+1) _ hn;unfold FP;generalize I9 m q (q.bu.toNat+1) (O2 m q)=s at h;rcases h with h|h
 .exact .inl (by simp[GH,h])
 .exact .inr h
theorem tf{b:Bx}(hb:b.good){p:Pt}{t:Int}(h:b.has p t=AC):IW p.p0/\IW p.p1/\IW p.p2/\IW p.p3/\IW t:=by
 unfold Bx.has Sp.has at h;simp only[AP,AW]at h;have h0: -2147483648<=b.s0.lo/\b.s0.lo<=b.s0.hi/\b.s0.hi<=2147483647:=hb 0 AG;have h1: -2147483648<=b.s1.lo/\b.s1.lo<=b.s1.hi/\b.s1.hi<=2147483647:=hb 1 AG;have h2: -2147483648<=b.s2.lo/\b.s2.lo<=b.s2.hi/\b.s2.hi<=2147483647:=hb 2 AG;have h3: -2147483648<=b.s3.lo/\b.s3.lo<=b.s3.hi/\b.s3.hi<=2147483647:=hb 3 AG;have h4: -2147483648<=b.s4.lo/\b.s4.lo<=b.s4.hi/\b.s4.hi<=2147483647:=hb 4 AG;unfold IW;omega
open Go
theorem Oa{m:Md}{q:Qy}(hr:E8 m q=AC):(FP m q).right=AC/\(FP m q).rng/\((FP m q).kind=1\/(FP m q).kind=2\/(FP m q).kind=3)/\(FP m q).spent<=q.bu/\
  ((FP m q).kind=3->(FP m q).spent=q.bu)/\((FP m q).kind≠3->1<=(FP m q).spent):=by
 have h3:=(TU hr).2.2.1;have hb:=zcY m q;have hg:=wW hr;have hnew:O2 m q=⟨[(GG q).I],[],Vd.none,0⟩:=by unfold O2;rw[hr,DS]
 obtain⟨hi,ho⟩:=vL hr (q.bu.toNat+1) _ (Nk hr) (by show q.bu<0+_;omega);unfold FP at hb ⊢;rw[hnew]at hb ⊢;generalize I9 m q (q.bu.toNat+1) _=s at hi ho hb;have hsp:=hi.sp;have r0:AE (0<=(GH s).spent)=AC:=AL hsp.1;have r1:AE ((GH s).spent<=65536)=AC:=AL (by show s.spent<=65536;omega);have hspI:IW (GH s).spent:=by show IW s.spent;unfold IW;omega
 have bare_rng:(GH s).bare=AC->(∀x∈(GH s).proof,VT x)->(GH s).rng:=λhbare hst=>by
  obtain⟨z0,z1,z2,z3,z4⟩:=ai hbare;exact{w0:=by rw[z0];exact Q8,w1:=by rw[z1];exact Q8,w2:=by rw[z2];exact Q8,w3:=by rw[z3];exact Q8,twin:=by rw[z4];exact Q8,spent:=hspI,proof:=hst}
 rcases hi.kinds with hk|hk|hk
 .have ek:(GH s).kind=3:=by simp[GH,hk]
  have hnil:(GH s).proof=[]:=(hi.opn hk).2.2.2.1;have hbare:(GH s).bare=AC:=by
   rcases hb with h|h
   .omega
   .exact h
  have heq:s.spent=q.bu:=by
   unfold H8 at ho;rw[hk]at ho
   have:s.spent>=q.bu:=by simpa using ho
   omega
  refine⟨?_,bare_rng hbare (λx hx=>by rw[hnil]at hx;cases hx),.inr (.inr ek),hsp.2,λ_=>heq,λh=>absurd ek h⟩;unfold Vd.right;rw[r0,r1,hnil,hbare,show((GH s).kind==3)=AC by rw[ek];rfl];simp
 .have ek:(GH s).kind=1:=by simp[GH,hk]
  have hbare:(GH s).bare=AC:=by
   rcases hb with h|h
   .omega
   .exact h
  obtain⟨hrp,hl,hlen,hvp⟩:=hi.holds hk;have epr:(GH s).proof=s.proof:=hvp;obtain⟨outs,hps,_⟩:=hrp.ps;obtain⟨most,hdp,_,_⟩:=hrp.dp;have hst:∀x∈(GH s).proof,K6 x=AC/\VT x:=by
   rw[epr];refine Lz (left:=[(GG q).I]) (out:=[]) (most:=1) (λy hy=>?_) (λy hy=>by cases hy) hdp hps;obtain rfl:=B7.1 hy;rw[JI];exact hg
  have hl1:1<=s.proof.length:=by
   cases hp:s.proof with
   |nil=>
    rw[hp,hl]at hdp
    have:=congrArg Prod.fst (CI hdp)
    exact absurd (show(1:Int)=0 from this) (by decide)
   |cons x r=>simp
  have hsB:TZ (GH s).proof=AC:=by
   unfold TZ;rw[epr,AL hl1,AL (show s.proof.length<=65536 by simp only[ic]at hlen;omega),BE,BE,CZ];exact λx hx=>zcK (hst x (by rw[epr];exact hx)).1
  refine⟨?_,bare_rng hbare (λx hx=>(hst x hx).2),.inl ek,hsp.2,λh=>by omega,λ_=>by show 1<=s.spent;simp only[ic]at hlen;omega⟩;unfold Vd.right;rw[r0,r1,hbare,hsB,show((GH s).kind==1)=AC by rw[ek];rfl];rfl
 .have ek:(GH s).kind=2:=by simp[GH,hk]
  obtain⟨hvp,hs1,hh,_⟩:=hi.fails hk;have hnil:(GH s).proof=[]:=hvp;have hin:=tf hg hh;refine⟨?_,{w0:=hin.1,w1:=hin.2.1,w2:=hin.2.2.1,w3:=hin.2.2.2.1,twin:=hin.2.2.2.2,spent:=hspI,proof:=λx hx=>by rw[hnil]at hx;cases hx},.inr (.inl ek),hsp.2,λh=>by omega,λ_=>hs1⟩;unfold Vd.right;rw[r0,r1,hnil,show((GH s).kind==2)=AC by rw[ek];rfl];simp
theorem Vu:V1.right=AC/\V1.rng:=⟨by decide,{w0:=Q8,w1:=Q8,w2:=Q8,w3:=Q8,twin:=Q8,spent:=Q8,proof:=λx hx=>by cases hx}⟩
theorem Zl{m:Md}{q:Qy}(hr:E8 m q=AC):(ZO m q).right=AC/\(ZO m q).rng:=by
 unfold ZO;cases((FP m q).kind==3||P2 m q (FP m q))with
 |true=>exact⟨(Oa hr).1,(Oa hr).2.1⟩
 |false=>exact Vu
theorem yU{m:Md}{l:BA}(h:NV m l=AC):E8 m (GJ l)=AC:=by
 unfold NV at h;simp only[AP]at h;exact h.2.2
theorem o4(m:Md)(l:BA):(HE m l).right=AC/\(HE m l).rng:=by
 unfold HE;cases h:NV m l with
 |true=>exact Zl (yU h)
 |false=>exact Vu
theorem vF(m:Md):∀(ls:LI) (s:BA) (i:Nat),VL m s i ls=s++QA i (ls.map λx=>HE m x.toStr)
 |[],s,i=>by
  show s=s++GM;exact(ByteArray.append_empty).symm
 |x::l,s,i=>by
  rw[VL,vF m l,A8,QA,DM,DM]
def UP(m:Md)(ls:LI):List Vd:=ls.map λx=>HE m x.toStr
theorem vS{a:BA}(h:Q3 a=AC)(b:BA):M1 a b=QA 0 (UP (JG a) (HR b)):=by
 unfold M1 UP;rw[h,DS,vF];exact ByteArray.empty_append
theorem Zn(m:Md)(ls:LI):∀v∈UP m ls,v.right=AC/\v.rng:=by
 intro v hv;obtain⟨x,_,rfl⟩:=CV.1 hv;exact o4 m x.toStr
def xB(m:Md)(q:Qy):Bool:=(FP m q).kind==3||P2 m q (FP m q)
theorem zfi{m:Md}{q:Qy}(hr:E8 m q=AC)(hp:L3 m q (GG q)<=199):xB m q=AC:=by
 obtain⟨s1,s2,_,hk,_,_⟩:=zc7 hr hp;unfold xB;rcases hk with hk|hk|hk
 .rw[(s1 hk).1];simp
 .rw[(s2 hk).1];simp
 .rw[hk];rfl
open Go Go.Proofs
theorem wL:D9 PR B0 29 S0:=by
 refine EJ [(64,RJ),(65,W6)] [] S0 [[.list AD [.str]]] Tryz.func29 qm ⟨nW,Ql,trivial⟩ ?_;intro vs r hwf h;unfold S0 at h;split at h
 .rename_i s;cases hg:(AE (s.size<4294967281))with
  |false=>rw[hg]at h;simp[R.get]at h
  |true=>
  rw[hg,R.get_br,DS,R.get_ok]at h;refine⟨0,(zl 0 s).trans ?_⟩;have hz:=BB hg;have ht:=oJ s IC;rw[show AE (1<=AR {data:=#[10]})=AC from rfl,CJ,AL (show(JA s {data:=#[10]}).size<4294967281 by exact Nat.lt_of_le_of_lt ht hz),DS,<-h];unfold HR;cases(s.toList==GM.toList)<;>rfl
 .simp[R.get]at h
theorem Ps:D9 PR B0 26 WW:=by
 refine EJ [(23,WJ),(54,cX),(93,OK),(53,fB)] [] WW [[.z,.list AC [.bool,.z,.z],.z,.z,.z,.z,.z,.z]] Tryz.func26 ql ⟨Pf,zdD,jH,zeA,trivial⟩ ?_;intro vs r hwf h;unfold WW at h;split at h
 .rename_i m l;replace h:=IH h;obtain⟨m,rfl,h⟩:=h;cases hg:(AE (l.size<4294967281))with
  |false=>rw[hg]at h;simp[R.get]at h
  |true=>
  rw[hg,R.get_br,DS,R.get_ok]at h;refine⟨0,(zk 0 m l).trans ?_⟩;rw[hg,DS,<-h];unfold HE NV ZO;rw[show(NA l !=m.d)=!(NA l==m.d)from rfl];cases MH l
  .rfl
  cases(NA l==m.d)
  .rfl
  cases E8 m (GJ l)
  .rfl
  cases((FP m (GJ l)).kind==3)
  .cases P2 m (GJ l) (FP m (GJ l))<;>rfl
  .rfl
 .simp[R.get]at h
theorem Nc(m:Md)(s:BA)(i:Nat)(l:LI):s.size+l.length<=(VL m s i l).size:=by
 rw[vF,A7]
 have:=Vk i (l.map λx=>HE m x.toStr)
 rw[B8]at this;omega
theorem Oc(N:Nat)(a:BA)(ls:LI)(hs:∀x∈ls,x.toStr.size<4294967281)(hl:ls.length<=strMax)(K:Out->St->DW)(hx:∀x y so,K (.exit 0) (V5 a GM ls x y so)=AA (.str so,[])):
  ∀(d i n:Nat) (so:BA),i+d=ls.length->d<n->(VL (JG a) so i (ls.drop i)).size<=strMax->
   D7 (UK N) (DU XK [1,1,1,1,0,1,0,0]) ⟨[4,5,7,18,19,20],[5,7],[]⟩ n (V5 a GM ls (ic ls.length) (i:Int) so) K=AA (.str (VL (JG a) so i (ls.drop i)),[])
 |0,i,n+1,so,hd,_,_=>by
  rw[ED,Sk,I6 AG,C1 AG,DT];exact hx _ _ _
 |d+1,i,n+1,so,hd,hn,hz=>by
  have hi:i<ls.length:=by omega
  rw[BD hi]at hz ⊢;rw[VL]at hz ⊢;have h1:=Nc (JG a) (so++KD i++HU (HE (JG a) ls[i].toStr)) (i+1) (ls.drop (i+1));have h2:(so++KD i++HU (HE (JG a) ls[i].toStr)).size=so.size+(K9.size+(D0 (i:Int)).size+IC.size)+(HU (HE (JG a) ls[i].toStr)).size:=by
   unfold KD;simp only[A7]
  have e1:K9.size=6:=rfl;have e2:IC.size=1:=rfl;have h3:(so++KD i).size=so.size+(K9.size+(D0 (i:Int)).size+IC.size):=by
   unfold KD;simp only[A7]
  have h4:=hs ls[i] (DC hi);unfold strMax at hl;rw[ED,Sk,H0 hi,IG,GQ AG,IK hi];rw[AL (show AR {data:=#[113,117,101,114,121,32]}+(D0 (i:Int)).size<=strMax by show K9.size+_<=_;omega)];rw[AL (show AR ({data:=#[113,117,101,114,121,32]}++D0 (i:Int))+AR {data:=#[10]}<=strMax by rw[A7];show K9.size+_+IC.size<=_;omega)];rw[AL (show so.size+(gU (i:Int)).size<=strMax by rw[<-A7];show(so++KD i).size<=_;omega)];rw[AL h4,AL (show(HU (HE (JG a) ls[i].toStr)).size<=strMax by omega)];rw[AL (show(so++gU (i:Int)).size+(HU (HE (JG a) ls[i].toStr)).size<=strMax by show(so++KD i).size+_<=_;omega)];simp only[DS,CJ];exact Oc N a ls hs (by unfold strMax;omega) K hx d (i+1) n _ AG AG hz
 |0,_,0,_,_,h,_=>by omega
 |_+1,_,0,_,_,h,_=>by omega
theorem zeX{s sep:BA}{n:Nat}(h:s.size<n):∀x∈EP s sep,x.size<n:=λx hx=>by
 have:=(bL sep _ s).2 x hx
 omega
theorem vh{s:BA}{n:Nat}(h:s.size<n):∀x∈HR s,x.toStr.size<n:=by
 intro x hx;unfold HR at hx;cases he:(s.toList==GM.toList)with
 |true=>rw[he,DS]at hx;cases hx
 |false=>
  rw[he,DT]at hx;obtain⟨y,hy,rfl⟩:=CV.1 hx;have ht:=oJ s IC;exact zeX (Nat.lt_of_le_of_lt ht h) y hy
theorem Pu:D9 PR B0 27 WX:=by
 refine EJ [(11,WP),(26,WW),(29,S0),(42,RI),(47,UM),(94,UN),(17,fI)] [(6,⟨[4,5,7,18,19,20],[5,7],[]⟩)] WX [[.str]] Tryz.func27 qn ⟨Pl,Ps,wL,nV,wM,wN,zeO,trivial⟩ ?_;intro vs r hwf h;unfold WX at h;split at h
 .rename_i a b;cases hg:(AE (a.size<4294967281)&&(AE (b.size<4294967281)&&AE ((M1 a b).size<=strMax)))with
  |false=>rw[hg]at h;simp[R.get]at h
  |true=>
  rw[hg,R.get_br,DS,R.get_ok]at h;rw[AP,AP]at hg;have hz:=BB hg.2.2;refine⟨(HR b).length+1,(zm _ a b).trans ?_⟩;rw[hg.1,DS,<-h];unfold M1 at hz ⊢;cases ht:Q3 a with
  |false=>rfl
  |true=>
   rw[ht,DS]at hz;simp only[A9,DT,DS];rw[hg.2.1,DS];have hl:=Nc (JG a) GM 0 (HR b);have e0:GM.size=0:=rfl
   have:=Oc ((HR b).length+1) a (HR b) (vh (BB hg.2.1)) AG _ (λx y so=>je ((HR b).length+1) a GM (HR b) x y so) (HR b).length 0 ((HR b).length+1) GM AG AG (by rw[CA];exact hz)
   rw[CA]at this;exact this
 .simp[R.get]at h
open Go Go.Proofs
open Go Go.Proofs
open Go
theorem Hz:∀(x:List UInt8) (L:List (List UInt8)),PW (x::L)=vaJ (x::L) [10]++[10]
 |x,[]=>by rw[sV,Lib.join_one];rfl
 |x,y::L=>by rw[sV,Hz y L,X3];simp
theorem sW(s:BA)(hs:s.data.toList≠[]):(HR s).map (λy=>y.toStr.data.toList)=va3 (JA s IC).data.toList [10]:=by
 unfold HR;have e:(s.toList==GM.toList)=AD:=by
  rw[gA];exact AS λh=>hs (by rw[h])
 rw[e,DT,List.map_map]
 have:((λx=>x.toStr.data.toList)∘IV.str)=λb:BA=>b.data.toList:=rfl
 rw[this,Rd]
theorem ve{s:BA}{x:List UInt8}{L:List (List UInt8)}(h:s.data.toList=PW (x::L))(hno:∀l∈x::L,(10:UInt8)∉l):(HR s).map (λy=>y.toStr.data.toList)=x::L:=by
 rw[Hz]at h;rw[sW s (by rw[h];simp),zfE h,nY 10 x L hno]
theorem xK{s:BA}{l:List UInt8}{c:UInt8}(h:s.data.toList=l++[c])(hc:c≠10):JA s IC=s:=by
 have hz:s.size=l.length+1:=by rw[zdl,h,A2];rfl
 have hf:QS s IC=AD:=by
  unfold QS;have e1:AR IC=1:=rfl;rw[e1,AL (show 1<=s.size by omega),BE,gA];refine AS λhe=>hc ?_
  have:=congrArg (λb:BA=>b.data.toList) he
  simp only[ByteArray.data_extract,Array.toList_extract,List.extract_eq_take_drop,h,hz]at this;simpa using this
 unfold JA;rw[hf,DT]
theorem Hb:∀(x:List UInt8) (L:List (List UInt8)) (l:List UInt8) (c:UInt8),(x::L).getLast?=AA (l++[c])->∃r,vaJ (x::L) [10]=r++[c]
 |x,[],l,c,h=>⟨l,by rw[Lib.join_one];simpa using h⟩
 |x,y::L,l,c,h=>by
  obtain⟨r,hr⟩:=Hb y L l c (by rw[List.getLast?_cons_cons]at h;exact h);exact⟨x++10::r,by rw[X3,hr];simp⟩
theorem vd{s:BA}{x:List UInt8}{L:List (List UInt8)}(h:s.data.toList=vaJ (x::L) [10])(hno:∀l∈x::L,(10:UInt8)∉l){l:List UInt8}{c:UInt8}(hl:(x::L).getLast?=AA (l++[c])):
  (HR s).map (λy=>y.toStr.data.toList)=x::L:=by
 obtain⟨r,hr⟩:=Hb x L l c hl;have hc:c≠10:=by
  have hm:l++[c]∈x::L:=List.mem_of_getLast? hl
  have:=hno _ hm
  intro e;rw[e]at this;simp at this
 rw[sW s (by rw[h,hr];simp),xK (h.trans hr) hc,h,nY 10 x L hno]
theorem va{s:BA}(hs:s.data.toList≠[])(hno:(10:UInt8)∉s.data.toList):HR s=[.str s]:=by
 have hd:=sW s hs;obtain⟨c,l,hc⟩:∃c l,s.data.toList=l++[c]:=⟨s.data.toList.getLast hs,s.data.toList.dropLast,(List.dropLast_concat_getLast hs).symm⟩;have hc10:c≠10:=by
  intro e;rw[hc,e]at hno;simp at hno
 rw[xK hc hc10]at hd;unfold HR;have e:(s.toList==GM.toList)=AD:=by
  rw[gA];exact AS λh=>hs (by rw[h])
 rw[e,DT,xK hc hc10]
 have:EP s IC=[s]:=iI (by
  rw[Rd];show va3 s.data.toList [10]=[s.data.toList];exact zeU _ 10 hno)
 rw[this];rfl
theorem vc(s:BA):∃l:List BA,HR s=l.map IV.str:=by
 unfold HR;cases(s.toList==GM.toList)with
 |true=>exact⟨[],rfl⟩
 |false=>exact⟨_,rfl⟩
theorem Ig{s:BA}{L:List BA}(h:(HR s).map (λy=>y.toStr.data.toList)=L.map (·.data.toList)):HR s=L.map IV.str:=by
 obtain⟨l,hl⟩:=vc s;rw[hl]at h ⊢;rw[List.map_map]at h
 have:((λx=>x.toStr.data.toList)∘IV.str)=λb:BA=>b.data.toList:=rfl
 rw[this]at h;rw[iI h]
open Go
theorem zb4{q:Qy}(hq:q.In)(d:Int):(G0 q d).size<=2000:=by
 cases h:N8 q d with
 |false=>rw[Lr h];decide
 |true=>
  obtain⟨h1,h4,_,_,_,_,hk⟩:=Km h;have hp:G0 q d=GV (I3 q d.toNat) HH:=by
   unfold G0;rw[h];rfl
  have zi:∀{n:Int},EN n->(D0 n).size<=100:=λh=>by have:=rW h;omega
  have zp:∀{n:Int},EN n->(D8 n).size<=100:=λh=>by have:=(YJ _ h).2;omega
  have hl:(I3 q d.toNat).length<=15:=by
   unfold I3 IL;simp only[A2,AV,B8,BJ,BL,Qy.spans];cases(q.k==1)<;>cases(q.k==2)<;>simp only[BN,BC,AV,BL]<;>omega
  have hz:=Hc (I3 q d.toNat) (λw hw=>by
   unfold I3 at hw;rcases A4.1 hw with hw|hw
   .rcases A4.1 hw with hw|hw
    .unfold IL at hw;cases h1:(q.k==1)<;>rw[h1]at hw<;>simp only[BN,BC]at hw
     .cases h2:(q.k==2)<;>rw[h2]at hw<;>simp only[BN,BC,AY,CD,C7]at hw
      .rcases hw with rfl|rfl|rfl|rfl
       .cases q.fl<;>decide
       .exact zi hq.c
       .decide
       .exact zi hq.ft
      .rcases hw with rfl|rfl
       .decide
       .exact zi hq.c
     .simp only[AY,CD,C7]at hw;rcases hw with rfl|rfl|rfl|rfl|rfl|rfl
      .decide
      .exact zi hq.c
      .decide
      .exact zp hq.lo
      .decide
      .exact zp hq.hi
    .rcases AY.1 hw with rfl|hw
     .decide
     .obtain⟨s,hs,rfl⟩:=CV.1 hw;have hs:=vav hs;have hin:EN s.1/\EN s.2:=by
       simp only[Qy.spans,AY,CD,C7]at hs;rcases hs with rfl|rfl|rfl|rfl|rfl
       .exact⟨hq.a0,hq.b0⟩
       .exact⟨hq.a1,hq.b1⟩
       .exact⟨hq.a2,hq.b2⟩
       .exact⟨hq.a3,hq.b3⟩
       .exact⟨hq.a4,hq.b4⟩
      have:=Ra hin.1 hin.2
      omega
   .simp only[AY,CD,C7]at hw;rcases hw with rfl|rfl
    .decide
    .exact zi hq.bu)
  rw[hp];omega
theorem Qy.In.sp{q:Qy}(hq:q.In):∀s∈q.spans,EN s.1/\EN s.2:=by
 intro s hs;simp only[Qy.spans,AY,CD,C7]at hs;rcases hs with rfl|rfl|rfl|rfl|rfl
 .exact⟨hq.a0,hq.b0⟩
 .exact⟨hq.a1,hq.b1⟩
 .exact⟨hq.a2,hq.b2⟩
 .exact⟨hq.a3,hq.b3⟩
 .exact⟨hq.a4,hq.b4⟩
theorem zbc{q:Qy}{d:Int}(h1:1<=d)(h4:d<=4)(hc:KR q.c=AC)(hf:KR q.ft=AC)(hb:KR q.bu=AC)
  (hk:(q.k=1/\q.ft=0/\q.fl=AD)\/(q.k=2/\q.lo=0/\q.hi=0/\q.ft=0/\q.fl=AD)\/(q.k=3/\q.lo=0/\q.hi=0))
  (z0:(0:Int)<d\/(q.a0=0/\q.b0=0)) (z1:(1:Int)<d\/(q.a1=0/\q.b1=0)) (z2:(2:Int)<d\/(q.a2=0/\q.b2=0)) (z3:(3:Int)<d\/(q.a3=0/\q.b3=0)) (z4:(4:Int)<d\/(q.a4=0/\q.b4=0)):N8 q d=AC:=by
 have cz:∀(x:Int) (j:Int),(j<d\/x=0)->cond (AE (j<d)) x 0=x:=λx j h=>by
  rcases h with h|h
  .rw[AL h];rfl
  .subst h;cases AE (j<d)<;>rfl
 have ht:F3 q d=q:=by
  obtain⟨k,c,a0,b0,a1,b1,a2,b2,a3,b3,a4,b4,lo,hi,ft,fl,bu⟩:=q;simp only at hk z0 z1 z2 z3 z4;simp only[F3,Qy.mk.injEq,vaP];refine⟨cz _ _ (z0.imp_right (·.1)),cz _ _ (z0.imp_right (·.2)),cz _ _ (z1.imp_right (·.1)),cz _ _ (z1.imp_right (·.2)),cz _ _ (z2.imp_right (·.1)),cz _ _ (z2.imp_right (·.2)),cz _ _ (z3.imp_right (·.1)),cz _ _ (z3.imp_right (·.2)),cz _ _ (z4.imp_right (·.1)),cz _ _ (z4.imp_right (·.2)),?_⟩;rcases hk with⟨rfl,rfl,rfl⟩|⟨rfl,rfl,rfl,rfl,rfl⟩|⟨rfl,rfl,rfl⟩<;>exact⟨rfl,rfl,rfl,rfl,trivial⟩
 have hk3:(q.k==1||(q.k==2||q.k==3))=AC:=by
  rcases hk with⟨h,_⟩|⟨h,_⟩|⟨h,_⟩<;>rw[h]<;>rfl
 unfold N8;rw[ht,Qy.eq_self,hc,hf,hb,hk3,AS (show¬d<1 by omega),AS (show¬d>4 by omega)];rfl
theorem zcy(d:Int)(l:LI)(i:Int): -2<=F7 d l i/\F7 d l i<=9:=by
 unfold F7
 have:=(HZ (n:=E0 l (2*i)) (lo:= -2) (hi:=9) AG AG AG).2
 cases AE (i<d)<;>simp only[BN,BC]<;>omega
theorem zcz(d:Int)(l:LI)(i:Int): -2<=F8 d l i/\F8 d l i<=20:=by
 unfold F8
 have:=(HZ (n:=E0 l (2*i)) (lo:= -2) (hi:=9) AG AG AG).2
 have:=(HZ (n:=E0 l (2*i+1)) (lo:=0) (hi:=11) AG AG AG).2
 cases AE (i<d)<;>simp only[BN,BC]<;>omega
theorem vD{d:Int}(l:LI){i:Int}(h:d<=i):F7 d l i=0/\F8 d l i=0:=by
 unfold F7 F8;rw[AS (show¬i<d by omega)];exact⟨rfl,rfl⟩
theorem Hj(a:Ak)(cls:Int):FU a cls=1\/FU a cls=2\/FU a cls=3:=by
 unfold FU
 have:=(HZ (n:=a.k) (lo:=1) (hi:=3) AG AG AG).2
 cases(D2 a.k 1 3==2&&AE (cls<2))with
 |true=>exact .inl rfl
 |false=>
  rw[DT];omega
theorem v9{n:Int}(h0:0<=n)(h1:n<=1073741824):KR n=AC:=by
 unfold KR;rw[AL h0,AL h1];rfl
theorem zcp(a:Ak){dim cls:Int}(hd:1<=dim/\dim<=4)(hc:1<=cls/\cls<=3):N8 (JZ a dim cls) dim=AC:=by
 have c1:=(HZ (n:=a.c) (lo:=0) (hi:=cls-1) AG AG AG).2;have f1:=(HZ (n:=a.ft) (lo:=0) (hi:=dim-1) AG AG AG).2;have b1:=(HZ (n:=a.bu) (lo:=0) (hi:=65536) AG AG AG).2;refine zbc hd.1 hd.2 (v9 (by show 0<=D2 a.c 0 (cls-1);omega) (by show D2 a.c 0 (cls-1)<=_;omega)) ?_ (v9 b1.1 (by show D2 a.bu 0 65536<=_;omega)) ?_ ?_ ?_ ?_ ?_ ?_
 .show KR (cond (FU a cls==3) (D2 a.ft 0 (dim-1)) 0)=AC;cases(FU a cls==3)with
  |true=>exact v9 (n:=D2 a.ft 0 (dim-1)) f1.1 AG
  |false=>rfl
 .show(FU a cls=1/\cond (FU a cls==3) (D2 a.ft 0 (dim-1)) 0=0/\cond (FU a cls==3) a.fl AD=AD)\/
   (FU a cls=2/\cond (FU a cls==1) (KZ a) 0=0/\cond (FU a cls==1) (KZ a+D2 a.size 0 18000) 0=0/\cond (FU a cls==3) (D2 a.ft 0 (dim-1)) 0=0/\cond (FU a cls==3) a.fl AD=AD)\/
   (FU a cls=3/\cond (FU a cls==1) (KZ a) 0=0/\cond (FU a cls==1) (KZ a+D2 a.size 0 18000) 0=0)
  rcases Hj a cls with h|h|h<;>rw[h]
  .exact .inl ⟨rfl,rfl,rfl⟩
  .exact .inr (.inl ⟨rfl,rfl,rfl,rfl,rfl⟩)
  .exact .inr (.inr ⟨rfl,rfl,rfl⟩)
 .exact .inl AG
 .rcases Int.lt_or_le 1 dim with h|h
  .exact .inl h
  .exact .inr (vD a.sp h)
 .rcases Int.lt_or_le 2 dim with h|h
  .exact .inl h
  .exact .inr (vD a.sp h)
 .rcases Int.lt_or_le 3 dim with h|h
  .exact .inl h
  .exact .inr (vD a.sp h)
 .exact .inr ⟨rfl,rfl⟩
theorem zco(a:Ak){dim cls:Int}(hd:1<=dim/\dim<=4)(hc:1<=cls/\cls<=3):(JZ a dim cls).In:=by
 have c1:=(HZ (n:=a.c) (lo:=0) (hi:=cls-1) AG AG AG).2;have f1:=(HZ (n:=a.ft) (lo:=0) (hi:=dim-1) AG AG AG).2;have b1:=(HZ (n:=a.bu) (lo:=0) (hi:=65536) AG AG AG).2;have l1:=(HZ (n:=a.lo) (lo:= -9000) (hi:=9000) AG AG AG).2;have s1:=(HZ (n:=a.size) (lo:=0) (hi:=18000) AG AG AG).2;have k1:=Hj a cls;have A:=λi=>zcy dim a.sp i
 have B:=λi=>zcz dim a.sp i
 have zA:∀i,EN (F7 dim a.sp i):=λi=>by have:=A i;unfold EN;omega
 have zB:∀i,EN (F8 dim a.sp i):=λi=>by have:=B i;unfold EN;omega
 refine⟨?_,?_,zA 0,zB 0,zA 1,zB 1,zA 2,zB 2,zA 3,zB 3,?_,?_,?_,?_,?_,?_⟩
 .show EN (FU a cls);unfold EN;omega
 .show EN (D2 a.c 0 (cls-1));unfold EN;omega
 .show EN 0;unfold EN;omega
 .show EN 0;unfold EN;omega
 .show EN (cond (FU a cls==1) (KZ a) 0);unfold KZ EN;cases(FU a cls==1)<;>simp only[BN,BC]<;>omega
 .show EN (cond (FU a cls==1) (KZ a+D2 a.size 0 18000) 0);unfold KZ EN;cases(FU a cls==1)<;>simp only[BN,BC]<;>omega
 .show EN (cond (FU a cls==3) (D2 a.ft 0 (dim-1)) 0);unfold EN;cases(FU a cls==3)<;>simp only[BN,BC]<;>omega
 .show EN (D2 a.bu 0 65536);unfold EN;omega
theorem VC{l:List UInt8}(h:∀c∈l,45<=c.toNat/\c.toNat<=57):(10:UInt8)∉l:=(tQ h).2
theorem zfW(q:Qy)(D:Nat):∀w∈I3 q D,(10:UInt8)∉w.data.toList:=by
 intro w hw;unfold I3 at hw;have key:∀x∈IL q,(10:UInt8)∉x.data.toList:=by
  intro x hx;unfold IL at hx;cases h1:(q.k==1)<;>rw[h1]at hx<;>simp only[BN,BC]at hx
  .cases h2:(q.k==2)<;>rw[h2]at hx<;>simp only[BN,BC,AY,CD,C7]at hx
   .rcases hx with rfl|rfl|rfl|rfl
    .cases q.fl<;>decide
    .exact VC (PV _)
    .decide
    .exact VC (PV _)
   .rcases hx with rfl|rfl
    .decide
    .exact VC (PV _)
  .simp only[AY,CD,C7]at hx;rcases hx with rfl|rfl|rfl|rfl|rfl|rfl
   .decide
   .exact VC (PV _)
   .decide
   .exact VC (a8 _)
   .decide
   .exact VC (a8 _)
 rcases A4.1 hw with h|h
 .rcases A4.1 h with h|h
  .exact key w h
  .rcases AY.1 h with rfl|h
   .decide
   .obtain⟨s,_,rfl⟩:=CV.1 h;exact VC (Qz _ _)
 .simp only[AY,CD,C7]at h;rcases h with rfl|rfl
  .decide
  .exact VC (PV _)
theorem zb3(q:Qy)(d:Int):(10:UInt8)∉(G0 q d).data.toList:=by
 cases h:N8 q d with
 |false=>
  rw[Lr h];decide
 |true=>
  have:G0 q d=GV (I3 q d.toNat) HH:=by
   unfold G0;rw[h];rfl
  rw[this,rY];refine tD 32 10 (by decide) _ λv hv=>?_
  obtain⟨u,hu,rfl⟩:=CV.1 hv;exact zfW q d.toNat u hu
theorem zfS{n lo hi:Int}(h0:lo<=n)(h1:n<=hi)(h2:lo=0)(h3:hi<=1000000):D2 n lo hi=n:=by
 subst h2;have hm:=(HZ (n:=n) (lo:=0) (hi:=hi) AG AG AG).1;unfold D2;rw[hm];have e:Int.tmod n (hi-0+1)=n:=Int.tmod_eq_of_lt h0 AG;rw[e,AS (show¬n<0 by omega),DT,Int.zero_add];exact ER AG AG
theorem aa(a:Ak)(m:Md){w:Int}(h0:0<=w)(h1:w<=65536):(JC a m).bud w=JC ⟨a.k,a.c,a.lo,a.size,a.ft,w,a.fl,a.sp⟩ m:=by
 unfold JC JZ Qy.bud;simp only[zfS h0 h1 rfl AG];rfl
theorem y6(a:Ak){m:Md}(hd:1<=m.d/\m.d<=4)(hc:1<=m.c/\m.c<=3){w:Int}(h0:0<=w)(h1:w<=65536):
  N8 ((JC a m).bud w) m.d=AC/\((JC a m).bud w).In/\MH (G0 ((JC a m).bud w) m.d)=AC/\GJ (G0 ((JC a m).bud w) m.d)=(JC a m).bud w/\NA (G0 ((JC a m).bud w) m.d)=m.d:=by
 rw[aa a m h0 h1];have ho:=zcp ⟨a.k,a.c,a.lo,a.size,a.ft,w,a.fl,a.sp⟩ hd hc;have hi:=zco ⟨a.k,a.c,a.lo,a.size,a.ft,w,a.fl,a.sp⟩ hd hc;have hp:=ac hi.c hi.lo hi.hi hi.ft hi.bu hi.sp ho;exact⟨ho,hi,hp.1,hp.2.1,hp.2.2⟩
open Go
structure Sits (m:Md) (q:Qy):Prop where
 right:E8 m q=AC
 few:L3 m q (GG q)<=199
 ok:N8 q m.d=AC
 ask:MH (G0 q m.d)=AC
 qq:GJ (G0 q m.d)=q
 dd:NA (G0 q m.d)=m.d
theorem Fe{m:Md}(h:OZ m.ts<=99)(q:Qy):L3 m q (GG q)<=199:=by
 have:=zbZ m q (GG q)
 omega
theorem zdj(f:Ft)(a:Ak){w:Int}(h0:0<=w)(h1:w<=65536):Sits f.M ((JC a f.M).bud w)/\((JC a f.M).bud w).In:=by
 have hd:1<=f.M.d/\f.M.d<=3:=Z8 f.d;have hc:1<=f.M.c/\f.M.c<=3:=gF f.c;obtain⟨l1,l2,l3,l4,l5⟩:=y6 a (m:=f.M) ⟨hd.1,by omega⟩ hc h0 h1;exact⟨⟨ae f a h0 h1,Fe (by have:=Fu f;omega) _,l1,l3,l4,l5⟩,l2⟩
theorem zfh{m:Md}(hf:OZ m.ts<=99){l:BA}(h:NV m l=AC):xB m (GJ l)=AC:=zfi (yU h) (Fe hf _)
open Go
def QN(x:Int):BA:=strOfNums (BQ IV.toInt [IV.int (AI vbb (AI AJ (48+x)))])
abbrev rZ:List Kd:=[.z,.z,.z,.z,.z,.z,.bool,.list AD [.z]]
def Qy.I(q:Qy):IV:=.agg [.int q.k,.int q.c,.int q.a0,.int q.b0,.int q.a1,.int q.b1,.int q.a2,.int q.b2,.int q.a3,.int q.b3,.int q.a4,.int q.b4,.int q.lo,.int q.hi,.int q.ft,.bool q.fl,.int q.bu]
def ZM(x:IV):Ak:=⟨cI x 0,cI x 1,cI x 2,cI x 3,cI x 4,cI x 5,(x.cell 6).toBool,(x.cell 7).toList⟩
def O7:LI->LI->Bool
 |[],[]=>AC
 |x::l,y::m=>(x.toStr.toList==y.toStr.toList)&&O7 l m
 |_,_=>AD
def WQ:D5
 |[.list AD [.str] l,.list AD [.str] m]=>.ok (.bool (O7 l m)) []
 |_=>.no
def dC:D5
 |[]=>.ok (.bool AC) []
 |_=>.no
open Go
open Go
theorem Ha:∀(x:List UInt8) (L:List (List UInt8)) (l:List UInt8) (c:UInt8),(x::L).getLast?=AA (l++[c])->∃r,vaJ (x::L) [32]=r++[c]
 |x,[],l,c,h=>⟨l,by rw[Lib.join_one];simpa using h⟩
 |x,y::L,l,c,h=>by
  obtain⟨r,hr⟩:=Ha y L l c (by rw[List.getLast?_cons_cons]at h;exact h);exact⟨x++32::r,by rw[Hd,hr];simp⟩
theorem zb2{q:Qy}{d:Int}(h:N8 q d=AC):∃r c,(G0 q d).data.toList=r++[c]/\c≠32/\c≠10:=by
 have hp:G0 q d=GV (I3 q d.toNat) HH:=by
  unfold G0;rw[h];rfl
 have hne:=Gz q.bu;have hlast:(va7 q.bu).dropLast++[(va7 q.bu).getLast hne]=va7 q.bu:=List.dropLast_concat_getLast hne;have hc:(va7 q.bu).getLast hne∈va7 q.bu:=List.getLast_mem hne;have hw:((I3 q d.toNat).map (·.data.toList)).getLast?=AA ((va7 q.bu).dropLast++[(va7 q.bu).getLast hne]):=by
  rw[hlast];unfold I3;rw[va5,List.getLast?_append];rfl
 obtain⟨x,L,hx⟩:∃x L,(I3 q d.toNat).map (·.data.toList)=x::L:=by
  cases hq:(I3 q d.toNat).map (·.data.toList)with
  |nil=>rw[hq]at hw;cases hw
  |cons x L=>exact⟨x,L,rfl⟩
 rw[hx]at hw;obtain⟨r,hr⟩:=Ha x L _ _ hw;refine⟨r,(va7 q.bu).getLast hne,?_,λe=>?_,λe=>?_⟩
 .rw[hp,rY,hx,hr]
 .have:=(rX q.bu _ hc).1
  rw[e]at this;exact absurd this (by decide)
 .have:=(rX q.bu _ hc).1
  rw[e]at this;exact absurd this (by decide)
open Go Go.Proofs
theorem Lv{m:Md}(h:ET m=AC):1<=(H2 m).size/\(H2 m).size<=300000:=by
 obtain⟨hd,hc,hl,_,ht⟩:=tG h;have hp:H2 m=GL (MT m):=by unfold H2;rw[h];rfl
 have hall:∀(ts:LI),ts.all (HN m.d m.c)=AC->(∀l∈G9 ts,l.length<=8/\∀w∈l,w.size<=100)/\(G9 ts).length<=32*ts.length:=λts=>by
  induction ts with
  |nil=>exact λ_=>⟨λl hl=>(by cases hl),A5 _⟩
  |cons t r ih=>
   intro h;rw[van,AP]at h;obtain⟨i1,i2⟩:=ih h.2;obtain⟨j1,j2⟩:=Um hc.2 h.1;rw[G9];refine⟨λl hl=>?_,?_⟩
   .rcases A4.1 hl with hl|hl
    .exact j1 l hl
    .exact i1 l hl
   .rw[A2,AV];omega
 obtain⟨a1,a2⟩:=hall m.ts ht;have hz:=xE (MT m) (λl hl=>by
  have hl:l∈TG m++G9 m.ts:=hl;rcases A4.1 hl with hl|hl
  .exact Gg h l hl
  .exact a1 l hl)
 have hn:(MT m).length=2+(G9 m.ts).length:=by
  show(TG m++G9 m.ts).length=_;rw[A2];rfl
 rw[hp];refine⟨?_,by omega⟩;have e:GL (MT m)=FV [OD,D0 m.d,D0 m.c]++GL (([JS::([m.b0,m.b1,m.b2].take m.c.toNat).map D8])++G9 m.ts):=rfl;rw[e,A7]
 have:1<=(FV [OD,D0 m.d,D0 m.c]).size:=by
  unfold FV;rw[A7];have e1:AR QB=1:=rfl;omega
 omega
open Go
theorem ub(i:Nat)(h:i<=9223372036854775807):(D0 (i:Int)).size<=21:=gV (by show -9223372036854775808<=_;omega) (by show _<=(9223372036854775807:Int);omega)
theorem rK(i:Nat)(h:i<=1000000000):(KD i).size<=28:=by
 have:=ub i AG
 unfold KD;rw[A7,A7];show 6+_+1<=28;omega
theorem Vj:∀(vs:List Vd) (i:Nat),i+vs.length<=1000000000->(∀v∈vs,v.rng)->(QA i vs).size<=4000028*vs.length
 |[],_,_,_=>CG _
 |v::r,i,hi,h=>by
  have h1:=uO (h v (AZ ..));have h2:=Vj r (i+1) (by simp only[AV]at hi;omega) λx hx=>h x (A6 _ hx)
  have h3:=rK i (by simp only[AV]at hi;omega);unfold QA;rw[A7,A7,AV];omega
theorem Nw(a b:BA)(h:(HR b).length<=1000):(M1 a b).size<=4000028*1000:=by
 cases ht:Q3 a with
 |false=>
  unfold M1;rw[ht,DT];show 6<=_;omega
 |true=>
  rw[vS ht]
  have:=Vj (UP (JG a) (HR b)) 0 (by unfold UP;rw[B8];omega) λv hv=>(Zn _ _ v hv).2
  unfold UP at this;rw[B8]at this;unfold UP;omega
def YW:BA->Nat->List Vd->BA
 |s,_,[]=>s
 |s,i,v::r=>YW (s++KD i++HU v) (i+1) r
theorem Vi:∀(vs:List Vd) (s:BA) (i:Nat),YW s i vs=s++QA i vs
 |[],s,i=>by
  show s=s++GM;exact(ByteArray.append_empty).symm
 |v::r,s,i=>by
  rw[YW,Vi r,QA,DM,DM]
theorem zfN(vs:List Vd)(i:Nat):YW GM i vs=QA i vs:=by
 rw[Vi];exact ByteArray.empty_append
def Ed(i:Nat):Bool:=(QN (i:Int)).toList==(D0 (i:Int)).toList
theorem fc:(vaA 10).all Ed=AC:=AF
theorem ff{i:Nat}(h:i<10):QN (i:Int)=D0 (i:Int):=by
 have:=CZ.1 fc i (vaF.2 h)
 unfold Ed at this;rw[gA]at this;exact BB this
theorem fe{i:Nat}(h:i<10)(s:BA):s++K9++QN (i:Int)++IC=s++KD i:=by
 rw[ff h];unfold KD;simp only[DM]
theorem zfk{l:LI}{k i:Nat}(h:i<l.length)(hk:i<k):(l.take k).drop i=l[i]::(l.take k).drop (i+1):=by
 rw[BD (by rw[BJ];omega),List.getElem_take]
theorem Ud{l:LI}{k i:Nat}(h:¬(i<l.length/\i<k)):(l.take k).drop i=[]:=C1 (by rw[BJ];omega)
theorem zbb{m:Md}(h:P0 m=AC):(1<=m.d/\m.d<=4)/\(1<=m.c/\m.c<=3):=by
 unfold P0 at h;simp only[AP,AW]at h;exact⟨⟨h.1.1,h.1.2⟩,⟨h.2.1,h.2.2⟩⟩
theorem y7{m:Md}(h:P0 m=AC)(a:Ak){w:Int}(h0:0<=w)(h1:w<=65536):(G0 ((JC a m).bud w) m.d).size<=2000:=by
 obtain⟨hd,hc⟩:=zbb h;exact zb4 (y6 a hd hc h0 h1).2.1 _
open Go Go.Proofs
def II(N:Nat):Env:=EI [(32,OI),(35,ST),(74,SX)] [(4,⟨[1,2,4,5,6,7],[2,500,501],[⟨.tmp 5,500,108,AC,[.bool,.z,.z,.z,.z,.z]⟩,⟨.tmp 6,501,3,AD,[.z]⟩]⟩),(14,⟨[4,11,100,101,102],[500,502],[⟨.tmp 11,502,106,AD,[.int .u64]⟩]⟩)] 113 N
abbrev Y4(x1:Int)(n5 n6:Nat)(x7 u06:Int)(u00 u01 u02 u03 u04 u05:LI):St:=⟨[(1,(.i x1)),(2,(.ptr 2 0 0)),(4,.zs),(5,(.row 500 0 n5)),(6,(.row 501 0 n6)),(7,(.i x7))],[(2,(AA (.box [.i u06,.list AD [.z] u00,.list AD [.z] u01,.list AD [.z] u02,.list AD [.z] u03]))),(500,(AA (.row AC 108 AC [.bool,.z,.z,.z,.z,.z] u04))),(501,(AA (.row AC 3 AD [.z] u05)))]⟩
abbrev cD(n11 n100:Nat)(x101 x102:Int)(u00 u01:LI):St:=⟨[(4,.zs),(11,(.row 502 0 n11)),(100,(.row 500 0 n100)),(101,(.i x101)),(102,(.i x102))],[(500,(AA (.row AC 108 AC [.bool,.z,.z,.z,.z,.z] u00))),(502,(AA (.row AC 106 AD [.int .u64] u01)))]⟩
theorem xn(N:Nat)(u00:Int)(u01 t_By t_At u02:LI)(a1:Int):EB (II N) NB [.tmp 4] [[.list AD [.int .u64]]] [.agg [.i u00,.list AD [.z] u01,.list AD [.z] t_By,.list AD [.z] t_At,.list AD [.z] u02],.i a1]=(D7 (II N) (DU NB [1,1,1,0,1,0,0]) ⟨[1,2,4,5,6,7],[2,500,501],[⟨(.tmp 5),500,108,AC,[.bool,.z,.z,.z,.z,.z]⟩,⟨(.tmp 6),501,3,AD,[.z]⟩]⟩ N (Y4 a1 1 1 0 u00 u01 t_By t_At u02 [(IV.agg [IV.bool AC,IV.int (D2 (E0 u02 0) (-3000) 3000),IV.int 0,IV.int 0,IV.int 0,IV.int 0])] [(IV.int 0)]) (DZ 0 (D1 (II N) (DU NB [1,1,1,1]) (D4 (II N) AB [.tmp 4] [[.list AD [.int .u64]]])))):=AF
theorem Sb(N:Nat)(x1:Int)(n5 n6:Nat)(x7 u06:Int)(u00 u01 u02 u03 u04 u05:LI)(again:St->DW)(k:Out->St->DW):E3 (II N) (DU NB [1,1,1,0,1,0,0]) (Y4 x1 n5 n6 x7 u06 u00 u01 u02 u03 u04 u05) (ES again ⟨[1,2,4,5,6,7],[2,500,501],[⟨(.tmp 5),500,108,AC,[.bool,.z,.z,.z,.z,.z]⟩,⟨(.tmp 6),501,3,AD,[.z]⟩]⟩ k)=(cond (AE (x7<ic (AN u00))) (cond (AE (x7<7)) (cond (AE (0<=x7)&&AE (x7<ic (AN u00))) (cond (AE (MB 0 (AI AJ (ic (n6-0)-1))=0)) AB (cond (AE (0<=D2 (IV.toInt (AQ u00 (AM x7) default)) 0 (AI AJ (ic (n6-0)-1)))&&AE (D2 (IV.toInt (AQ u00 (AM x7) default)) 0 (AI AJ (ic (n6-0)-1))<ic (n6-0))) (cond (AE (0<=x7)) (cond (AE (MB 0 (AI AJ (x1-1))=0)) AB (cond (AE (0<=x7)) (cond (AE (0<=IV.toInt (AQ u05 (0+AM (D2 (IV.toInt (AQ u00 (AM x7) default)) 0 (AI AJ (ic (n6-0)-1)))) default))&&AE (IV.toInt (AQ u05 (0+AM (D2 (IV.toInt (AQ u00 (AM x7) default)) 0 (AI AJ (ic (n6-0)-1)))) default)<ic (n5-0))) (cond (AE (0<=AI AJ (AI AJ (2*x7)+1))) (cond (AE (0<=AI AJ (AI AJ (2*x7)+2))) (cond (AE ((n5+AN (A3 0 (AU 2 [IV.agg [IV.bool AC,IV.int (D2 (E0 u03 (AI AJ (AI AJ (2*x7)+1))) (-3000) 3000),IV.int 0,IV.int 0,IV.int 0,IV.int 0],IV.agg [IV.bool AC,IV.int (D2 (E0 u03 (AI AJ (AI AJ (2*x7)+2))) (-3000) 3000),IV.int 0,IV.int 0,IV.int 0,IV.int 0]])))*TI.bytes (Env.tyd (II N) 108)<=EM)) (cond (AE (0<=D2 (IV.toInt (AQ u00 (AM x7) default)) 0 (AI AJ (ic (n6-0)-1)))&&AE (D2 (IV.toInt (AQ u00 (AM x7) default)) 0 (AI AJ (ic (n6-0)-1))<=ic (n6-0))) (cond (AE ((0+AN (A3 0 (AU (0+AM (D2 (IV.toInt (AQ u00 (AM x7) default)) 0 (AI AJ (ic (n6-0)-1)))) u05)))*TI.bytes (Env.tyd (II N) 3)<=EM)) (cond (AE (0<=AI AJ (D2 (IV.toInt (AQ u00 (AM x7) default)) 0 (AI AJ (ic (n6-0)-1))+1))&&AE (AI AJ (D2 (IV.toInt (AQ u00 (AM x7) default)) 0 (AI AJ (ic (n6-0)-1))+1)<=ic (n6-0))) (cond (AE ((0+AN (A3 0 (AU (0+AM (D2 (IV.toInt (AQ u00 (AM x7) default)) 0 (AI AJ (ic (n6-0)-1)))) u05))+AN (A3 (0+AM (AI AJ (D2 (IV.toInt (AQ u00 (AM x7) default)) 0 (AI AJ (ic (n6-0)-1))+1))) (AU (0+(n6-0)) u05)))*TI.bytes (Env.tyd (II N) 3)<=EM)) (cond (AE ((0+AN (A3 0 (AU (0+AM (D2 (IV.toInt (AQ u00 (AM x7) default)) 0 (AI AJ (ic (n6-0)-1)))) u05))+AN (A3 (0+AM (AI AJ (D2 (IV.toInt (AQ u00 (AM x7) default)) 0 (AI AJ (ic (n6-0)-1))+1))) (AU (0+(n6-0)) u05))+AN (A3 0 (AU 2 [IV.int (ic (n5-0)),IV.int (AI AJ (ic (n5-0)+1))])))*TI.bytes (Env.tyd (II N) 3)<=EM)) (again (Y4 x1 (n5+AN (A3 0 (AU 2 [IV.agg [IV.bool AC,IV.int (D2 (E0 u03 (AI AJ (AI AJ (2*x7)+1))) (-3000) 3000),IV.int 0,IV.int 0,IV.int 0,IV.int 0],IV.agg [IV.bool AC,IV.int (D2 (E0 u03 (AI AJ (AI AJ (2*x7)+2))) (-3000) 3000),IV.int 0,IV.int 0,IV.int 0,IV.int 0]]))) (0+AN (A3 0 (AU (0+AM (D2 (IV.toInt (AQ u00 (AM x7) default)) 0 (AI AJ (ic (n6-0)-1)))) u05))+AN (A3 (0+AM (AI AJ (D2 (IV.toInt (AQ u00 (AM x7) default)) 0 (AI AJ (ic (n6-0)-1))+1))) (AU (0+(n6-0)) u05))+AN (A3 0 (AU 2 [IV.int (ic (n5-0)),IV.int (AI AJ (ic (n5-0)+1))]))) (AI AJ (x7+1)) u06 u00 u01 u02 u03 (AU n5 (vaM u04 (0+AM (IV.toInt (AQ u05 (0+AM (D2 (IV.toInt (AQ u00 (AM x7) default)) 0 (AI AJ (ic (n6-0)-1)))) default))) (LN AC [Kd.bool,Kd.int AJ,Kd.int AJ,Kd.int AJ,Kd.int AJ,Kd.int AJ] (AQ u04 (0+AM (IV.toInt (AQ u05 (0+AM (D2 (IV.toInt (AQ u00 (AM x7) default)) 0 (AI AJ (ic (n6-0)-1)))) default))) default) 0 [IV.bool AD,IV.int 0,IV.int (D2 (E0 u01 x7) 0 (AI AJ (x1-1))),IV.int (D2 (E0 u02 x7) 0 9),IV.int (ic (n5-0)),IV.int (AI AJ (ic (n5-0)+1))]))++A3 0 (AU 2 [IV.agg [IV.bool AC,IV.int (D2 (E0 u03 (AI AJ (AI AJ (2*x7)+1))) (-3000) 3000),IV.int 0,IV.int 0,IV.int 0,IV.int 0],IV.agg [IV.bool AC,IV.int (D2 (E0 u03 (AI AJ (AI AJ (2*x7)+2))) (-3000) 3000),IV.int 0,IV.int 0,IV.int 0,IV.int 0]])) (AU (0+AN (A3 0 (AU (0+AM (D2 (IV.toInt (AQ u00 (AM x7) default)) 0 (AI AJ (ic (n6-0)-1)))) u05))+AN (A3 (0+AM (AI AJ (D2 (IV.toInt (AQ u00 (AM x7) default)) 0 (AI AJ (ic (n6-0)-1))+1))) (AU (0+(n6-0)) u05))) (AU (0+AN (A3 0 (AU (0+AM (D2 (IV.toInt (AQ u00 (AM x7) default)) 0 (AI AJ (ic (n6-0)-1)))) u05))) (AU 0 []++A3 0 (AU (0+AM (D2 (IV.toInt (AQ u00 (AM x7) default)) 0 (AI AJ (ic (n6-0)-1)))) u05))++A3 (0+AM (AI AJ (D2 (IV.toInt (AQ u00 (AM x7) default)) 0 (AI AJ (ic (n6-0)-1))+1))) (AU (0+(n6-0)) u05))++A3 0 (AU 2 [IV.int (ic (n5-0)),IV.int (AI AJ (ic (n5-0)+1))])))) AB) AB) AB) AB) AB) AB) AB) AB) AB) AB)) AB) AB)) AB) (k (.exit 0) (Y4 x1 n5 n6 x7 u06 u00 u01 u02 u03 u04 u05))) (k (.exit 0) (Y4 x1 n5 n6 x7 u06 u00 u01 u02 u03 u04 u05))):=AF
theorem ik(N:Nat)(x1:Int)(n5 n6:Nat)(x7 u06:Int)(u00 u01 u02 u03 u04 u05:LI):(DZ 0 (D1 (II N) (DU NB [1,1,1,1]) (D4 (II N) AB [.tmp 4] [[.list AD [.int .u64]]]))) (.exit 0) (Y4 x1 n5 n6 x7 u06 u00 u01 u02 u03 u04 u05)=(D7 (II N) (DU NB [1,1,1,1,1,0,1,0,0]) ⟨[4,11,100,101,102],[500,502],[⟨(.tmp 11),502,106,AD,[.int .u64]⟩]⟩ N (cD 0 n5 (ic (n5-0)) 0 u04 []) (DZ 2 (D1 (II N) (DU NB [1,1,1,1,1,1]) (D4 (II N) AB [.tmp 4] [[.list AD [.int .u64]]])))):=AF
theorem Sc(N n11 n100:Nat)(x101 x102:Int)(u00 u01:LI)(again:St->DW)(k:Out->St->DW):E3 (II N) (DU NB [1,1,1,1,1,0,1,0,0]) (cD n11 n100 x101 x102 u00 u01) (ES again ⟨[4,11,100,101,102],[500,502],[⟨(.tmp 11),502,106,AD,[.int .u64]⟩]⟩ k)=(cond (AE (x102<x101)) (cond (AE (0<=x102)&&AE (x102<ic (n100-0))) (cond (AE ((n11+AN (A3 0 (AU 1 [IV.int (HT (IV.toBool (IV.cell (AQ u00 (0+AM x102) default) 0)) (IV.toInt (IV.cell (AQ u00 (0+AM x102) default) 1)) (IV.toInt (IV.cell (AQ u00 (0+AM x102) default) 2)) (IV.toInt (IV.cell (AQ u00 (0+AM x102) default) 3)) (IV.toInt (IV.cell (AQ u00 (0+AM x102) default) 4)) (IV.toInt (IV.cell (AQ u00 (0+AM x102) default) 5)))])))*TI.bytes (Env.tyd (II N) 106)<=EM)) (again (cD (n11+AN (A3 0 (AU 1 [IV.int (HT (IV.toBool (IV.cell (AQ u00 (0+AM x102) default) 0)) (IV.toInt (IV.cell (AQ u00 (0+AM x102) default) 1)) (IV.toInt (IV.cell (AQ u00 (0+AM x102) default) 2)) (IV.toInt (IV.cell (AQ u00 (0+AM x102) default) 3)) (IV.toInt (IV.cell (AQ u00 (0+AM x102) default) 4)) (IV.toInt (IV.cell (AQ u00 (0+AM x102) default) 5)))]))) n100 x101 (AI AJ (x102+1)) u00 (AU n11 u01++A3 0 (AU 1 [IV.int (HT (IV.toBool (IV.cell (AQ u00 (0+AM x102) default) 0)) (IV.toInt (IV.cell (AQ u00 (0+AM x102) default) 1)) (IV.toInt (IV.cell (AQ u00 (0+AM x102) default) 2)) (IV.toInt (IV.cell (AQ u00 (0+AM x102) default) 3)) (IV.toInt (IV.cell (AQ u00 (0+AM x102) default) 4)) (IV.toInt (IV.cell (AQ u00 (0+AM x102) default) 5)))])))) AB) AB) (k (.exit 2) (cD n11 n100 x101 x102 u00 u01))):=AF
theorem il(N n11 n100:Nat)(x101 x102:Int)(u00 u01:LI):(DZ 2 (D1 (II N) (DU NB [1,1,1,1,1,1]) (D4 (II N) AB [.tmp 4] [[.list AD [.int .u64]]]))) (.exit 2) (cD n11 n100 x101 x102 u00 u01)=(AA (.list AD [.int .u64] (A3 0 (AU n11 u01)),[])):=AF
open Go Go.Proofs
structure Ns.At (i:Nat) (s:Ns):Prop where
 nl:s.nodes.length=2*i+1
 ll:s.leaves.length=i+1
 lt:∀x∈s.leaves,0<=x.toInt/\x.toInt<(2*i+1:Nat)
theorem tN{part:LI}{i:Nat}{s:Ns}(h:s.At i)(hi:i<=100):0<=IZ part i s/\IZ part i s<((i+1:Nat):Int)/\MB 0 (ic s.leaves.length-1)=((i+1:Nat):Int):=by
 have e:ic s.leaves.length=((i+1:Nat):Int):=by rw[h.ll]
 obtain⟨m,a,b⟩:=HZ (n:=(part.getD i default).toInt) (lo:=0) (hi:=ic s.leaves.length-1) (by rw[e];omega) AG (by rw[e];omega);unfold IZ;rw[e]at a b m ⊢;exact⟨a,by omega,by rw[m];omega⟩
theorem za7{part:LI}{i:Nat}{s:Ns}(h:s.At i)(hi:i<=100):0<=RY part i s/\RY part i s<(2*i+1:Nat):=by
 obtain⟨k0,k1,_⟩:=tN (part:=part) h hi;have hk:(IZ part i s).toNat<s.leaves.length:=by rw[h.ll];omega
 have e:s.leaves.getD (IZ part i s).toNat default=s.leaves[(IZ part i s).toNat]:=by simp[hk]
 unfold RY;rw[e];exact h.lt _ (DC hk)
theorem Ns.At.step{part byl atl val:LI}{dim:Int}{i:Nat}{s:Ns}(h:s.At i)(hi:i<=100):(K2 part byl atl val dim i s).At (i+1):=by
 obtain⟨k0,k1,_⟩:=tN (part:=part) h hi;refine⟨?_,?_,?_⟩
 .simp only[K2,A2,DP,AV,BL,h.nl];omega
 .simp only[K2,A2,BJ,DL,AV,BL,h.ll];omega
 .intro x hx;simp only[K2,A4]at hx;rcases hx with(hx|hx)|hx
  .have:=h.lt x (vav hx)
   omega
  .have:=h.lt x (vaL hx)
   omega
  .simp only[AY,CD,C7]at hx;rcases hx with rfl|rfl
   .simp only[IV.toInt,ic,h.nl];omega
   .simp only[IV.toInt,ic,h.nl];omega
abbrev kN:List Kd:=[.bool,.z,.z,.z,.z,.z]
abbrev sI:KP:=⟨[1,2,4,5,6,7],[2,500,501],[⟨(.tmp 5),500,108,AC,[.bool,.z,.z,.z,.z,.z]⟩,⟨(.tmp 6),501,3,AD,[.z]⟩]⟩
abbrev jK(cl:Int)(part byl atl val:LI)(dim:Int)(s:Ns)(i:Int):St:=
 ⟨[(1,(.i dim)),(2,(.ptr 2 0 0)),(4,.zs),(5,(.row 500 0 s.nodes.length)),(6,(.row 501 0 s.leaves.length)),(7,(.i i))],[(2,(AA (.box [(.i cl),(.list AD [.z] part),(.list AD [.z] byl),(.list AD [.z] atl),(.list AD [.z] val)]))),(500,(AA (.row AC 108 AC kN s.nodes))),(501,(AA (.row AC 3 AD [.z] s.leaves)))]⟩
theorem zaZ(N:Nat):TI.bytes (Env.tyd (II N) 108)=48:=by rfl
theorem tv(N:Nat):TI.bytes (Env.tyd (II N) 3)=8:=by rfl
theorem zch(x a b c d e f:IV):LN AC kN x 0 [a,b,c,d,e,f]=.agg [a,b,c,d,e,f]:=rfl
set_option maxHeartbeats 4000000 in
theorem za1 (N:Nat) (cl:Int) (part byl atl val:LI) (dim:Int) (h1:1≤dim) (h4:dim≤4) (s:Ns) (i:Nat) (hs:s.At i) (hi:i < part.length) (h7:i < 7) (again:St→DW) (k:Out→St→DW) :
  E3 (II N) (DU NB [1,1,1,0,1,0,0]) (jK cl part byl atl val dim s (i:Int)) (ES again sI k)=again (jK cl part byl atl val dim (K2 part byl atl val dim i s) ((i+1:Nat):Int)):=by
 refine (Sb N dim s.nodes.length s.leaves.length i cl part byl atl val s.nodes s.leaves again k).trans ?_;obtain ⟨k0,k1,km⟩:=tN (part:=part) hs (by omega);obtain ⟨a0,a1⟩:=za7 (part:=part) hs (by omega);obtain ⟨dm,_,_⟩:=HZ (n:=0) (lo:=0) (hi:=dim - 1) (by omega) (by omega) (by omega);have eL:ic (s.leaves.length - 0)=ic s.leaves.length:=rfl;have eN:ic (s.nodes.length - 0)=ic s.nodes.length:=rfl;have hL:ic s.leaves.length=((i+1:Nat):Int):=by rw [hs.ll]
 have hN:ic s.nodes.length=((2*i+1:Nat):Int):=by rw [hs.nl]
 have w1:IntKind.wrap IntKind.i64 (ic s.leaves.length - 1)=ic s.leaves.length - 1:=ER (by rw [hL]; omega) (by rw [hL]; omega);have w2:IntKind.wrap IntKind.i64 (dim - 1)=dim - 1:=ER (by omega) (by omega);have w3:IntKind.wrap IntKind.i64 (2*(i:Int))=2*(i:Int):=ER (by omega) (by omega);have w4:IntKind.wrap IntKind.i64 (2*(i:Int)+1)=2*(i:Int)+1:=ER (by omega) (by omega);have w5:IntKind.wrap IntKind.i64 (2*(i:Int)+2)=2*(i:Int)+2:=ER (by omega) (by omega);have w6:IntKind.wrap IntKind.i64 (ic s.nodes.length+1)=ic s.nodes.length+1:=ER (by rw [hN]; omega) (by rw [hN]; omega);rw [eL,eN,w1,w2,w3,w4,w5,w6,Int.toNat_natCast];have eK:D2 (IV.toInt (List.getD part i default)) 0 (ic s.leaves.length - 1)=IZ part i s:=rfl;rw [eK];have w7:IntKind.wrap IntKind.i64 (IZ part i s+1)=IZ part i s+1:=ER (by omega) (by omega);rw [w7];have e0:∀ n:Nat,0+n=n:=Nat.zero_add;simp only [e0];have eA:IV.toInt (List.getD s.leaves (IZ part i s).toNat default)=RY part i s:=rfl;rw [eA,zaZ,tv];obtain ⟨q,hq⟩:∃ q:Nat,IZ part i s=q:=⟨(IZ part i s).toNat,by omega⟩;have eq1:(IZ part i s+1).toNat=q+1:=by omega
 have eq0:(IZ part i s).toNat=q:=by omega
 have hq1:q < i+1:=by omega
 have lt2:∀ x y:IV,(List.drop 0 (List.take 2 [x,y]))=[x,y]:=fun _ _=>rfl
 have lk:List.drop 0 (List.take q s.leaves)=List.take q s.leaves:=List.drop_zero;have lk2:List.drop (q+1) (List.take (s.leaves.length - 0) s.leaves)=List.drop (q+1) s.leaves:=by rw [Nat.sub_zero,List.take_length]
 rw [eq1,eq0,lt2,lt2,lk,lk2];have zA:(List.take q s.leaves).length=q:=by rw [List.length_take,hs.ll]; omega
 have zB:(List.drop (q+1) s.leaves).length=i - q:=by rw [List.length_drop,hs.ll]; omega
 rw [zA,zB];simp only [List.length_cons,List.length_nil];rw [decide_eq_true (show (i:Int) < ic part.length by simp only [ic]; omega),decide_eq_true (show (i:Int) < 7 by omega),decide_eq_true (show 0≤(i:Int) by omega),km,decide_eq_false (show ¬ ((i+1:Nat):Int)=0 by omega),
  decide_eq_true k0,decide_eq_true (show IZ part i s < ic s.leaves.length by rw [hL]; exact k1),dm,decide_eq_false (show ¬ (dim - 1 - 0+1=0) by omega),decide_eq_true a0,decide_eq_true (show RY part i s < ic s.nodes.length by rw [hN]; exact a1),
  decide_eq_true (show 0≤2*(i:Int)+1 by omega),decide_eq_true (show 0≤2*(i:Int)+2 by omega),decide_eq_true (show (s.nodes.length+(0+1+1))*48≤EM by rw [hs.nl]; unfold EM; omega),
  decide_eq_true (show IZ part i s≤ic s.leaves.length by rw [hL]; omega),decide_eq_true (show q*8≤EM by unfold EM; omega),decide_eq_true (show 0≤IZ part i s+1 by omega),decide_eq_true (show IZ part i s+1≤ic s.leaves.length by rw [hL]; omega),
  decide_eq_true (show (q+(i - q))*8≤EM by unfold EM; omega),decide_eq_true (show (q+(i - q)+(0+1+1))*8≤EM by unfold EM; omega)]
 simp only [Bool.and_true,DS,DT];have g1:(K2 part byl atl val dim i s).nodes.length=s.nodes.length+(0+1+1):=by rw [(hs.step (by omega)).nl,hs.nl]; omega
 have g2:(K2 part byl atl val dim i s).leaves.length=q+(i - q)+(0+1+1):=by rw [(hs.step (by omega)).ll]; omega
 have g3:(K2 part byl atl val dim i s).nodes=List.take s.nodes.length (List.set s.nodes (RY part i s).toNat (LN true kN (List.getD s.nodes (RY part i s).toNat default) 0 [IV.bool false,IV.int 0,IV.int (D2 (E0 byl (i:Int)) 0 (dim - 1)),IV.int (D2 (E0 atl (i:Int)) 0 9),IV.int (ic s.nodes.length),IV.int (ic s.nodes.length+1)])) ++
   [IV.agg [IV.bool true,IV.int (D2 (E0 val (2*(i:Int)+1)) (-3000) 3000),IV.int 0,IV.int 0,IV.int 0,IV.int 0],IV.agg [IV.bool true,IV.int (D2 (E0 val (2*(i:Int)+2)) (-3000) 3000),IV.int 0,IV.int 0,IV.int 0,IV.int 0]]:=by
  rw [zch,List.take_of_length_le (by rw [List.length_set]; exact Nat.le_refl _)];rfl
 have g4:(K2 part byl atl val dim i s).leaves=List.take (q+(i - q)) (List.take q (List.take 0 []++List.take q s.leaves)++List.drop (q+1) s.leaves)++[IV.int (ic s.nodes.length),IV.int (ic s.nodes.length+1)]:=by
  rw [List.take_zero,List.nil_append,List.take_take,Nat.min_self,List.take_of_length_le (by rw [List.length_append,zA,zB]; exact Nat.le_refl _)];show List.take (IZ part i s).toNat s.leaves++List.drop ((IZ part i s).toNat+1) s.leaves++_=_;rw [eq0]
 rw [show jK cl part byl atl val dim (K2 part byl atl val dim i s) ((i+1:Nat):Int)=⟨[(1,(.i dim)),(2,(.ptr 2 0 0)),(4,.zs),(5,(.row 500 0 (K2 part byl atl val dim i s).nodes.length)),(6,(.row 501 0 (K2 part byl atl val dim i s).leaves.length)),(7,(.i ((i+1:Nat):Int)))],[(2,(some (.box [(.i cl),(.list false [.z] part),(.list false [.z] byl),(.list false [.z] atl),(.list false [.z] val)]))),(500,(some (.row true 108 true kN (K2 part byl atl val dim i s).nodes))),(501,(some (.row true 3 false [.z] (K2 part byl atl val dim i s).leaves)))]⟩ from rfl,g1,g2,g3,g4,GQ (by omega)]
theorem Ke(N:Nat)(cl:Int)(part byl atl val:LI)(dim:Int)(h1:1<=dim)(h4:dim<=4)(K:Out->St->DW):∀(d i n:Nat) (s:Ns),i+d=min part.length 7->d<n->s.At i->
  (∃j,D7 (II N) (DU NB [1,1,1,0,1,0,0]) sI n (jK cl part byl atl val dim s (i:Int)) K=K (.exit 0) (jK cl part byl atl val dim (aS part byl atl val dim d i s) j))/\(aS part byl atl val dim d i s).At (i+d)
 |0,i,n+1,s,hd,hn,hs=>by
  refine⟨⟨(i:Int),?_⟩,hs⟩;rw[ED];refine(Sb N dim s.nodes.length s.leaves.length i cl part byl atl val s.nodes s.leaves _ _).trans ?_;by_cases hp:i<part.length
  .rw[AL (show(i:Int)<ic part.length by simp only[ic];omega),DS,AS (show¬(i:Int)<7 by omega),DT];rfl
  .rw[AS (show¬(i:Int)<ic part.length by simp only[ic];omega),DT];rfl
 |d+1,i,n+1,s,hd,hn,hs=>by
  obtain⟨⟨j,ih⟩,ih2⟩:=Ke N cl part byl atl val dim h1 h4 K d (i+1) n (K2 part byl atl val dim i s) AG AG (hs.step AG);refine⟨⟨j,?_⟩,by rw[show i+(d+1)=i+1+d by omega];exact ih2⟩;rw[ED,za1 N cl part byl atl val dim h1 h4 s i hs AG AG];exact ih
 |_,_,0,_,_,h,_=>by omega
theorem zfH(N:Nat):TI.bytes (Env.tyd (II N) 106)=8:=by rfl
abbrev Hm:KP:=⟨[4,11,100,101,102],[500,502],[⟨(.tmp 11),502,106,AD,[(.int .u64)]⟩]⟩
theorem Ku(N:Nat)(L:LI)(hL:L.length<=1000):∀(d i n:Nat) (O:LI),i+d=L.length->d<n->O.length=i->
  D7 (II N) (DU NB [1,1,1,1,1,0,1,0,0]) Hm n ⟨[(4,.zs),(11,(.row 502 0 O.length)),(100,(.row 500 0 L.length)),(101,(.i (ic (L.length-0)))),(102,(.i (i:Int)))],[(500,(AA (.row AC 108 AC kN L))),(502,(AA (.row AC 106 AD [(.int .u64)] O)))]⟩
   (DZ 2 (D1 (II N) (DU NB [1,1,1,1,1,1]) (D4 (II N) AB [(B9 4)] [[(.list AD [(.int .u64)])]])))=AA (.list AD [.int .u64] (O++(L.drop i).map TR),[])
 |0,i,n+1,O,hd,hn,hO=>by
  rw[ED];refine(Sc N O.length L.length (ic (L.length-0)) i L O _ _).trans ?_;rw[AS (show¬(i:Int)<ic (L.length-0) by simp only[ic];omega),DT];refine(il N O.length L.length (ic (L.length-0)) i L O).trans ?_;rw[CA,BW,C1 AG,CN,vad]
 |d+1,i,n+1,O,hd,hn,hO=>by
  have hi:i<L.length:=by omega
  rw[ED];refine(Sc N O.length L.length (ic (L.length-0)) i L O _ _).trans ?_;have ih:=Ku N L hL d (i+1) n (O++[TR L[i]]) AG AG (by simp[hO]);have l1:∀x:IV,A3 0 (AU 1 [x])=[x]:=λ_=>rfl
  have eg:AQ L (0+AM (i:Int)) default=L[i]:=by rw[BS,BH];simp[hi]
  rw[AL (show(i:Int)<ic (L.length-0) by simp only[ic];omega),AL (show 0<=(i:Int) by omega),CJ,DS,DS,eg,l1,zfH,DD,AL (show(O.length+1)*8<=EM by rw[hO];unfold EM;omega),DS,BW,GQ AG];rw[BD hi,A8];rw[A2,DD,vax]at ih;exact ih
 |_,_,0,_,_,h,_=>by omega
theorem zdM:D9 PR B0 36 c9:=by
 refine EJ [(32,OI),(35,ST),(74,SX)] [(4,sI),(14,Hm)] c9 [[.list AD [.int .u64]]] Tryz.func36 oj
  ⟨jF,wE,wI,trivial⟩ ?_
 intro vs r hwf h;unfold c9 at h;split at h
 .rename_i cl part byl atl val dim;cases hc:(AE (1<=dim)&&AE (dim<=4))with
  |false=>rw[hc]at h;simp[R.get]at h
  |true=>
   rw[hc,R.get_br,DS,R.get_ok]at h;simp only[AP,AW]at hc;refine⟨30,?_⟩;rw[<-h];refine(xn 30 cl part byl atl val dim).trans ?_;have h0:(⟨[MS (D2 (E0 val 0) (-3000) 3000)],[.int 0]⟩:Ns).At 0:=⟨rfl,rfl,λx hx=>by
    rw[B7]at hx;subst hx;exact⟨by decide,by decide⟩⟩
   obtain⟨⟨j,run⟩,hat⟩:=Ke 30 cl part byl atl val dim hc.1 hc.2 (DZ 0 (D1 (II 30) (DU NB [1,1,1,1]) (D4 (II 30) AB [(B9 4)] [[(.list AD [(.int .u64)])]]))) (min part.length 7) 0 30 _ AG AG h0;refine run.trans ?_;have e:aS part byl atl val dim (min part.length 7) 0 ⟨[MS (D2 (E0 val 0) (-3000) 3000)],[.int 0]⟩=PY part byl atl val dim:=rfl;rw[e]at hat ⊢;have hn:=hat.nl;refine(ik 30 dim (PY part byl atl val dim).nodes.length (PY part byl atl val dim).leaves.length j cl part byl atl val (PY part byl atl val dim).nodes (PY part byl atl val dim).leaves).trans ?_
   have:=Ku 30 (PY part byl atl val dim).nodes AG (PY part byl atl val dim).nodes.length 0 30 [] AG AG rfl
   rw[CA,DK]at this;exact this
 .simp[R.get]at h
open Go Go.Proofs
def J2(N:Nat):Env:=EI [(32,OI),(36,c9),(35,ST)] [(3,⟨[1,2,3,14,15],[1,2,3],[]⟩),(8,⟨[1,2,3,5],[1,2,3,500],[⟨.cell 3 5,500,85,AC,[.z,.list AD [.int .u64]]⟩]⟩)] 63 N
abbrev V4(x14 x15 u02 u03:Int)(u00 u01:LI)(u04 u05 u06 u07 u08 u09 u0a u0b u0c u0d:Int):St:=⟨[(1,(.ptr 1 0 0)),(2,(.ptr 2 0 0)),(3,(.ptr 3 0 0)),(14,(.i x14)),(15,(.i x15))],[(1,(AA (.box [.i u02,.i u03,.list AD [.z] u00,.list AC [.z,.list AD [.z],.list AD [.z],.list AD [.z],.list AD [.z]] u01]))),(2,(AA (.box [.i u04,.i u05,.i u06,.i u07,.i u08,.zs]))),(3,(AA (.box [.i u09,.i u0a,.i u0b,.i u0c,.i u0d,.zs])))]⟩
abbrev Y3(x5 u04 u05:Int)(u00 u01:LI)(u06 u07 u08 u09 u0a u0b u0c u0d u0e u0f:Int)(u03:Nat)(u02:LI):St:=⟨[(1,(.ptr 1 0 0)),(2,(.ptr 2 0 0)),(3,(.ptr 3 0 0)),(5,(.i x5))],[(1,(AA (.box [.i u04,.i u05,.list AD [.z] u00,.list AC [.z,.list AD [.z],.list AD [.z],.list AD [.z],.list AD [.z]] u01]))),(2,(AA (.box [.i u06,.i u07,.i u08,.i u09,.i u0a,.zs]))),(3,(AA (.box [.i u0b,.i u0c,.i u0d,.i u0e,.i u0f,.row 500 0 u03]))),(500,(AA (.row AC 85 AC [.z,.list AD [.int .u64]] u02)))]⟩
theorem xk(N:Nat)(u02 u01:Int)(u00 u03:LI):EB (J2 N) NX [.cell 2 31] [[.z,.z,.z,.z,.z,.list AC [.z,.list AD [.int .u64]]]] [.agg [.i u02,.i u01,.list AD [.z] u00,.list AC [.z,.list AD [.z],.list AD [.z],.list AD [.z],.list AD [.z]] u03]]=(D7 (J2 N) (DU NX [1,1,0,1,0,0]) ⟨[1,2,3,14,15],[1,2,3],[]⟩ N (V4 (D2 u01 1 3) 0 u02 u01 u00 u03 0 0 0 0 0 (D2 u02 1 3) (D2 u01 1 3) 0 0 0) (DZ 0 (D1 (J2 N) (DU NX [1,1,1]) (D4 (J2 N) AB [.cell 2 31] [[.z,.z,.z,.z,.z,.list AC [.z,.list AD [.int .u64]]]])))):=AF
theorem Ry(N:Nat)(x14 x15 u02 u03:Int)(u00 u01:LI)(u04 u05 u06 u07 u08 u09 u0a u0b u0c u0d:Int)(again:St->DW)(k:Out->St->DW):E3 (J2 N) (DU NX [1,1,0,1,0,0]) (V4 x14 x15 u02 u03 u00 u01 u04 u05 u06 u07 u08 u09 u0a u0b u0c u0d) (ES again ⟨[1,2,3,14,15],[1,2,3],[]⟩ k)=(cond (AE (x15<x14)) (cond (AE (0<=x15)) (cond (AE (x15=ic 0)) (again (V4 x14 (AI AJ (x15+1)) u02 u03 u00 u01 u04 u05 u06 u07 u08 u09 u0a (D2 (E0 u00 x15) (-500) 500) u0c u0d)) (cond (AE (x15=ic 1)) (again (V4 x14 (AI AJ (x15+1)) u02 u03 u00 u01 u04 u05 u06 u07 u08 u09 u0a u0b (D2 (E0 u00 x15) (-500) 500) u0d)) (cond (AE (x15=ic 2)) (again (V4 x14 (AI AJ (x15+1)) u02 u03 u00 u01 u04 u05 u06 u07 u08 u09 u0a u0b u0c (D2 (E0 u00 x15) (-500) 500))) AB))) AB) (k (.exit 0) (V4 x14 x15 u02 u03 u00 u01 u04 u05 u06 u07 u08 u09 u0a u0b u0c u0d))):=AF
theorem ig(N:Nat)(x14 x15 u02 u03:Int)(u00 u01:LI)(u04 u05 u06 u07 u08 u09 u0a u0b u0c u0d:Int):(DZ 0 (D1 (J2 N) (DU NX [1,1,1]) (D4 (J2 N) AB [.cell 2 31] [[.z,.z,.z,.z,.z,.list AC [.z,.list AD [.int .u64]]]]))) (.exit 0) (V4 x14 x15 u02 u03 u00 u01 u04 u05 u06 u07 u08 u09 u0a u0b u0c u0d)=(D7 (J2 N) (DU NX [1,1,1,0,1,0,0]) ⟨[1,2,3,5],[1,2,3,500],[⟨(.cell 3 5),500,85,AC,[.z,.list AD [.int .u64]]⟩]⟩ N (Y3 0 u02 u03 u00 u01 u04 u05 u06 u07 u08 u09 u0a u0b u0c u0d 0 []) (DZ 2 (D1 (J2 N) (DU NX [1,1,1,1]) (D4 (J2 N) AB [.cell 2 31] [[.z,.z,.z,.z,.z,.list AC [.z,.list AD [.int .u64]]]])))):=AF
theorem Rz(N:Nat)(x5 u04 u05:Int)(u00 u01:LI)(u06 u07 u08 u09 u0a u0b u0c u0d u0e u0f:Int)(u03:Nat)(u02:LI)(again:St->DW)(k:Out->St->DW):E3 (J2 N) (DU NX [1,1,1,0,1,0,0]) (Y3 x5 u04 u05 u00 u01 u06 u07 u08 u09 u0a u0b u0c u0d u0e u0f u03 u02) (ES again ⟨[1,2,3,5],[1,2,3,500],[⟨(.cell 3 5),500,85,AC,[.z,.list AD [.int .u64]]⟩]⟩ k)=(cond (AE (x5<ic (AN u01))) (cond (AE (x5<4)) (cond (AE (0<=x5)&&AE (x5<ic (AN u01))) (cond (AE (MB 0 (AI AJ (u0c-1))=0)) AB (cond (AE (0<=x5)&&AE (x5<ic (AN u01))) (cond (AE (1<=u0b)&&AE (u0b<=4)) (cond (AE ((u03+AN (A3 0 (AU 1 [IV.agg [IV.int (D2 (IV.toInt (IV.cell (AQ u01 (AM x5) default) 0)) 0 (AI AJ (u0c-1))),IV.list (NI (IV.toList (IV.cell (AQ u01 (AM x5) default) 1)) (IV.toList (IV.cell (AQ u01 (AM x5) default) 2)) (IV.toList (IV.cell (AQ u01 (AM x5) default) 3)) (IV.toList (IV.cell (AQ u01 (AM x5) default) 4)) u0b)]])))*TI.bytes (Env.tyd (J2 N) 85)<=EM)) (again (Y3 (AI AJ (x5+1)) u04 u05 u00 u01 u06 u07 u08 u09 u0a u0b u0c u0d u0e u0f (u03+AN (A3 0 (AU 1 [IV.agg [IV.int (D2 (IV.toInt (IV.cell (AQ u01 (AM x5) default) 0)) 0 (AI AJ (u0c-1))),IV.list (NI (IV.toList (IV.cell (AQ u01 (AM x5) default) 1)) (IV.toList (IV.cell (AQ u01 (AM x5) default) 2)) (IV.toList (IV.cell (AQ u01 (AM x5) default) 3)) (IV.toList (IV.cell (AQ u01 (AM x5) default) 4)) u0b)]]))) (AU u03 u02++A3 0 (AU 1 [IV.agg [IV.int (D2 (IV.toInt (IV.cell (AQ u01 (AM x5) default) 0)) 0 (AI AJ (u0c-1))),IV.list (NI (IV.toList (IV.cell (AQ u01 (AM x5) default) 1)) (IV.toList (IV.cell (AQ u01 (AM x5) default) 2)) (IV.toList (IV.cell (AQ u01 (AM x5) default) 3)) (IV.toList (IV.cell (AQ u01 (AM x5) default) 4)) u0b)]])))) AB) AB) AB)) AB) (k (.exit 2) (Y3 x5 u04 u05 u00 u01 u06 u07 u08 u09 u0a u0b u0c u0d u0e u0f u03 u02))) (k (.exit 2) (Y3 x5 u04 u05 u00 u01 u06 u07 u08 u09 u0a u0b u0c u0d u0e u0f u03 u02))):=AF
theorem ii(N:Nat)(x5 u04 u05:Int)(u00 u01:LI)(u06 u07 u08 u09 u0a u0b u0c u0d u0e u0f:Int)(u03:Nat)(u02:LI):(DZ 2 (D1 (J2 N) (DU NX [1,1,1,1]) (D4 (J2 N) AB [.cell 2 31] [[.z,.z,.z,.z,.z,.list AC [.z,.list AD [.int .u64]]]]))) (.exit 2) (Y3 x5 u04 u05 u00 u01 u06 u07 u08 u09 u0a u0b u0c u0d u0e u0f u03 u02)=(AA (.agg [.i u0b,.i u0c,.i u0d,.i u0e,.i u0f,.list AC [.z,.list AD [.int .u64]] (A3 0 (AU u03 u02))],[])):=AF
open Go Go.Proofs
abbrev uf:List Kd:=[.z,(.list AD [.z]),(.list AD [.z]),(.list AD [.z]),(.list AD [.z])]
def bF(bias:LI)(j:Int):Int:=D2 (E0 bias j) (-500) 500
abbrev pJ(d c:Int)(bias ts:LI):Ob:=.box [(.i d),(.i c),(.list AD [.z] bias),(.list AC uf ts)]
abbrev pL:Ob:=.box [(.i 0),(.i 0),(.i 0),(.i 0),(.i 0),.zs]
abbrev Rk(d c:Int)(bias ts:LI)(D C:Int)(i:Nat)(x:Int):St:=
 ⟨[(1,(.ptr 1 0 0)),(2,(.ptr 2 0 0)),(3,(.ptr 3 0 0)),(14,(.i C)),(15,(.i x))],[(1,(AA (pJ d c bias ts))),(2,(AA pL)),(3,(AA (.box [(.i D),(.i C),(.i (cond (BV 0 i) (bF bias 0) 0)),(.i (cond (BV 1 i) (bF bias 1) 0)),(.i (cond (BV 2 i) (bF bias 2) 0)),.zs])))]⟩
theorem zF(N:Nat)(d c:Int)(bias ts:LI)(D:Int)(C:Nat)(hC:C<=3)(K:Out->St->DW):∀(m i n:Nat),i+m=C->m<n->
  D7 (J2 N) (DU NX [1,1,0,1,0,0]) ⟨[1,2,3,14,15],[1,2,3],[]⟩ n (Rk d c bias ts D C i (i:Int)) K=K (.exit 0) (Rk d c bias ts D C C (C:Int))
 |0,i,n+1,hd,hn=>by
  have hi:i=C:=by omega
  subst hi;rw[ED];refine(Ry N i i d c bias ts 0 0 0 0 0 D i (cond (BV 0 i) (bF bias 0) 0) (cond (BV 1 i) (bF bias 1) 0) (cond (BV 2 i) (bF bias 2) 0) _ _).trans ?_;rw[AS (show¬(i:Int)<(i:Int) by omega),DT]
 |m+1,i,n+1,hd,hn=>by
  rw[ED];refine(Ry N C i d c bias ts 0 0 0 0 0 D C (cond (BV 0 i) (bF bias 0) 0) (cond (BV 1 i) (bF bias 1) 0) (cond (BV 2 i) (bF bias 2) 0) _ _).trans ?_;have ih:=zF N d c bias ts D C hC K m (i+1) n AG AG;rw[AL (show(i:Int)<(C:Int) by omega),DS,AL (show 0<=(i:Int) by omega),DS,GQ AG];have hi4:i=0\/i=1\/i=2:=by omega
  rcases hi4 with rfl|rfl|rfl
  .rw[show AE (((0:Nat):Int)=ic 0)=AC from rfl,DS];exact ih
  .rw[show AE (((1:Nat):Int)=ic 0)=AD from rfl,show AE (((1:Nat):Int)=ic 1)=AC from rfl,DT,DS];exact ih
  .rw[show AE (((2:Nat):Int)=ic 0)=AD from rfl,show AE (((2:Nat):Int)=ic 1)=AD from rfl,show AE (((2:Nat):Int)=ic 2)=AC from rfl,DT,DT,DS];exact ih
 |_,_,0,_,h=>by omega
abbrev lW:List Kd:=[.z,(.list AD [(.int .u64)])]
abbrev Hl:KP:=⟨[1,2,3,5],[1,2,3,500],[⟨(.cell 3 5),500,85,AC,[.z,(.list AD [(.int .u64)])]⟩]⟩
abbrev wS(d c:Int)(bias ts:LI)(D C b0 b1 b2:Int)(O:LI)(x:Int):St:=
 ⟨[(1,(.ptr 1 0 0)),(2,(.ptr 2 0 0)),(3,(.ptr 3 0 0)),(5,(.i x))],[(1,(AA (pJ d c bias ts))),(2,(AA pL)),(3,(AA (.box [(.i D),(.i C),(.i b0),(.i b1),(.i b2),(.row 500 0 O.length)]))),(500,(AA (.row AC 85 AC lW O)))]⟩
def YT(D C:Int)(t:IV):IV:=.agg [.int (D2 (t.cell 0).toInt 0 (C-1)),.list (NI (t.cell 1).toList (t.cell 2).toList (t.cell 3).toList (t.cell 4).toList D)]
theorem zfz(N:Nat):TI.bytes (Env.tyd (J2 N) 85)=32:=by rfl
theorem Us(N:Nat)(d c:Int)(bias ts:LI)(D C b0 b1 b2:Int)(hD:1<=D/\D<=4)(hC:1<=C/\C<=3):∀(m i n:Nat) (O:LI),i+m=min ts.length 4->m<n->O.length=i->
  D7 (J2 N) (DU NX [1,1,1,0,1,0,0]) Hl n (wS d c bias ts D C b0 b1 b2 O (i:Int)) (DZ 2 (D1 (J2 N) (DU NX [1,1,1,1]) (D4 (J2 N) AB [(vbm 2 31)] [[.z,.z,.z,.z,.z,(.list AC [.z,(.list AD [(.int .u64)])])]])))=
   AA (.agg [.i D,.i C,.i b0,.i b1,.i b2,.list AC lW (O++((ts.take 4).drop i).map (YT D C))],[])
 |0,i,n+1,O,hd,hn,hO=>by
  have fin:(DZ 2 (D1 (J2 N) (DU NX [1,1,1,1]) (D4 (J2 N) AB [(vbm 2 31)] [[.z,.z,.z,.z,.z,(.list AC [.z,(.list AD [(.int .u64)])])]]))) (.exit 2) (wS d c bias ts D C b0 b1 b2 O (i:Int))=AA (.agg [.i D,.i C,.i b0,.i b1,.i b2,.list AC lW (O++((ts.take 4).drop i).map (YT D C))],[]):=by
   refine(ii N i d c bias ts 0 0 0 0 0 D C b0 b1 b2 O.length O).trans ?_;rw[CA,BW,C1 (by rw[BJ];omega),CN,vad]
  rw[ED];refine(Rz N i d c bias ts 0 0 0 0 0 D C b0 b1 b2 O.length O _ _).trans ?_;by_cases hp:i<ts.length
  .rw[AL (show(i:Int)<ic ts.length by simp only[ic];omega),DS,AS (show¬(i:Int)<4 by omega),DT];exact fin
  .rw[AS (show¬(i:Int)<ic ts.length by simp only[ic];omega),DT];exact fin
 |m+1,i,n+1,O,hd,hn,hO=>by
  have hi:i<ts.length:=by omega
  rw[ED];refine(Rz N i d c bias ts 0 0 0 0 0 D C b0 b1 b2 O.length O _ _).trans ?_;have l1:∀x:IV,A3 0 (AU 1 [x])=[x]:=λ_=>rfl
  have eg:AQ ts (AM (i:Int)) default=ts[i]:=by rw[BH];simp[hi]
  have w1:AI AJ (C-1)=C-1:=ER AG AG;obtain⟨m1,_,_⟩:=HZ (n:=0) (lo:=0) (hi:=C-1) AG AG AG;have ih:=Us N d c bias ts D C b0 b1 b2 hD hC m (i+1) n (O++[YT D C ts[i]]) AG AG (by simp[hO]);rw[AL (show(i:Int)<ic ts.length by simp only[ic];omega),AL (show(i:Int)<4 by omega),AL (show 0<=(i:Int) by omega),w1,m1,AS (show¬(C-1-0+1=0) by omega),AL hD.1,AL hD.2,eg,l1,zfz,DD,
   AL (show(O.length+1)*32<=EM by rw[hO];unfold EM;omega),BW,GQ AG]
  simp only[CJ,DS,DT];have ed:(ts.take 4).drop i=ts[i]::(ts.take 4).drop (i+1):=by
   have h4:i<(ts.take 4).length:=by rw[BJ];omega
   rw[BD h4];congr 1;rw[List.getElem_take]
  rw[ed,A8];rw[vax]at ih;have eL:(O++[YT D C ts[i]]).length=O.length+1:=by simp
  rw[show wS d c bias ts D C b0 b1 b2 (O++[YT D C ts[i]]) ((i+1:Nat):Int)=⟨[(1,(.ptr 1 0 0)),(2,(.ptr 2 0 0)),(3,(.ptr 3 0 0)),(5,(.i ((i+1:Nat):Int)))],[(1,(AA (pJ d c bias ts))),(2,(AA pL)),(3,(AA (.box [(.i D),(.i C),(.i b0),(.i b1),(.i b2),(.row 500 0 (O++[YT D C ts[i]]).length)]))),(500,(AA (.row AC 85 AC lW (O++[YT D C ts[i]]))))]⟩from rfl,eL]at ih;exact ih
 |_,_,0,_,_,h,_=>by omega
theorem zdJ:D9 PR B0 7 j9:=by
 refine EJ [(32,OI),(36,c9),(35,ST)] [(3,⟨[1,2,3,14,15],[1,2,3],[]⟩),(8,Hl)] j9 [[.z,.z,.z,.z,.z,.list AC [.z,.list AD [.int .u64]]]] Tryz.func7 og
  ⟨jF,zdM,wE,trivial⟩ ?_
 intro vs r hwf h;unfold j9 at h;split at h
 .rename_i d c bias ts;refine⟨20,?_⟩;rw[R.get_ok]at h;rw[<-h];refine(xk 20 d c bias ts).trans ?_;obtain⟨_,d1,d2⟩:=HZ (n:=d) (lo:=1) (hi:=3) AG AG AG;obtain⟨_,c1,c2⟩:=HZ (n:=c) (lo:=1) (hi:=3) AG AG AG;unfold SF bP S4 LF OS;generalize D2 d 1 3=D at d1 d2;generalize D2 c 1 3=C' at c1 c2;obtain⟨C,rfl⟩:∃C:Nat,C'=C:=⟨C'.toNat,by omega⟩;refine(zF 20 d c bias ts D C AG _ C 0 20 AG AG).trans ?_;refine(ig 20 C C d c bias ts 0 0 0 0 0 D C (cond (BV 0 C) (bF bias 0) 0) (cond (BV 1 C) (bF bias 1) 0) (cond (BV 2 C) (bF bias 2) 0)).trans ?_;refine(Us 20 d c bias ts D C _ _ _ ⟨d1,by omega⟩ ⟨c1,by omega⟩ (min ts.length 4) 0 20 [] AG AG rfl).trans ?_;rw[CA,DK];have hC:C=1\/C=2\/C=3:=by omega
  rcases hC with rfl|rfl|rfl<;>rfl
 .simp[R.get]at h
open Go Go.Proofs
def RE(N:Nat):Env:=EI [] [(4,⟨[0,1,4,5],[],[]⟩)] 26 N
abbrev Q9(l0 l1:LI)(b4:Bool)(x5:Int):St:=⟨[(0,(.list AD [.str] l0)),(1,(.list AD [.str] l1)),(4,(.bool b4)),(5,(.i x5))],[]⟩
theorem xh(N:Nat)(a b:LI):EB (RE N) UX [.tmp 4] [[.bool]] [.list AD [.str] a,.list AD [.str] b]=(cond (ic (AN a)!=ic (AN b)) (AA (.bool AD,[])) (D7 (RE N) (DU UX [1,1,0,1,0,0]) ⟨[0,1,4,5],[],[]⟩ N (Q9 a b AD 0) (DZ 0 (D1 (RE N) (DU UX [1,1,1]) (D4 (RE N) AB [.tmp 4] [[.bool]]))))):=AF
theorem Rx(N:Nat)(l0 l1:LI)(b4:Bool)(x5:Int)(again:St->DW)(k:Out->St->DW):E3 (RE N) (DU UX [1,1,0,1,0,0]) (Q9 l0 l1 b4 x5) (ES again ⟨[0,1,4,5],[],[]⟩ k)=(cond (AE (x5<ic (AN l0))) (cond (AE (0<=x5)&&AE (x5<ic (AN l0))) (cond (AE (0<=x5)&&AE (x5<ic (AN l1))) (cond (!BY (IV.toStr (AQ l0 (AM x5) default))==BY (IV.toStr (AQ l1 (AM x5) default))) (k .ret (Q9 l0 l1 AD x5)) (again (Q9 l0 l1 b4 (AI AJ (x5+1))))) AB) AB) (k (.exit 0) (Q9 l0 l1 b4 x5))):=AF
theorem ia(N:Nat)(l0 l1:LI)(b4:Bool)(x5:Int):(DZ 0 (D1 (RE N) (DU UX [1,1,1]) (D4 (RE N) AB [.tmp 4] [[.bool]]))) (.exit 0) (Q9 l0 l1 b4 x5)=(AA (.bool AC,[])):=AF
theorem ib(N:Nat)(l0 l1:LI)(b4:Bool)(x5:Int):(DZ 0 (D1 (RE N) (DU UX [1,1,1]) (D4 (RE N) AB [.tmp 4] [[.bool]]))) .ret (Q9 l0 l1 b4 x5)=(AA (.bool b4,[])):=AF
def Wu(N:Nat):Env:=EI [(28,WQ),(52,c8),(29,S0),(27,WX),(13,S1)] [] 16 N
theorem xu(N:Nat):EB (Wu N) Ai [.tmp 0] [[.bool]] []=(AA (.bool AC,[])):=AF
open Go Go.Proofs
def Wr(N:Nat):Env:=EI [(74,SX)] [] 14 N
theorem xm(N:Nat):EB (Wr N) Af [.cell 0 31] [[.z,.z,.z,.z,.z,.list AC [.z,.list AD [.int .u64]]]] []=(AA (.agg [.i 1,.i 1,.i 3,.i 0,.i 0,.list AC G3 [(IV.agg [IV.int 0,IV.list [IV.int (HT AD 0 0 5 1 2),IV.int (HT AC 10 0 0 0 0),IV.int (HT AC 20 0 0 0 0)]])]],[])):=AF
def RD(N:Nat):Env:=EI [] [(4,⟨[0,1,4,5],[],[]⟩)] 26 N
abbrev V3(l0 l1:LI)(b4:Bool)(x5:Int):St:=⟨[(0,(.list AC EX l0)),(1,(.list AC EX l1)),(4,(.bool b4)),(5,(.i x5))],[]⟩
theorem xg(N:Nat)(a b:LI):EB (RD N) UW [.tmp 4] [[.bool]] [.list AC [.bool,.z,.z] a,.list AC [.bool,.z,.z] b]=(cond (ic (AN a)!=ic (AN b)) (AA (.bool AD,[])) (D7 (RD N) (DU UW [1,1,0,1,0,0]) ⟨[0,1,4,5],[],[]⟩ N (V3 a b AD 0) (DZ 0 (D1 (RD N) (DU UW [1,1,1]) (D4 (RD N) AB [.tmp 4] [[.bool]]))))):=AF
theorem Rw(N:Nat)(l0 l1:LI)(b4:Bool)(x5:Int)(again:St->DW)(k:Out->St->DW):E3 (RD N) (DU UW [1,1,0,1,0,0]) (V3 l0 l1 b4 x5) (ES again ⟨[0,1,4,5],[],[]⟩ k)=(cond (AE (x5<ic (AN l0))) (cond (AE (0<=x5)&&AE (x5<ic (AN l0))) (cond (AE (0<=x5)&&AE (x5<ic (AN l1))) (cond (! (IV.toBool (IV.cell (AQ l0 (AM x5) default) 0)==IV.toBool (IV.cell (AQ l1 (AM x5) default) 0)&&(IV.toInt (IV.cell (AQ l0 (AM x5) default) 1)==IV.toInt (IV.cell (AQ l1 (AM x5) default) 1)&&(IV.toInt (IV.cell (AQ l0 (AM x5) default) 2)==IV.toInt (IV.cell (AQ l1 (AM x5) default) 2)&&AC)))) (k .ret (V3 l0 l1 AD x5)) (again (V3 l0 l1 b4 (AI AJ (x5+1))))) AB) AB) (k (.exit 0) (V3 l0 l1 b4 x5))):=AF
theorem gy(N:Nat)(l0 l1:LI)(b4:Bool)(x5:Int):(DZ 0 (D1 (RD N) (DU UW [1,1,1]) (D4 (RD N) AB [.tmp 4] [[.bool]]))) (.exit 0) (V3 l0 l1 b4 x5)=(AA (.bool AC,[])):=AF
theorem gz(N:Nat)(l0 l1:LI)(b4:Bool)(x5:Int):(DZ 0 (D1 (RD N) (DU UW [1,1,1]) (D4 (RD N) AB [.tmp 4] [[.bool]]))) .ret (V3 l0 l1 b4 x5)=(AA (.bool b4,[])):=AF
def Ws(N:Nat):Env:=EI [(92,c6)] [] 38 N
theorem xp(N:Nat)(a b:Vd):EB (Ws N) Ag [.tmp 4] [[.bool]] [(Vd.V a),(Vd.V b)]=(cond (Vd.kind a==Vd.kind b) (cond (H3 (Vd.proof a) (Vd.proof b)) (cond (Vd.w0 a==Vd.w0 b&&(Vd.w1 a==Vd.w1 b&&(Vd.w2 a==Vd.w2 b&&(Vd.w3 a==Vd.w3 b&&AC)))) (cond (Vd.twin a==Vd.twin b) (AA (.bool (Vd.spent a==Vd.spent b),[])) (AA (.bool AD,[]))) (AA (.bool AD,[]))) (AA (.bool AD,[]))) (AA (.bool AD,[]))):=AF
open Go Go.Proofs
theorem Ok:∀{l m:LI},O7 l m=AC->l.length=m.length
 |[],[],_=>rfl
 |[],_::_,h=>by simp[O7]at h
 |_::_,[],h=>by simp[O7]at h
 |x::l,y::m,h=>by
  simp only[O7,AP]at h;simp[Ok h.2]
theorem Ol(N:Nat)(l m:LI)(K:Out->St->DW)(hlm:l.length=m.length)(hl:l.length<=strMax)
  (hx:∀x,K (.exit 0) (Q9 l m AD x)=AA (.bool AC,[])) (hr:∀x,K .ret (Q9 l m AD x)=AA (.bool AD,[])):
  ∀(d i n:Nat),i+d=l.length->d<n->D7 (RE N) (DU UX [1,1,0,1,0,0]) ⟨[0,1,4,5],[],[]⟩ n (Q9 l m AD (i:Int)) K=AA (.bool (O7 (l.drop i) (m.drop i)),[])
 |0,i,n+1,hd,_=>by
  rw[ED,Rx,I6 AG,C1 AG,C1 AG,DT];exact hx _
 |d+1,i,n+1,hd,hn=>by
  have hi:i<l.length:=by omega
  have hm:i<m.length:=by omega
  have hl':=hl;unfold strMax at hl';rw[ED,Rx,H0 hi,H0 hm,IG,GQ AG,IK hi,IK hm,BD hi,BD hm];simp only[DS,CJ,O7];cases(l[i].toStr.toList==m[i].toStr.toList)with
  |false=>
   rw[BG,DS,BP];exact hr _
  |true=>
   rw[A9,DT,BE];exact Ol N l m K hlm hl hx hr d (i+1) n AG AG
 |0,_,0,_,h=>by omega
 |_+1,_,0,_,h=>by omega
theorem Pm:D9 PR B0 28 WQ:=by
 refine EJ [] [(4,⟨[0,1,4,5],[],[]⟩)] WQ [[.bool]] Tryz.func28 oc trivial ?_;intro vs r hwf h;unfold WQ at h;split at h
 .rename_i l m;rw[R.get_ok]at h;refine⟨l.length+1,(xh _ l m).trans ?_⟩;rw[<-h];have hl:=(hwf (by simp[K4])).1;simp only[QC,wfL]at hl;by_cases hlm:l.length=m.length
  .have e:(ic l.length !=ic m.length)=AD:=by simp[ic,hlm]
   rw[e,DT]
   have:=Ol (l.length+1) l m _ hlm hl.1 (λx=>ia (l.length+1) l m AD x) (λx=>ib (l.length+1) l m AD x) l.length 0 (l.length+1) AG AG
   rw[CA,CA]at this;exact this
  .have e:(ic l.length !=ic m.length)=AC:=by simp[ic];omega
   rw[e]
   have:O7 l m=AD:=by
    cases hs:O7 l m with
    |false=>rfl
    |true=>exact absurd (Ok hs) hlm
   rw[this];rfl
 .simp[R.get]at h
theorem zdL:D9 PR B0 52 c8:=by
 refine EJ [(74,SX)] [] c8 [[.z,.z,.z,.z,.z,.list AC [.z,.list AD [.int .u64]]]] Tryz.func52 oi ⟨wI,trivial⟩ ?_;intro vs r hwf h;unfold c8 at h;split at h
 .skip
  rw[R.get_ok]at h;refine⟨0,(xm 0).trans ?_⟩;rw[<-h];rfl
 .simp[R.get]at h
theorem zdP:D9 PR B0 30 dC:=by
 refine EJ [(28,WQ),(52,c8),(29,S0),(27,WX),(13,S1)] [] dC [[.bool]] Tryz.func30 oq ⟨Pm,zdL,wL,Pu,wO,trivial⟩ ?_;intro vs r hwf h;unfold dC at h;split at h
 .skip
  rw[R.get_ok]at h;refine⟨0,(xu 0).trans ?_⟩;rw[<-h]
 .simp[R.get]at h
open Go Go.Proofs
open Go Go.Proofs
theorem zdo:D9 PR B0 7 fO:=Snd.mono zdJ λ_ _ h=>Zg h
theorem zdn:D9 PR B0 9 fN:=Snd.mono zdI λ_ _ h=>Zh h
open Go
theorem aV{n:Nat}(h:n<18446744073709551616):(A0 64 (n:Int)).toNat=n:=by
 rw[BitVec.toNat_ofInt]
 have:((n:Int)%((2^64:Nat):Int)).toNat=n:=by
  rw[Int.emod_eq_of_lt AG AG];exact BH n
 exact this
theorem SG{n:Nat}(h:n<18446744073709551616):GT (n:Int)=(n:Int):=by
 unfold GT;rw[Q4];omega
theorem o0{x y:Nat}(hx:x<18446744073709551616)(hy:y<18446744073709551616):GI (x:Int) (y:Int)=((x&&&y:Nat):Int):=by
 unfold GI;rw[show AT AO=64 from rfl,BitVec.toNat_and,aV hx,aV hy];exact SG (Nat.lt_of_le_of_lt Nat.and_le_left hx)
theorem TQ{x y:Nat}(hx:x<18446744073709551616)(hy:y<18446744073709551616):YF (x:Int) (y:Int)=((x|||y:Nat):Int):=by
 unfold YF;rw[show AT AO=64 from rfl,BitVec.toNat_or,aV hx,aV hy];exact SG (Nat.or_lt_two_pow (n:=64) hx hy)
theorem Zk{x y a:Nat}(ha:a<=64)(hx:x<2^a)(hy:y*2^a<18446744073709551616):fV (x:Int) ((y*2^a:Nat):Int)=(x:Int):=by
 have hx':x<18446744073709551616:=CY hx (vaS AG ha);unfold fV;have e:(A0 (AT AO) (x:Int)&&& ~~~ (A0 (AT AO) ((y*2^a:Nat):Int))).toNat=x:=by
  rw[show AT AO=64 from rfl];apply Nat.eq_of_testBit_eq;intro i;rw[BitVec.toNat_and,Nat.testBit_and,aV hx'];by_cases hi:i<a
  .have h1:(~~~ (A0 64 ((y*2^a:Nat):Int))).toNat.testBit i=AC:=by
    rw[<-BitVec.getLsbD,BitVec.getLsbD_not];have h2:(A0 64 ((y*2^a:Nat):Int)).getLsbD i=AD:=by
     rw[BitVec.getLsbD,aV hy,Nat.mul_comm,Nat.testBit_two_pow_mul];simp[Nat.not_le.2 hi]
    rw[h2];simp;omega
   rw[h1,CJ]
  .have h1:x.testBit i=AD:=Nat.testBit_lt_two_pow (CY hx (vaS AG AG));rw[h1,BP]
 rw[e];exact SG hx'
theorem VR{y a:Nat}(hy:y*2^a<18446744073709551616):OC (y:Int) a=((y*2^a:Nat):Int):=by
 unfold OC;rw[show((y:Int)*2^a)=((y*2^a:Nat):Int) by push_cast;rfl];exact SG hy
theorem YG{x y a:Nat}(hx:x<2^a):x|||y*2^a=x+y*2^a:=by
 rw[Nat.or_comm,Nat.mul_comm,<-Nat.two_pow_add_eq_or_of_lt hx,Nat.add_comm]
theorem uX{x y a w:Nat}(haw:a+w<=64)(hx:x<2^a)(hy:y<2^w)(hM:OY (w:Int)=((2^w-1:Nat):Int)):K5 (x:Int) (a:Int) (w:Int) (y:Int)=((x+y*2^a:Nat):Int):=by
 have hp:∀z,z<2^w->z*2^a<18446744073709551616:=λz hz=>by
  have h1:z*2^a<2^w*2^a:=Nat.mul_lt_mul_of_pos_right hz (Nat.two_pow_pos a);rw[<-Nat.pow_add]at h1;exact CY h1 (show 2^(w+a)<=2^64 from vaS AG AG)
 have hm:(2^w-1)<2^w:=Nat.sub_lt (Nat.two_pow_pos w) AG;have hx':x<18446744073709551616:=CY hx (show 2^a<=2^64 from vaS AG AG);unfold K5;rw[hM,BH,VR (hp _ hm),VR (hp _ hy),Zk AG hx (hp _ hm),o0 (hp _ hy) (hp _ hm)];have e:y*2^a&&&(2^w-1)*2^a=y*2^a:=by
  rw[<-Nat.shiftLeft_eq,<-Nat.shiftLeft_eq,<-Nat.shiftLeft_and_distrib,Nat.and_two_pow_sub_one_eq_mod,Nat.mod_eq_of_lt hy]
 rw[e,TQ hx' (hp _ hy),YG hx]
theorem mO(a:Int):∃n:Nat,n<4294967296/\GI (GT a) 4294967295=(n:Int):=by
 have h:∃m:Nat,m<18446744073709551616/\GT a=(m:Int):=by
  refine⟨(GT a).toNat,?_,?_⟩<;>unfold GT<;>rw[Q4]<;>omega
 obtain⟨m,hm,e⟩:=h;refine⟨m&&&4294967295,?_,?_⟩
 .exact Nat.lt_of_le_of_lt Nat.and_le_right (by decide)
 .rw[e];exact o0 (y:=4294967295) hm (by decide)
theorem mY(x:Nd):QY x.lf x.v x.f x.a x.l x.r=IQ x:=by
 obtain⟨lf,v,f,a,l,r⟩:=x;unfold QY IQ Nd.eq NY;cases lf
 .simp only[BC,Bool.and_assoc]
 .simp only[BN,DA,BE,CJ];cases EV v<;>cases(f==0)<;>cases(a==0)<;>cases(l==0)<;>cases(r==0)<;>rfl
theorem uH(x:Nd):HT x.lf x.v x.f x.a x.l x.r=HG x:=by
 unfold HT HG;rw[mY];cases hr:IQ x with
 |false=>rfl
 |true=>
  obtain⟨lf,v,f,a,l,r⟩:=x;simp only[BN];cases lf with
  |true=>
   simp only[BN];unfold K5;obtain⟨n,hn,e⟩:=mO v;have e1:OY 32=4294967295:=by decide
   have e2:OC 4294967295 (AM 0)=4294967295:=by decide
   have e3:fV 9223372036854775808 4294967295=9223372036854775808:=by decide
   have e4:OC (GT v) (AM 0)=GT v:=by
    unfold OC GT;rw[Q4,Q4];simp
   rw[e1,e2,e3,e4]
  |false=>
   simp only[BC];unfold IQ at hr;simp only[BC,AP,AW,NY]at hr;obtain⟨_,f0,f1,_,⟨l0,l1⟩,r0,r1⟩:=hr;obtain⟨n,hn,e⟩:=mO a;have hz:K5 0 0 32 (GT a)=(n:Int):=by
    unfold K5;have e1:OY 32=4294967295:=by decide
    have e2:OC 4294967295 (AM 0)=4294967295:=by decide
    have e3:fV 0 4294967295=0:=by decide
    have e4:OC (GT a) (AM 0)=GT a:=by
     unfold OC GT;rw[Q4,Q4];simp
    rw[e1,e2,e3,e4,e]
    have:=TQ (x:=0) (y:=n) AG AG
    simpa using this
   obtain⟨f',rfl⟩:=Int.eq_ofNat_of_zero_le f0;obtain⟨l',rfl⟩:=Int.eq_ofNat_of_zero_le (show 0<=l by omega);obtain⟨r',rfl⟩:=Int.eq_ofNat_of_zero_le (show 0<=r by omega);rw[hz,e,SG (n:=f') AG,SG (n:=l') AG,SG (n:=r') AG];have p1:K5 (n:Int) 32 4 (f':Int)=((n+f'*2^32:Nat):Int):=uX (a:=32) (w:=4) AG AG AG (by decide);have p2:K5 ((n+f'*2^32:Nat):Int) 40 8 (l':Int)=((n+f'*2^32+l'*2^40:Nat):Int):=uX (a:=40) (w:=8) AG AG AG (by decide);have p3:K5 ((n+f'*2^32+l'*2^40:Nat):Int) 48 8 (r':Int)=((n+f'*2^32+l'*2^40+r'*2^48:Nat):Int):=uX (a:=48) (w:=8) AG AG AG (by decide);rw[p1,p2,p3,VR (y:=f') (a:=32) AG,VR (y:=l') (a:=40) AG,VR (y:=r') (a:=48) AG];rw[TQ (x:=n) AG AG,YG (x:=n) (a:=32) AG,TQ AG AG,YG (a:=40) AG,TQ AG AG,YG (a:=48) AG]
theorem zbP{x:Nd}(h:IQ x=AC):HG x≠0:=by
 rw[<-uH];unfold HT;rw[mY,h];simp only[BN];obtain⟨lf,v,f,a,l,r⟩:=x;cases lf with
 |true=>
  simp only[BN];obtain⟨n,hn,e⟩:=mO v;rw[e]
  have:=TQ (x:=9223372036854775808) (y:=n) AG AG
  have h2:9223372036854775808<=9223372036854775808|||n:=Nat.left_le_or;intro h3;have h4:((9223372036854775808|||n:Nat):Int)=0:=this▸h3;omega
 |false=>
  simp only[BC];unfold IQ at h;simp only[BC,AP,AW,NY]at h;obtain⟨_,f0,f1,_,⟨l0,l1⟩,r0,r1⟩:=h;obtain⟨n,hn,e⟩:=mO a;obtain⟨f',rfl⟩:=Int.eq_ofNat_of_zero_le f0;obtain⟨l',rfl⟩:=Int.eq_ofNat_of_zero_le (show 0<=l by omega);obtain⟨r',rfl⟩:=Int.eq_ofNat_of_zero_le (show 0<=r by omega);rw[e,SG (n:=f') AG,SG (n:=l') AG,SG (n:=r') AG];rw[VR (y:=f') (a:=32) AG,VR (y:=l') (a:=40) AG,VR (y:=r') (a:=48) AG];rw[TQ (x:=n) AG AG,YG (x:=n) (a:=32) AG,TQ AG AG,YG (a:=40) AG,TQ AG AG,YG (a:=48) AG];omega
def vA(w:Int):Bool:=IQ (L7 w)&&(HG (L7 w)==w)
theorem vz(w:Int):vA w=FJ w:=by
 unfold vA FJ;cases hr:IQ (L7 w)with
 |true=>
  rw[BE];cases hw:HG (L7 w)==w with
  |false=>rw[DB]
  |true=>
   have h1:=zbP hr;rw[CE.1 hw]at h1;simp[h1]
 |false=>
  have:HG (L7 w)=0:=by
   unfold HG;rw[hr];rfl
  rw[this,BP];cases hw:(w==0)with
  |true=>rfl
  |false=>
   have:¬(0=w):=λe=>by subst e;cases hw
   simp[this]
open Go
open Go
def RR(k:Int)(g:Nat->DW):DW:=cond (AE (k=ic 0)) (g 0) (cond (AE (k=ic 1)) (g 1) (cond (AE (k=ic 2)) (g 2) (cond (AE (k=ic 3)) (g 3) (cond (AE (k=ic 4)) (g 4) AB))))
def Fm(m:Md)(k:Int)(g:Int->DW):DW:=cond (AE (k=ic 0)) (g m.b0) (cond (AE (k=ic 1)) (g m.b1) (cond (AE (k=ic 2)) (g m.b2) AB))
abbrev O4(b:Bool):DW:=AA (V.bool b,[])
def dP:D5
 |[.i n,.i w]=>.br (AE (w=32)&&(AE (0<=n)&&AE (n<=4294967295))) (.ok (.i (KK n)) []) .no
 |_=>.no
def SV:D5
 |[b]=>HY b λb=>.ok (.bool b.emp) []
 |_=>.no
def WR:D5
 |[a,b]=>bV a λa=>bV b λb=>.ok (a.meet b).V []
 |_=>.no
def OJ:D5
 |[.int .u64 w]=>.ok (.tup [.agg [.bool (DV w).lf,.i (DV w).v,.i (DV w).f,.i (DV w).a,.i (DV w).l,.i (DV w).r],.bool (FJ w)]) []
 |_=>.no
def WT:D5
 |[.list AD [.int .u64] l,.i dim]=>.ok (.bool (F5 l dim)) []
 |_=>.no
def dS:D5
 |[.list AD [.int .u64] l,p]=>QD p λp=>.ok (.i (XT l p)) []
 |_=>.no
def dR:D5
 |[.list AD [.int .u64] l,p]=>QD p λp=>.ok (.i (G1 l p)) []
 |_=>.no
def SY:D5
 |[m]=>ID m λm=>.ok (.bool (ET m)) []
 |_=>.no
def dQ:D5
 |[m,.i k,p]=>ID m λm=>QD p λp=>.ok (.i (D3 m k p)) []
 |_=>.no
def SU:D5
 |[m,q]=>ID m λm=>IT q λq=>.ok (.bool (E8 m q)) []
 |_=>.no
def dM:D5
 |[q]=>IT q λq=>.ok (GG q).V []
 |_=>.no
def dI:D5
 |[b]=>HY b λb=>.ok b.low.V []
 |_=>.no
def dE:D5
 |[m,q,p,.i t]=>ID m λm=>IT q λq=>QD p λp=>.ok (.bool (HK m q p t)) []
 |_=>.no
def dG:D5
 |[m,q,b,.i i]=>ID m λm=>IT q λq=>HY b λb=>.br (ET m&&GZ i) (.ok (.list AD [.z] (iZ (E1 m q b i.toNat))) []) .no
 |_=>.no
def Sp.goodB(s:Sp):Bool:=AE (-2147483648<=s.lo)&&(AE (s.lo<=s.hi)&&AE (s.hi<=2147483647))
def Bx.goodB(b:Bx):Bool:=b.s0.goodB&&(b.s1.goodB&&(b.s2.goodB&&(b.s3.goodB&&b.s4.goodB)))
def dH:D5
 |[.list AD [.int .u64] l,b]=>HY b λb=>.br (!b.emp) (.ok (.list AC I7 (GS l b)) []) .no
 |_=>.no
def dD:D5
 |[.list AD [.int .u64] l,b]=>HY b λb=>.br (!b.emp) (.ok (.tup [.i (G8 l b),.i (G7 l b),.bool (P7 l b)]) []) .no
 |_=>.no
def dN:D5
 |[m,.i k,b]=>ID m λm=>HY b λb=>.ok (.tup [.i (EK m k b),.i (EE m k b),.bool (F9 m k b)]) []
 |_=>.no
def R9(q:Qy)(b:Bx):Bx:=cond (F6 q) (b.p b.s4 q.ft.toNat) b
def dK:D5
 |[q,b]=>IT q λq=>HY b λb=>.ok (R9 q b).V []
 |_=>.no
def dF:D5
 |[m,q,b]=>ID m λm=>IT q λq=>HY b λb=>.ok (.bool (GB m q b)) []
 |_=>.no
def dL:D5
 |[m,q,b]=>ID m λm=>IT q λq=>HY b λb=>.br (ET m) (.ok (.tup [.i (HX (EQ m q b)),.i (HD (EQ m q b)),.bool (EQ m q b).isSome]) []) .no
 |_=>.no
def dO:D5
 |[b,.i i,.i a]=>HY b λb=>.br (GZ i&&EV a) (.ok (.tup [(b.cutL i a).V,(b.cutH i a).V]) []) .no
 |_=>.no
def dJ:D5
 |[m,q]=>ID m λm=>IT q λq=>.ok (FP m q).V []
 |_=>.no
open Go
open Go
theorem Df:∀(l:List Int) (p:Int),(p::l).Pairwise (·<=·)->(KW p l).Pairwise (· < ·)/\∀y∈KW p l,p<y
 |[],p,_=>by simp[KW]
 |x::r,p,h=>by
  have hpx:p<=x:=List.rel_of_pairwise_cons h (AZ ..);have ih:=Df r x (vbB h);rw[KW];cases hx:x==p with
  |true=>
   have:x=p:=by simpa using hx
   subst this;exact ih
  |false=>
   have hne:x≠p:=by simpa using hx
   rw[DT];refine⟨List.Pairwise.cons (λy hy=>ih.2 y hy) ih.1,λy hy=>?_⟩;rcases AY.1 hy with rfl|hy
   .omega
   .have:=ih.2 y hy
    omega
theorem cx{l:List Int}(h:l.Pairwise (·<=·)):(JU l).Pairwise (· < ·):=by
 cases l with
 |nil=>simp[JU]
 |cons x r=>
  rw[JU]
  have:=Df r x h
  exact List.Pairwise.cons (λy hy=>this.2 y hy) this.1
theorem dv(m:Md)(q:Qy)(b:Bx)(i:Nat):(E1 m q b i).Pairwise (· < ·):=by
 unfold E1;cases AE (IJ q (i:Int)<0)with
 |true=>simp
 |false=>
  rw[DT];unfold LK J1;exact(cx (wP _)).filter _
open Go
theorem iD(j:Int)(x:IV)(r:List (Int×IV))(k:Int):TJ ((j,x)::r) k=cond (j==k) (AA x) (TJ r k):=by
 unfold TJ;rw[GD];cases j==k<;>rfl
theorem mP(j:Int)(y:IV)(r:List (Int×IV))(k:Int)(x:IV):H6 ((j,y)::r) k x=cond (j==k) ((j,x)::r) ((j,y)::H6 r k x):=by
 unfold H6;rw[GD];cases j==k with
 |true=>rfl
 |false=>
  have e:BV (GD r k+1) (((j,y)::r).length)=BV (GD r k) r.length:=by
   rw[AV,vac,Nat.blt_eq,Nat.blt_eq];omega
  simp only[BC];rw[e];cases BV (GD r k) r.length<;>rfl
theorem Io(k:Int)(x:IV)(j:Int):∀es:List (Int×IV),TJ (H6 es k x) j=cond (k==j) (AA x) (TJ es j)
 |[]=>by
  show TJ [(k,x)] j=_;rw[iD]
 |(i,y)::r=>by
  rw[mP];by_cases hi:i=k
  .subst hi;rw[DA,BN,iD,iD];cases i==j<;>rfl
  .have e:(i==k)=AD:=by simpa using hi
   rw[e,BC,iD,Io k x j r,iD];by_cases hj:i=j
   .subst hj;have e2:(k==i)=AD:=by simpa using λh:k=i=>hi h.symm
    rw[DA,BN,e2,BC,BN]
   .have e2:(i==j)=AD:=by simpa using hj
    rw[e2,BC,BC]
theorem sZ(vk:Kd)(es:List (Int×IV))(k:Int)(x:IV)(j:Int):KF vk (H6 es k x) j=cond (k==j) x (KF vk es j):=by
 unfold KF;rw[Io];cases k==j<;>rfl
theorem vl(vk:Kd)(j:Int):KF vk [] j=M5 vk:=rfl
def FY(es:List (Int×IV)):List Int:=es.map Prod.fst
theorem sD{k:Int}{x:IV}{j:Int}:∀{es:List (Int×IV)},j∈FY (H6 es k x)↔j=k\/j∈FY es
 |[]=>by simp[FY,H6,GD,BV,CF]
 |(i,y)::r=>by
  rw[mP];by_cases hi:i=k
  .subst hi;rw[DA,BN];simp only[FY,A8,AY];constructor
   .intro h;exact .inr h
   .rintro(h|h)
    .exact .inl h
    .exact h
  .have e:(i==k)=AD:=by simpa using hi
   have ih:=sD (k:=k) (x:=x) (j:=j) (es:=r);rw[e,BC];simp only[FY,A8,AY]at ih ⊢;rw[ih];constructor
   .rintro(h|h|h)
    .exact .inr (.inl h)
    .exact .inl h
    .exact .inr (.inr h)
   .rintro(h|h|h)
    .exact .inr (.inl h)
    .exact .inl h
    .exact .inr (.inr h)
theorem Hh{k:Int}{x:IV}:∀{es:List (Int×IV)},(FY es).Nodup->(FY (H6 es k x)).Nodup
 |[],_=>by
  have e:H6 [] k x=[(k,x)]:=rfl;rw[e];simp[FY]
 |(i,y)::r,h=>by
  have h':i∉FY r/\(FY r).Nodup:=by simpa[FY]using h
  rw[mP];by_cases hi:i=k
  .subst hi;rw[DA,BN];exact h
  .have e:(i==k)=AD:=by simpa using hi
   rw[e,BC];have hn:=Hh (k:=k) (x:=x) h'.2;have hm:i∉FY (H6 r k x):=λhh=>by
    rcases sD.1 hh with hh|hh
    .exact hi hh
    .exact h'.1 hh
   show(i::FY (H6 r k x)).Nodup;exact List.nodup_cons.2 ⟨hm,hn⟩
theorem Ek:∀(es:List (Int×IV)) (i:Nat),i<es.length->(∀j,j∈FY es↔j=(H7 es i).1\/j∈FY (KA es i))/\((FY es).Nodup->(H7 es i).1∉FY (KA es i)/\(FY (KA es i)).Nodup)/\(KA es i).length+1=es.length
 |[],i,h=>absurd h (Nat.not_lt_zero i)
 |(j,x)::r,0,_=>⟨λk=>by simp[FY,H7,KA],λh=>by
   have h':j∉FY r/\(FY r).Nodup:=by simpa[FY]using h
   exact h',rfl⟩
 |(j,x)::r,i+1,h=>by
  obtain⟨h1,h2,h3⟩:=Ek r i (by simpa using h);refine⟨λk=>?_,λhn=>?_,?_⟩
  .have:=h1 k
   simp only[FY,A8,AY,H7,KA]at this ⊢;rw[this];constructor
   .rintro(h|h|h)
    .exact .inr (.inl h)
    .exact .inl h
    .exact .inr (.inr h)
   .rintro(h|h|h)
    .exact .inr (.inl h)
    .exact .inl h
    .exact .inr (.inr h)
  .have hn:j∉FY r/\(FY r).Nodup:=by simpa[FY]using hn
   obtain⟨g1,g2⟩:=h2 hn.2;have hj:j∉FY (KA r i):=λhh=>hn.1 ((h1 j).2 (.inr hh))
   have hne:(H7 r i).1≠j:=λhh=>hn.1 ((h1 j).2 (.inl hh.symm))
   refine⟨?_,?_⟩
   .show(H7 r i).1∉j::FY (KA r i);rw[AY,not_or];exact⟨hne,g1⟩
   .show(j::FY (KA r i)).Nodup;exact List.nodup_cons.2 ⟨hj,g2⟩
  .show((j,x)::KA r i).length+1=_;rw[AV,AV,h3]
theorem Nl:∀{a b:List Int},a.Pairwise (· < ·)->b.Pairwise (· < ·)->(∀x,x∈a↔x∈b)->a=b
 |[],[],_,_,_=>rfl
 |[],y::s,_,_,h=>absurd ((h y).2 (AZ ..)) (by simp)
 |x::r,[],_,_,h=>absurd ((h x).1 (AZ ..)) (by simp)
 |x::r,y::s,ha,hb,h=>by
  have h1:∀z∈r,x<z:=λz hz=>List.rel_of_pairwise_cons ha hz
  have h2:∀z∈s,y<z:=λz hz=>List.rel_of_pairwise_cons hb hz
  have hx:=(h x).1 (AZ ..);have hy:=(h y).2 (AZ ..);have e:x=y:=by
   rcases AY.1 hx with hx|hx
   .exact hx
   .rcases AY.1 hy with hy|hy
    .exact hy.symm
    .have:=h1 y hy
     have:=h2 x hx
     omega
  subst e;rw[Nl (vbB ha) (vbB hb) λz=>?_];have hz:=h z;rw[AY,AY]at hz;constructor
  .intro hh
   have:=h1 z hh
   rcases hz.1 (.inr hh)with g|g
   .omega
   .exact g
  .intro hh
   have:=h2 z hh
   rcases hz.2 (.inr hh)with g|g
   .omega
   .exact g
theorem zcL{L:List Int}{t:Int}{k:Nat}(h:L.Pairwise (· < ·))(h1:∀x∈L.take k,x<t)(h2:∀x∈L.drop k,t<x):(L.take k++t::L.drop k).Pairwise (· < ·):=by
 rw[List.pairwise_append];refine⟨h.sublist (List.take_sublist ..),List.Pairwise.cons h2 (h.sublist (List.drop_sublist ..)),λa ha b hb=>?_⟩
 have:=h1 a ha
 rcases AY.1 hb with rfl|hb
 .exact this
 .have:=h2 b hb
  omega
theorem Gt{L:List Int}{t:Int}{k:Nat}(x:Int):x∈L.take k++t::L.drop k↔x=t\/x∈L:=by
 have e:x∈L↔x∈L.take k\/x∈L.drop k:=by
  rw[<-A4,List.take_append_drop]
 rw[A4,AY,e];constructor
 .rintro(h|h|h)
  .exact .inr (.inl h)
  .exact .inl h
  .exact .inr (.inr h)
 .rintro(h|h|h)
  .exact .inr (.inl h)
  .exact .inl h
  .exact .inr (.inr h)
theorem lv(n k:Nat):((n:Int)).fdiv (k:Int)=((n/k:Nat):Int):=by
 rw[vaD _ AG];rfl
theorem zfv{w:Int}(h0:0<=w)(h1:w<18446744073709551616):(HB w 63 1==0)=!(w.fdiv 9223372036854775808==1):=by
 obtain⟨n,rfl⟩:=Int.eq_ofNat_of_zero_le h0;have e:((n:Int)).fdiv 9223372036854775808=((n/9223372036854775808:Nat):Int):=lv n 9223372036854775808;have e1:HB (n:Int) 63 1=GI ((n:Int).fdiv 9223372036854775808) 1:=rfl;rw[e1,e];have hlt:n/9223372036854775808<2:=by omega
 generalize n/9223372036854775808=d at hlt;have hd:d=0\/d=1:=by omega
 rcases hd with rfl|rfl<;>decide
theorem zf2{n:Int}(h0:0<=n)(h1:n<2147483648):KK n=n:=by
 unfold KK;rw[show D6 (n*2^32)=n*2^32 from ER AG AG,vaD _ AG];omega
theorem zf1{n:Int}(h0:2147483648<=n)(h1:n<=4294967295):KK n=n-4294967296:=by
 unfold KK;have e:D6 (n*2^32)=n*2^32-18446744073709551616:=by
  have key:∀z:Int,9223372036854775808<=z->z<18446744073709551616->AI AJ z=z-18446744073709551616:=λz h2 h3=>by
   have h4:z%2^AJ.bits=z:=by show z%2^64=z;omega
   unfold AI;simp only[h4];rw[show(AJ.signed&&AE (z>=2^(AJ.bits-1)))=AC by
    rw[AL (show z>=2^(AJ.bits-1) by show z>=2^63;omega)];rfl,B3 rfl]
   rfl
  exact key _ AG AG
 rw[e,vaD _ AG];omega
open Go Go.Proofs
def Xc(N:Nat):Env:=EI [] [] 31 N
theorem ym(N:Nat)(n w:Int):EB (Xc N) Ar [.tmp 4] [[.z]] [.i n,.i w]=
 (cond (AE (w<1))
 (AA (.i n,[]))
 (cond (AE (w>63))
 (AA (.i n,[]))
 (cond (AE (w<0))
 AB
 (cond (AE (AI AJ (w-1)<0))
 AB
 (cond (C3 (AI AO (ic (B1 (A0 (AT AO) (AI AO n)&&&A0 (AT AO) (AI AO (AI AO (1*2^min (AM w) (AT AO))-1)))))) (2^min (AM (AI AJ (w-1))) (AT AO))==1)
 (cond (AE (w<0))
 AB
 (AA (.i (AI AJ (AI AJ (AI AO (ic (B1 (A0 (AT AO) (AI AO n)&&&A0 (AT AO) (AI AO (AI AO (1*2^min (AM w) (AT AO))-1))))))-AI AJ (1*2^min (AM w) (AT AJ)))),[])))
 (AA (.i (AI AJ (AI AO (ic (B1 (A0 (AT AO) (AI AO n)&&&A0 (AT AO) (AI AO (AI AO (1*2^min (AM w) (AT AO))-1))))))),[]))))))):=AF
def Xb(N:Nat):Env:=EI [] [] 24 N
theorem yl(N:Nat)(a b:Sp):EB (Xb N) Aq [.cell 4 35] [[.z,.z]] [(Sp.V a),(Sp.V b)]=
 (cond (AE (max (Sp.lo a) (Sp.lo b)>min (Sp.hi a) (Sp.hi b)))
 (AA (.agg [.i 1,.i 0],[]))
 (AA (.agg [.i (max (Sp.lo a) (Sp.lo b)),.i (min (Sp.hi a) (Sp.hi b))],[]))):=AF
def Xf(N:Nat):Env:=EI [(137,dP),(74,SX),(133,WS)] [] 42 N
theorem yu(N:Nat)(w:Int):EB (Xf N) Av [.cell 2 108,.tmp 3] [[.bool,.z,.z,.z,.z,.z],[.bool]] [.int .u64 w]=
 (cond (C3 w (2^min (AM 63) (AT AO))==1)
 (cond (AE (32=32)&&(AE (0<=AI AJ (AI AO (ic (B1 (A0 (AT AO) w&&&A0 (AT AO) 4294967295)))))&&AE (AI AJ (AI AO (ic (B1 (A0 (AT AO) w&&&A0 (AT AO) 4294967295))))<=4294967295)))
 (cond (!QY AC (KK (AI AJ (AI AO (ic (B1 (A0 (AT AO) w&&&A0 (AT AO) 4294967295)))))) 0 0 0 0)
 (AA (.tup [.agg [.bool AD,.i 0,.i 0,.i 0,.i 0,.i 0],.bool AD],[]))
 (cond (HT AC (KK (AI AJ (AI AO (ic (B1 (A0 (AT AO) w&&&A0 (AT AO) 4294967295)))))) 0 0 0 0!=w)
 (AA (.tup [.agg [.bool AD,.i 0,.i 0,.i 0,.i 0,.i 0],.bool AD],[]))
 (AA (.tup [.agg [.bool AC,.i (KK (AI AJ (AI AO (ic (B1 (A0 (AT AO) w&&&A0 (AT AO) 4294967295)))))),.i 0,.i 0,.i 0,.i 0],.bool AC],[]))))
 AB)
 (cond (AE (32=32)&&(AE (0<=AI AJ (AI AO (ic (B1 (A0 (AT AO) w&&&A0 (AT AO) 4294967295)))))&&AE (AI AJ (AI AO (ic (B1 (A0 (AT AO) w&&&A0 (AT AO) 4294967295))))<=4294967295)))
 (cond (!QY AD 0 (AI AJ (AI AO (ic (B1 (A0 (AT AO) (C3 w (2^min (AM 32) (AT AO)))&&&A0 (AT AO) 15))))) (KK (AI AJ (AI AO (ic (B1 (A0 (AT AO) w&&&A0 (AT AO) 4294967295)))))) (AI AJ (AI AO (ic (B1 (A0 (AT AO) (C3 w (2^min (AM 40) (AT AO)))&&&A0 (AT AO) 255))))) (AI AJ (AI AO (ic (B1 (A0 (AT AO) (C3 w (2^min (AM 48) (AT AO)))&&&A0 (AT AO) 255))))))
 (AA (.tup [.agg [.bool AD,.i 0,.i 0,.i 0,.i 0,.i 0],.bool AD],[]))
 (cond (HT AD 0 (AI AJ (AI AO (ic (B1 (A0 (AT AO) (C3 w (2^min (AM 32) (AT AO)))&&&A0 (AT AO) 15))))) (KK (AI AJ (AI AO (ic (B1 (A0 (AT AO) w&&&A0 (AT AO) 4294967295)))))) (AI AJ (AI AO (ic (B1 (A0 (AT AO) (C3 w (2^min (AM 40) (AT AO)))&&&A0 (AT AO) 255))))) (AI AJ (AI AO (ic (B1 (A0 (AT AO) (C3 w (2^min (AM 48) (AT AO)))&&&A0 (AT AO) 255)))))!=w)
 (AA (.tup [.agg [.bool AD,.i 0,.i 0,.i 0,.i 0,.i 0],.bool AD],[]))
 (AA (.tup [.agg [.bool AD,.i 0,.i (AI AJ (AI AO (ic (B1 (A0 (AT AO) (C3 w (2^min (AM 32) (AT AO)))&&&A0 (AT AO) 15))))),.i (KK (AI AJ (AI AO (ic (B1 (A0 (AT AO) w&&&A0 (AT AO) 4294967295)))))),.i (AI AJ (AI AO (ic (B1 (A0 (AT AO) (C3 w (2^min (AM 40) (AT AO)))&&&A0 (AT AO) 255))))),.i (AI AJ (AI AO (ic (B1 (A0 (AT AO) (C3 w (2^min (AM 48) (AT AO)))&&&A0 (AT AO) 255)))))],.bool AC],[]))))
 AB)):=AF
def LA(N:Nat):Env:=EI [(78,OJ)] [(3,⟨[0,3,4,5,8],[3],[]⟩)] 41 N
theorem yx(N:Nat)(l:LI)(p:Pt):EB (LA N) OP [.tmp 4] [[.z]] [.list AD [.int .u64] l,(Pt.V p)]=
 (D7 (LA N) (DU OP [1,1,0,1,0,0]) ⟨[0,3,4,5,8],[3],[]⟩ N ⟨[(0,(.list AD [.int .u64] l)),(3,(.ptr 3 0 0)),(4,(.i 0)),(5,(.i 0)),(8,(.i 0))],[(3,(AA (.box (Pt.cs p))))]⟩ (DZ 0 (D1 (LA N) (DU OP [1,1,1]) (D4 (LA N) AB [.tmp 4] [[.z]])))):=AF
theorem Si(N:Nat)(p:Pt)(l0:LI)(x4 x5 x8:Int)(again:St->DW)(k:Out->St->DW):E3 (LA N) (DU OP [1,1,0,1,0,0])
 ⟨[(0,(.list AD [.int .u64] l0)),(3,(.ptr 3 0 0)),(4,(.i x4)),(5,(.i x5)),(8,(.i x8))],[(3,(AA (.box (Pt.cs p))))]⟩
 (ES again ⟨[0,3,4,5,8],[3],[]⟩ k)=
 (cond (AE (x8<31))
 (cond (AE (x5>=ic (AN l0)))
 (k .ret ⟨[(0,(.list AD [.int .u64] l0)),(3,(.ptr 3 0 0)),(4,(.i (-1))),(5,(.i x5)),(8,(.i x8))],[(3,(AA (.box (Pt.cs p))))]⟩)
 (cond (AE (0<=x5)&&AE (x5<ic (AN l0)))
 (cond (!FJ (IV.toInt (AQ l0 (AM x5) default)))
 (k .ret ⟨[(0,(.list AD [.int .u64] l0)),(3,(.ptr 3 0 0)),(4,(.i (-1))),(5,(.i x5)),(8,(.i x8))],[(3,(AA (.box (Pt.cs p))))]⟩)
 (cond (Nd.lf (DV (IV.toInt (AQ l0 (AM x5) default))))
 (k .ret ⟨[(0,(.list AD [.int .u64] l0)),(3,(.ptr 3 0 0)),(4,(.i x5)),(5,(.i x5)),(8,(.i x8))],[(3,(AA (.box (Pt.cs p))))]⟩)
 (cond (AE (Nd.f (DV (IV.toInt (AQ l0 (AM x5) default)))=ic 0))
 (cond (AE (Pt.p0 p<=Nd.a (DV (IV.toInt (AQ l0 (AM x5) default)))))
 (again ⟨[(0,(.list AD [.int .u64] l0)),(3,(.ptr 3 0 0)),(4,(.i x4)),(5,(.i (Nd.l (DV (IV.toInt (AQ l0 (AM x5) default)))))),(8,(.i (AI AJ (x8+1))))],[(3,(AA (.box (Pt.cs p))))]⟩)
 (again ⟨[(0,(.list AD [.int .u64] l0)),(3,(.ptr 3 0 0)),(4,(.i x4)),(5,(.i (Nd.r (DV (IV.toInt (AQ l0 (AM x5) default)))))),(8,(.i (AI AJ (x8+1))))],[(3,(AA (.box (Pt.cs p))))]⟩))
 (cond (AE (Nd.f (DV (IV.toInt (AQ l0 (AM x5) default)))=ic 1))
 (cond (AE (Pt.p1 p<=Nd.a (DV (IV.toInt (AQ l0 (AM x5) default)))))
 (again ⟨[(0,(.list AD [.int .u64] l0)),(3,(.ptr 3 0 0)),(4,(.i x4)),(5,(.i (Nd.l (DV (IV.toInt (AQ l0 (AM x5) default)))))),(8,(.i (AI AJ (x8+1))))],[(3,(AA (.box (Pt.cs p))))]⟩)
 (again ⟨[(0,(.list AD [.int .u64] l0)),(3,(.ptr 3 0 0)),(4,(.i x4)),(5,(.i (Nd.r (DV (IV.toInt (AQ l0 (AM x5) default)))))),(8,(.i (AI AJ (x8+1))))],[(3,(AA (.box (Pt.cs p))))]⟩))
 (cond (AE (Nd.f (DV (IV.toInt (AQ l0 (AM x5) default)))=ic 2))
 (cond (AE (Pt.p2 p<=Nd.a (DV (IV.toInt (AQ l0 (AM x5) default)))))
 (again ⟨[(0,(.list AD [.int .u64] l0)),(3,(.ptr 3 0 0)),(4,(.i x4)),(5,(.i (Nd.l (DV (IV.toInt (AQ l0 (AM x5) default)))))),(8,(.i (AI AJ (x8+1))))],[(3,(AA (.box (Pt.cs p))))]⟩)
 (again ⟨[(0,(.list AD [.int .u64] l0)),(3,(.ptr 3 0 0)),(4,(.i x4)),(5,(.i (Nd.r (DV (IV.toInt (AQ l0 (AM x5) default)))))),(8,(.i (AI AJ (x8+1))))],[(3,(AA (.box (Pt.cs p))))]⟩))
 (cond (AE (Nd.f (DV (IV.toInt (AQ l0 (AM x5) default)))=ic 3))
 (cond (AE (Pt.p3 p<=Nd.a (DV (IV.toInt (AQ l0 (AM x5) default)))))
 (again ⟨[(0,(.list AD [.int .u64] l0)),(3,(.ptr 3 0 0)),(4,(.i x4)),(5,(.i (Nd.l (DV (IV.toInt (AQ l0 (AM x5) default)))))),(8,(.i (AI AJ (x8+1))))],[(3,(AA (.box (Pt.cs p))))]⟩)
 (again ⟨[(0,(.list AD [.int .u64] l0)),(3,(.ptr 3 0 0)),(4,(.i x4)),(5,(.i (Nd.r (DV (IV.toInt (AQ l0 (AM x5) default)))))),(8,(.i (AI AJ (x8+1))))],[(3,(AA (.box (Pt.cs p))))]⟩))
 AB))))))
 AB))
 (k (.exit 0) ⟨[(0,(.list AD [.int .u64] l0)),(3,(.ptr 3 0 0)),(4,(.i x4)),(5,(.i x5)),(8,(.i x8))],[(3,(AA (.box (Pt.cs p))))]⟩)):=AF
theorem jc(N:Nat)(p:Pt)(l0:LI)(x4 x5 x8:Int):(DZ 0 (D1 (LA N) (DU OP [1,1,1]) (D4 (LA N) AB [.tmp 4] [[.z]]))) (.exit 0)
 ⟨[(0,(.list AD [.int .u64] l0)),(3,(.ptr 3 0 0)),(4,(.i x4)),(5,(.i x5)),(8,(.i x8))],[(3,(AA (.box (Pt.cs p))))]⟩=
 (AA (.i (-1),[])):=AF
theorem qZ(N:Nat)(p:Pt)(l0:LI)(x4 x5 x8:Int):(DZ 0 (D1 (LA N) (DU OP [1,1,1]) (D4 (LA N) AB [.tmp 4] [[.z]]))) .ret
 ⟨[(0,(.list AD [.int .u64] l0)),(3,(.ptr 3 0 0)),(4,(.i x4)),(5,(.i x5)),(8,(.i x8))],[(3,(AA (.box (Pt.cs p))))]⟩=
 (AA (.i x4,[])):=AF
def Xg(N:Nat):Env:=EI [(78,OJ),(230,dS)] [] 23 N
theorem yw(N:Nat)(l:LI)(p:Pt):EB (Xg N) Aw [.tmp 4] [[.z]] [.list AD [.int .u64] l,(Pt.V p)]=
 (cond (AE (XT l p<0))
 (AA (.i 0,[]))
 (cond (AE (0<=XT l p)&&AE (XT l p<ic (AN l)))
 (AA (.i (Nd.v (DV (IV.toInt (AQ l (AM (XT l p)) default)))),[]))
 AB)):=AF
def J3(N:Nat):Env:=EI [(134,SW),(135,WT)] [(4,⟨[1,2,32,33],[1],[]⟩),(10,⟨[1,2,52,53,54],[1],[]⟩)] 77 N
theorem yq(N:Nat)(m:Md):EB (J3 N) NC [.tmp 2] [[.bool]] [(Md.V m)]=
 (cond (AE (Md.d m<1))
 (AA (.bool AD,[]))
 (cond (AE (Md.d m>4))
 (AA (.bool AD,[]))
 (cond (AE (Md.c m<1))
 (AA (.bool AD,[]))
 (cond (AE (Md.c m>3))
 (AA (.bool AD,[]))
 (cond (AE (ic (AN (Md.ts m))>8))
 (AA (.bool AD,[]))
 (D7 (J3 N) (DU NC [1,1,0,1,0,0]) ⟨[1,2,32,33],[1],[]⟩ N ⟨[(1,(.ptr 1 0 0)),(2,(.bool AD)),(32,(.agg [.i (Md.b0 m),.i (Md.b1 m),.i (Md.b2 m)])),(33,(.i 0))],[(1,(AA (.box (Md.cs m))))]⟩ (DZ 0 (D1 (J3 N) (DU NC [1,1,1]) (D4 (J3 N) AB [.tmp 2] [[.bool]]))))))))):=AF
theorem oB(N:Nat)(m:Md)(b2:Bool)(u00 u01 u02 x33:Int)(again:St->DW)(k:Out->St->DW):E3 (J3 N) (DU NC [1,1,0,1,0,0])
 ⟨[(1,(.ptr 1 0 0)),(2,(.bool b2)),(32,(.agg [.i u00,.i u01,.i u02])),(33,(.i x33))],[(1,(AA (.box (Md.cs m))))]⟩
 (ES again ⟨[1,2,32,33],[1],[]⟩ k)=
 (cond (AE (x33<3))
 (cond (AE (x33=ic 0))
 (cond (!EV u00)
 (k .ret ⟨[(1,(.ptr 1 0 0)),(2,(.bool AD)),(32,(.agg [.i u00,.i u01,.i u02])),(33,(.i x33))],[(1,(AA (.box (Md.cs m))))]⟩)
 (cond (AE (x33>=Md.c m))
 (cond (u00 !=0)
 (k .ret ⟨[(1,(.ptr 1 0 0)),(2,(.bool AD)),(32,(.agg [.i u00,.i u01,.i u02])),(33,(.i x33))],[(1,(AA (.box (Md.cs m))))]⟩)
 (again ⟨[(1,(.ptr 1 0 0)),(2,(.bool b2)),(32,(.agg [.i u00,.i u01,.i u02])),(33,(.i (AI AJ (x33+1))))],[(1,(AA (.box (Md.cs m))))]⟩))
 (again ⟨[(1,(.ptr 1 0 0)),(2,(.bool b2)),(32,(.agg [.i u00,.i u01,.i u02])),(33,(.i (AI AJ (x33+1))))],[(1,(AA (.box (Md.cs m))))]⟩)))
 (cond (AE (x33=ic 1))
 (cond (!EV u01)
 (k .ret ⟨[(1,(.ptr 1 0 0)),(2,(.bool AD)),(32,(.agg [.i u00,.i u01,.i u02])),(33,(.i x33))],[(1,(AA (.box (Md.cs m))))]⟩)
 (cond (AE (x33>=Md.c m))
 (cond (u01 !=0)
 (k .ret ⟨[(1,(.ptr 1 0 0)),(2,(.bool AD)),(32,(.agg [.i u00,.i u01,.i u02])),(33,(.i x33))],[(1,(AA (.box (Md.cs m))))]⟩)
 (again ⟨[(1,(.ptr 1 0 0)),(2,(.bool b2)),(32,(.agg [.i u00,.i u01,.i u02])),(33,(.i (AI AJ (x33+1))))],[(1,(AA (.box (Md.cs m))))]⟩))
 (again ⟨[(1,(.ptr 1 0 0)),(2,(.bool b2)),(32,(.agg [.i u00,.i u01,.i u02])),(33,(.i (AI AJ (x33+1))))],[(1,(AA (.box (Md.cs m))))]⟩)))
 (cond (AE (x33=ic 2))
 (cond (!EV u02)
 (k .ret ⟨[(1,(.ptr 1 0 0)),(2,(.bool AD)),(32,(.agg [.i u00,.i u01,.i u02])),(33,(.i x33))],[(1,(AA (.box (Md.cs m))))]⟩)
 (cond (AE (x33>=Md.c m))
 (cond (u02 !=0)
 (k .ret ⟨[(1,(.ptr 1 0 0)),(2,(.bool AD)),(32,(.agg [.i u00,.i u01,.i u02])),(33,(.i x33))],[(1,(AA (.box (Md.cs m))))]⟩)
 (again ⟨[(1,(.ptr 1 0 0)),(2,(.bool b2)),(32,(.agg [.i u00,.i u01,.i u02])),(33,(.i (AI AJ (x33+1))))],[(1,(AA (.box (Md.cs m))))]⟩))
 (again ⟨[(1,(.ptr 1 0 0)),(2,(.bool b2)),(32,(.agg [.i u00,.i u01,.i u02])),(33,(.i (AI AJ (x33+1))))],[(1,(AA (.box (Md.cs m))))]⟩)))
 AB)))
 (k (.exit 0) ⟨[(1,(.ptr 1 0 0)),(2,(.bool b2)),(32,(.agg [.i u00,.i u01,.i u02])),(33,(.i x33))],[(1,(AA (.box (Md.cs m))))]⟩)):=AF
theorem it(N:Nat)(m:Md)(b2:Bool)(u00 u01 u02 x33:Int):(DZ 0 (D1 (J3 N) (DU NC [1,1,1]) (D4 (J3 N) AB [.tmp 2] [[.bool]]))) (.exit 0)
 ⟨[(1,(.ptr 1 0 0)),(2,(.bool b2)),(32,(.agg [.i u00,.i u01,.i u02])),(33,(.i x33))],[(1,(AA (.box (Md.cs m))))]⟩=
 (D7 (J3 N) (DU NC [1,1,1,0,1,0,0]) ⟨[1,2,52,53,54],[1],[]⟩ N ⟨[(1,(.ptr 1 0 0)),(2,(.bool b2)),(52,(.list AC G3 (Md.ts m))),(53,(.i (ic (AN (Md.ts m))))),(54,(.i 0))],[(1,(AA (.box (Md.cs m))))]⟩ (DZ 2 (D1 (J3 N) (DU NC [1,1,1,1]) (D4 (J3 N) AB [.tmp 2] [[.bool]])))):=AF
theorem iv(N:Nat)(m:Md)(b2:Bool)(u00 u01 u02 x33:Int):(DZ 0 (D1 (J3 N) (DU NC [1,1,1]) (D4 (J3 N) AB [.tmp 2] [[.bool]]))) .ret
 ⟨[(1,(.ptr 1 0 0)),(2,(.bool b2)),(32,(.agg [.i u00,.i u01,.i u02])),(33,(.i x33))],[(1,(AA (.box (Md.cs m))))]⟩=
 (AA (.bool b2,[])):=AF
theorem Sf(N:Nat)(m:Md)(b2:Bool)(l52:LI)(x53 x54:Int)(again:St->DW)(k:Out->St->DW):E3 (J3 N) (DU NC [1,1,1,0,1,0,0])
 ⟨[(1,(.ptr 1 0 0)),(2,(.bool b2)),(52,(.list AC G3 l52)),(53,(.i x53)),(54,(.i x54))],[(1,(AA (.box (Md.cs m))))]⟩
 (ES again ⟨[1,2,52,53,54],[1],[]⟩ k)=
 (cond (AE (x54<x53))
 (cond (AE (0<=x54)&&AE (x54<ic (AN l52)))
 (cond (AE (IV.toInt (IV.cell (AQ l52 (AM x54) default) 0)<0))
 (k .ret ⟨[(1,(.ptr 1 0 0)),(2,(.bool AD)),(52,(.list AC G3 l52)),(53,(.i x53)),(54,(.i x54))],[(1,(AA (.box (Md.cs m))))]⟩)
 (cond (AE (IV.toInt (IV.cell (AQ l52 (AM x54) default) 0)>=Md.c m))
 (k .ret ⟨[(1,(.ptr 1 0 0)),(2,(.bool AD)),(52,(.list AC G3 l52)),(53,(.i x53)),(54,(.i x54))],[(1,(AA (.box (Md.cs m))))]⟩)
 (cond (!F5 (IV.toList (IV.cell (AQ l52 (AM x54) default) 1)) (Md.d m))
 (k .ret ⟨[(1,(.ptr 1 0 0)),(2,(.bool AD)),(52,(.list AC G3 l52)),(53,(.i x53)),(54,(.i x54))],[(1,(AA (.box (Md.cs m))))]⟩)
 (again ⟨[(1,(.ptr 1 0 0)),(2,(.bool b2)),(52,(.list AC G3 l52)),(53,(.i x53)),(54,(.i (AI AJ (x54+1))))],[(1,(AA (.box (Md.cs m))))]⟩))))
 AB)
 (k (.exit 2) ⟨[(1,(.ptr 1 0 0)),(2,(.bool b2)),(52,(.list AC G3 l52)),(53,(.i x53)),(54,(.i x54))],[(1,(AA (.box (Md.cs m))))]⟩)):=AF
theorem iw(N:Nat)(m:Md)(b2:Bool)(l52:LI)(x53 x54:Int):(DZ 2 (D1 (J3 N) (DU NC [1,1,1,1]) (D4 (J3 N) AB [.tmp 2] [[.bool]]))) (.exit 2)
 ⟨[(1,(.ptr 1 0 0)),(2,(.bool b2)),(52,(.list AC G3 l52)),(53,(.i x53)),(54,(.i x54))],[(1,(AA (.box (Md.cs m))))]⟩=
 (AA (.bool AC,[])):=AF
theorem qY(N:Nat)(m:Md)(b2:Bool)(l52:LI)(x53 x54:Int):(DZ 2 (D1 (J3 N) (DU NC [1,1,1,1]) (D4 (J3 N) AB [.tmp 2] [[.bool]]))) .ret
 ⟨[(1,(.ptr 1 0 0)),(2,(.bool b2)),(52,(.list AC G3 l52)),(53,(.i x53)),(54,(.i x54))],[(1,(AA (.box (Md.cs m))))]⟩=
 (AA (.bool b2,[])):=AF
def ME(N:Nat):Env:=EI [(75,SY),(190,dR)] [(5,⟨[1,5,6,7,28,29,30],[5],[]⟩)] 46 N
theorem yn(N:Nat)(m:Md)(u00:Int)(p:Pt):EB (ME N) PO [.tmp 6] [[.z]] [(Md.V m),.i u00,(Pt.V p)]=
 (cond (!ET m)
 (AA (.i 0,[]))
 (cond (AE (u00<0))
 (AA (.i 0,[]))
 (cond (AE (u00>=Md.c m))
 (AA (.i 0,[]))
 (cond (AE (u00=ic 0))
 (D7 (ME N) (DU PO [1,1,1,0,1,0,0]) ⟨[1,5,6,7,28,29,30],[5],[]⟩ N ⟨[(1,(.i u00)),(5,(.ptr 5 0 0)),(6,(.i 0)),(7,(.i (Md.b0 m))),(28,(.list AC G3 (Md.ts m))),(29,(.i (ic (AN (Md.ts m))))),(30,(.i 0))],[(5,(AA (.box (Pt.cs p))))]⟩ (DZ 0 (D1 (ME N) (DU PO [1,1,1,1]) (D4 (ME N) AB [.tmp 6] [[.z]]))))
 (cond (AE (u00=ic 1))
 (D7 (ME N) (DU PO [1,1,1,0,1,0,0]) ⟨[1,5,6,7,28,29,30],[5],[]⟩ N ⟨[(1,(.i u00)),(5,(.ptr 5 0 0)),(6,(.i 0)),(7,(.i (Md.b1 m))),(28,(.list AC G3 (Md.ts m))),(29,(.i (ic (AN (Md.ts m))))),(30,(.i 0))],[(5,(AA (.box (Pt.cs p))))]⟩ (DZ 0 (D1 (ME N) (DU PO [1,1,1,1]) (D4 (ME N) AB [.tmp 6] [[.z]]))))
 (cond (AE (u00=ic 2))
 (D7 (ME N) (DU PO [1,1,1,0,1,0,0]) ⟨[1,5,6,7,28,29,30],[5],[]⟩ N ⟨[(1,(.i u00)),(5,(.ptr 5 0 0)),(6,(.i 0)),(7,(.i (Md.b2 m))),(28,(.list AC G3 (Md.ts m))),(29,(.i (ic (AN (Md.ts m))))),(30,(.i 0))],[(5,(AA (.box (Pt.cs p))))]⟩ (DZ 0 (D1 (ME N) (DU PO [1,1,1,1]) (D4 (ME N) AB [.tmp 6] [[.z]]))))
 AB)))))):=AF
theorem Se(N:Nat)(p:Pt)(x1 x6 x7:Int)(l28:LI)(x29 x30:Int)(again:St->DW)(k:Out->St->DW):E3 (ME N) (DU PO [1,1,1,0,1,0,0])
 ⟨[(1,(.i x1)),(5,(.ptr 5 0 0)),(6,(.i x6)),(7,(.i x7)),(28,(.list AC G3 l28)),(29,(.i x29)),(30,(.i x30))],[(5,(AA (.box (Pt.cs p))))]⟩
 (ES again ⟨[1,5,6,7,28,29,30],[5],[]⟩ k)=
 (cond (AE (x30<x29))
 (cond (AE (0<=x30)&&AE (x30<ic (AN l28)))
 (cond (IV.toInt (IV.cell (AQ l28 (AM x30) default) 0)==x1)
 (again ⟨[(1,(.i x1)),(5,(.ptr 5 0 0)),(6,(.i x6)),(7,(.i (AI AJ (x7+G1 (IV.toList (IV.cell (AQ l28 (AM x30) default) 1)) p)))),(28,(.list AC G3 l28)),(29,(.i x29)),(30,(.i (AI AJ (x30+1))))],[(5,(AA (.box (Pt.cs p))))]⟩)
 (again ⟨[(1,(.i x1)),(5,(.ptr 5 0 0)),(6,(.i x6)),(7,(.i x7)),(28,(.list AC G3 l28)),(29,(.i x29)),(30,(.i (AI AJ (x30+1))))],[(5,(AA (.box (Pt.cs p))))]⟩))
 AB)
 (k (.exit 0) ⟨[(1,(.i x1)),(5,(.ptr 5 0 0)),(6,(.i x6)),(7,(.i x7)),(28,(.list AC G3 l28)),(29,(.i x29)),(30,(.i x30))],[(5,(AA (.box (Pt.cs p))))]⟩)):=AF
theorem ir(N:Nat)(p:Pt)(x1 x6 x7:Int)(l28:LI)(x29 x30:Int):(DZ 0 (D1 (ME N) (DU PO [1,1,1,1]) (D4 (ME N) AB [.tmp 6] [[.z]]))) (.exit 0)
 ⟨[(1,(.i x1)),(5,(.ptr 5 0 0)),(6,(.i x6)),(7,(.i x7)),(28,(.list AC G3 l28)),(29,(.i x29)),(30,(.i x30))],[(5,(AA (.box (Pt.cs p))))]⟩=
 (AA (.i x7,[])):=AF
open Go Go.Proofs
def J4(N:Nat):Env:=EI [(78,OJ)] [(5,⟨[0,1,4,5,20,21,22],[19],[]⟩),(17,⟨[0,4,5,10],[19],[]⟩)] 94 N
theorem yt(N:Nat)(l:LI)(a1:Int):EB (J4 N) ND [.tmp 4] [[.bool]] [(.list AD [.int .u64] l),(.i a1)]=
 (cond (AE (ic (AN l)<1))
 (AA (.bool AD,[]))
 (cond (AE (ic (AN l)>31))
 (AA (.bool AD,[]))
 (D7 (J4 N) (DU ND [1,1,1,0,1,0,0]) ⟨[0,1,4,5,20,21,22],[19],[]⟩ N ⟨[(0,(.list AD [(.int .u64)] l)),(1,(.i a1)),(4,(.bool AD)),(5,(.ptr 19 0 0)),(20,(.list AD [(.int .u64)] l)),(21,(.i (ic (AN l)))),(22,(.i 0))],[(19,(AA (.map .z [])))]⟩ (DZ 0 (D1 (J4 N) (DU ND [1,1,1,1]) (D4 (J4 N) AB [(B9 4)] [[.bool]])))))):=AF
theorem Sg(N:Nat)(l0:LI)(x1:Int)(b4:Bool)(l20:LI)(x21 x22:Int)(mo19:List (Int×IV))(again:St->DW)(k:Out->St->DW):E3 (J4 N) (DU ND [1,1,1,0,1,0,0])
 ⟨[(0,(.list AD [(.int .u64)] l0)),(1,(.i x1)),(4,(.bool b4)),(5,(.ptr 19 0 0)),(20,(.list AD [(.int .u64)] l20)),(21,(.i x21)),(22,(.i x22))],[(19,(AA (.map .z mo19)))]⟩
 (ES again ⟨[0,1,4,5,20,21,22],[19],[]⟩ k)=
 (cond (AE (x22<x21))
 (cond (AE (0<=x22)&&AE (x22<ic (AN l20)))
 (cond (!FJ (IV.toInt (AQ l20 (AM x22) default)))
 (k .ret ⟨[(0,(.list AD [(.int .u64)] l0)),(1,(.i x1)),(4,(.bool AD)),(5,(.ptr 19 0 0)),(20,(.list AD [(.int .u64)] l20)),(21,(.i x21)),(22,(.i x22))],[(19,(AA (.map .z mo19)))]⟩)
 (cond (Nd.lf (DV (IV.toInt (AQ l20 (AM x22) default))))
 (again ⟨[(0,(.list AD [(.int .u64)] l0)),(1,(.i x1)),(4,(.bool b4)),(5,(.ptr 19 0 0)),(20,(.list AD [(.int .u64)] l20)),(21,(.i x21)),(22,(.i (AI AJ (x22+1))))],[(19,(AA (.map .z mo19)))]⟩)
 (cond (AE (Nd.f (DV (IV.toInt (AQ l20 (AM x22) default)))>=x1))
 (k .ret ⟨[(0,(.list AD [(.int .u64)] l0)),(1,(.i x1)),(4,(.bool AD)),(5,(.ptr 19 0 0)),(20,(.list AD [(.int .u64)] l20)),(21,(.i x21)),(22,(.i x22))],[(19,(AA (.map .z mo19)))]⟩)
 (cond (AE (Nd.l (DV (IV.toInt (AQ l20 (AM x22) default)))<=x22))
 (k .ret ⟨[(0,(.list AD [(.int .u64)] l0)),(1,(.i x1)),(4,(.bool AD)),(5,(.ptr 19 0 0)),(20,(.list AD [(.int .u64)] l20)),(21,(.i x21)),(22,(.i x22))],[(19,(AA (.map .z mo19)))]⟩)
 (cond (AE (Nd.r (DV (IV.toInt (AQ l20 (AM x22) default)))<=x22))
 (k .ret ⟨[(0,(.list AD [(.int .u64)] l0)),(1,(.i x1)),(4,(.bool AD)),(5,(.ptr 19 0 0)),(20,(.list AD [(.int .u64)] l20)),(21,(.i x21)),(22,(.i x22))],[(19,(AA (.map .z mo19)))]⟩)
 (cond (AE (Nd.l (DV (IV.toInt (AQ l20 (AM x22) default)))>=ic (AN l0)))
 (k .ret ⟨[(0,(.list AD [(.int .u64)] l0)),(1,(.i x1)),(4,(.bool AD)),(5,(.ptr 19 0 0)),(20,(.list AD [(.int .u64)] l20)),(21,(.i x21)),(22,(.i x22))],[(19,(AA (.map .z mo19)))]⟩)
 (cond (AE (Nd.r (DV (IV.toInt (AQ l20 (AM x22) default)))>=ic (AN l0)))
 (k .ret ⟨[(0,(.list AD [(.int .u64)] l0)),(1,(.i x1)),(4,(.bool AD)),(5,(.ptr 19 0 0)),(20,(.list AD [(.int .u64)] l20)),(21,(.i x21)),(22,(.i x22))],[(19,(AA (.map .z mo19)))]⟩)
 (cond (Nd.l (DV (IV.toInt (AQ l20 (AM x22) default)))==Nd.r (DV (IV.toInt (AQ l20 (AM x22) default))))
 (k .ret ⟨[(0,(.list AD [(.int .u64)] l0)),(1,(.i x1)),(4,(.bool AD)),(5,(.ptr 19 0 0)),(20,(.list AD [(.int .u64)] l20)),(21,(.i x21)),(22,(.i x22))],[(19,(AA (.map .z mo19)))]⟩)
 (again ⟨[(0,(.list AD [(.int .u64)] l0)),(1,(.i x1)),(4,(.bool b4)),(5,(.ptr 19 0 0)),(20,(.list AD [(.int .u64)] l20)),(21,(.i x21)),(22,(.i (AI AJ (x22+1))))],[(19,(AA (.map .z (H6 (H6 mo19 (Nd.l (DV (IV.toInt (AQ l20 (AM x22) default)))) (IV.int (AI AJ (IV.toInt (KF (Kd.int AJ) mo19 (Nd.l (DV (IV.toInt (AQ l20 (AM x22) default)))))+1)))) (Nd.r (DV (IV.toInt (AQ l20 (AM x22) default)))) (IV.int (AI AJ (IV.toInt (KF (Kd.int AJ) (H6 mo19 (Nd.l (DV (IV.toInt (AQ l20 (AM x22) default)))) (IV.int (AI AJ (IV.toInt (KF (Kd.int AJ) mo19 (Nd.l (DV (IV.toInt (AQ l20 (AM x22) default)))))+1)))) (Nd.r (DV (IV.toInt (AQ l20 (AM x22) default)))))+1)))))))]⟩)))))))))
 AB)
 (k (.exit 0) ⟨[(0,(.list AD [(.int .u64)] l0)),(1,(.i x1)),(4,(.bool b4)),(5,(.ptr 19 0 0)),(20,(.list AD [(.int .u64)] l20)),(21,(.i x21)),(22,(.i x22))],[(19,(AA (.map .z mo19)))]⟩)):=AF
theorem iy(N:Nat)(l0:LI)(x1:Int)(b4:Bool)(l20:LI)(x21 x22:Int)(mo19:List (Int×IV)):(DZ 0 (D1 (J4 N) (DU ND [1,1,1,1]) (D4 (J4 N) AB [(B9 4)] [[.bool]]))) (.exit 0)
 ⟨[(0,(.list AD [(.int .u64)] l0)),(1,(.i x1)),(4,(.bool b4)),(5,(.ptr 19 0 0)),(20,(.list AD [(.int .u64)] l20)),(21,(.i x21)),(22,(.i x22))],[(19,(AA (.map .z mo19)))]⟩=
 (D7 (J4 N) (DU ND [1,1,1,1,0,1,0,0]) ⟨[0,4,5,10],[19],[]⟩ N ⟨[(0,(.list AD [(.int .u64)] l0)),(4,(.bool b4)),(5,(.ptr 19 0 0)),(10,(.i 1))],[(19,(AA (.map .z mo19)))]⟩ (DZ 2 (D1 (J4 N) (DU ND [1,1,1,1,1]) (D4 (J4 N) AB [(B9 4)] [[.bool]])))):=AF
theorem iz(N:Nat)(l0:LI)(x1:Int)(b4:Bool)(l20:LI)(x21 x22:Int)(mo19:List (Int×IV)):(DZ 0 (D1 (J4 N) (DU ND [1,1,1,1]) (D4 (J4 N) AB [(B9 4)] [[.bool]]))) .ret
 ⟨[(0,(.list AD [(.int .u64)] l0)),(1,(.i x1)),(4,(.bool b4)),(5,(.ptr 19 0 0)),(20,(.list AD [(.int .u64)] l20)),(21,(.i x21)),(22,(.i x22))],[(19,(AA (.map .z mo19)))]⟩=
 (AA (.bool b4,[])):=AF
theorem Sh(N:Nat)(l0:LI)(b4:Bool)(x10:Int)(mo19:List (Int×IV))(again:St->DW)(k:Out->St->DW):E3 (J4 N) (DU ND [1,1,1,1,0,1,0,0])
 ⟨[(0,(.list AD [(.int .u64)] l0)),(4,(.bool b4)),(5,(.ptr 19 0 0)),(10,(.i x10))],[(19,(AA (.map .z mo19)))]⟩
 (ES again ⟨[0,4,5,10],[19],[]⟩ k)=
 (cond (AE (x10<ic (AN l0)))
 (cond (IV.toInt (KF (Kd.int AJ) mo19 x10)!=1)
 (k .ret ⟨[(0,(.list AD [(.int .u64)] l0)),(4,(.bool AD)),(5,(.ptr 19 0 0)),(10,(.i x10))],[(19,(AA (.map .z mo19)))]⟩)
 (again ⟨[(0,(.list AD [(.int .u64)] l0)),(4,(.bool b4)),(5,(.ptr 19 0 0)),(10,(.i (AI AJ (x10+1))))],[(19,(AA (.map .z mo19)))]⟩))
 (k (.exit 2) ⟨[(0,(.list AD [(.int .u64)] l0)),(4,(.bool b4)),(5,(.ptr 19 0 0)),(10,(.i x10))],[(19,(AA (.map .z mo19)))]⟩)):=AF
theorem ja(N:Nat)(l0:LI)(b4:Bool)(x10:Int)(mo19:List (Int×IV)):(DZ 2 (D1 (J4 N) (DU ND [1,1,1,1,1]) (D4 (J4 N) AB [(B9 4)] [[.bool]]))) (.exit 2)
 ⟨[(0,(.list AD [(.int .u64)] l0)),(4,(.bool b4)),(5,(.ptr 19 0 0)),(10,(.i x10))],[(19,(AA (.map .z mo19)))]⟩=
 (AA (.bool AC,[])):=AF
theorem jb(N:Nat)(l0:LI)(b4:Bool)(x10:Int)(mo19:List (Int×IV)):(DZ 2 (D1 (J4 N) (DU ND [1,1,1,1,1]) (D4 (J4 N) AB [(B9 4)] [[.bool]]))) .ret
 ⟨[(0,(.list AD [(.int .u64)] l0)),(4,(.bool b4)),(5,(.ptr 19 0 0)),(10,(.i x10))],[(19,(AA (.map .z mo19)))]⟩=
 (AA (.bool b4,[])):=AF
open Go Go.Proofs
set_option maxRecDepth 100000
theorem Pn:D9 PR B0 145 WR:=by
 refine EJ [] [] WR [[.z,.z]] Tryz.func145 pp trivial ?_;intro vs r hwf h;unfold WR at h;split at h
 .rename_i a b;replace h:=jZ h;obtain⟨a,rfl,h⟩:=h;replace h:=jZ h;obtain⟨b,rfl,h⟩:=h;rw[R.get_ok]at h;refine⟨0,?_⟩;rw[<-h];refine(yl 0 a b).trans ?_;unfold Sp.meet LT;cases AE (max a.lo b.lo>min a.hi b.hi)<;>rfl
 .simp[R.get]at h
theorem Ij{w:Int}(h0:0<=w)(h1:w<18446744073709551616):∃n:Nat,n<4294967296/\GI w 4294967295=(n:Int)/\(w<4294967296->(n:Int)=w):=by
 obtain⟨k,rfl⟩:=Int.eq_ofNat_of_zero_le h0;refine⟨k&&&4294967295,?_,?_,λhk=>?_⟩
 .exact Nat.lt_of_le_of_lt Nat.and_le_right (by decide)
 .exact o0 (x:=k) (y:=4294967295) AG (by decide)
 .have:k&&&(2^32-1)=k:=by rw[Nat.and_two_pow_sub_one_eq_mod];exact Nat.mod_eq_of_lt AG
  exact congrArg Int.ofNat this
theorem zd2:D9 PR B0 137 dP:=by
 refine EJ [] [] dP [[.z]] Tryz.func137 pq trivial ?_;intro vs r hwf h;unfold dP at h;split at h
 .rename_i n w;cases hg:(AE (w=32)&&(AE (0<=n)&&AE (n<=4294967295)))with
  |false=>rw[hg]at h;simp[R.get]at h
  |true=>
  rw[hg,R.get_br,DS,R.get_ok]at h;simp only[AP,AW]at hg;obtain⟨rfl,h0,h1⟩:=hg;refine⟨0,(ym 0 n 32).trans ?_⟩;rw[<-h];have e0:GT n=n:=by
   unfold GT;rw[Q4];omega
  obtain⟨k,hk,e1,e2⟩:=Ij (w:=GT n) AG AG;have e3:(k:Int)=n:=by rw[e2 AG,e0]
  show cond (C3 (GI (GT n) 4294967295) 2147483648==1) (AA (V.int .i64 (D6 (D6 (GI (GT n) 4294967295)-4294967296)),[])) (AA (V.int .i64 (D6 (GI (GT n) 4294967295)),[]))=_;rw[e1,e3];have e4:D6 n=n:=ER AG AG;rw[e4];by_cases hn:n<2147483648
  .have e5:(C3 n 2147483648==1)=AD:=by
    rw[vaD _ AG];exact BI.2 AG
   rw[e5,DT,zf2 h0 hn]
  .have e5:(C3 n 2147483648==1)=AC:=by
    rw[vaD _ AG];exact CE.2 AG
   rw[e5,DS,zf1 AG h1];rw[show D6 (n-4294967296)=n-4294967296 from ER AG AG]
 .simp[R.get]at h
theorem mf(w:Int):HB w 0 32=GI w 4294967295:=by
 unfold HB;rw[show OY 32=4294967295 by decide,show(2:Int)^AM 0=1 from rfl,vaD _ AG,Int.ediv_one]
def cA:V:=.agg [.bool AD,.i 0,.i 0,.i 0,.i 0,.i 0]
def oL(x:Nd)(w:Int):DW:=cond (!IQ x) (AA (.tup [cA,.bool AD],[])) (cond (HG x !=w) (AA (.tup [cA,.bool AD],[])) (AA (.tup [x.V,.bool AC],[])))
theorem Va{x:Nd}{w:Int}(hx:L7 w=x):oL x w=AA (.tup [.agg [.bool (DV w).lf,.i (DV w).v,.i (DV w).f,.i (DV w).a,.i (DV w).l,.i (DV w).r],.bool (FJ w)],[]):=by
 have e:FJ w=(IQ x&&(HG x==w)):=by
  rw[<-vz];unfold vA;rw[hx]
 unfold oL DV;rw[e,hx];show cond (!IQ x) _ (cond (!(HG x==w)) _ _)=_;cases IQ x<;>cases HG x==w<;>rfl
theorem jG:D9 PR B0 78 OJ:=by
 refine EJ [(137,dP),(74,SX),(133,WS)] [] OJ [[.bool,.z,.z,.z,.z,.z],[.bool]] Tryz.func78 pz ⟨zd2,wI,Po,trivial⟩ ?_;intro vs r hwf h;unfold OJ at h;split at h
 .rename_i w;rw[R.get_ok]at h;refine⟨0,(yu 0 w).trans ?_⟩;rw[<-h];have hb:=(hwf (by simp[K4])).1;simp only[QC,wfL]at hb;obtain⟨h0,h1⟩:=hb;have e0:AO.min=0:=rfl;have e1:AO.max=18446744073709551615:=rfl;rw[e0]at h0;rw[e1]at h1;obtain⟨k,hk,ek,_⟩:=Ij h0 AG;have es:KK (D6 (GI w 4294967295))=L9 w:=by unfold L9;rw[mf]
  have ew:D6 (GI w 4294967295)=(k:Int):=by rw[ek];exact ER AG AG
  have g:(AE ((32:Int)=32)&&(AE (0<=D6 (GI w 4294967295))&&AE (D6 (GI w 4294967295)<=4294967295)))=AC:=by
   rw[ew,AL (show(0:Int)<=(k:Int) by omega),AL (show(k:Int)<=4294967295 by omega)];rfl
  have ht:=zfv h0 AG;show cond (C3 w 9223372036854775808==1)
   (cond (AE ((32:Int)=32)&&(AE (0<=D6 (GI w 4294967295))&&AE (D6 (GI w 4294967295)<=4294967295)))
    (cond (!QY AC (KK (D6 (GI w 4294967295))) 0 0 0 0) (AA (V.tup [cA,V.bool AD],[])) (cond (HT AC (KK (D6 (GI w 4294967295))) 0 0 0 0!=w) (AA (V.tup [cA,V.bool AD],[])) (AA (V.tup [(Nd.mk AC (KK (D6 (GI w 4294967295))) 0 0 0 0).V,.bool AC],[])))) AB)
   (cond (AE ((32:Int)=32)&&(AE (0<=D6 (GI w 4294967295))&&AE (D6 (GI w 4294967295)<=4294967295)))
    (cond (!QY AD 0 (D6 (GI (C3 w 4294967296) 15)) (KK (D6 (GI w 4294967295))) (D6 (GI (C3 w 1099511627776) 255)) (D6 (GI (C3 w 281474976710656) 255))) (AA (V.tup [cA,V.bool AD],[]))
     (cond (HT AD 0 (D6 (GI (C3 w 4294967296) 15)) (KK (D6 (GI w 4294967295))) (D6 (GI (C3 w 1099511627776) 255)) (D6 (GI (C3 w 281474976710656) 255))!=w) (AA (V.tup [cA,V.bool AD],[]))
      (AA (V.tup [(Nd.mk AD 0 (D6 (GI (C3 w 4294967296) 15)) (KK (D6 (GI w 4294967295))) (D6 (GI (C3 w 1099511627776) 255)) (D6 (GI (C3 w 281474976710656) 255))).V,.bool AC],[])))) AB)=_
  rw[g,DS,DS,es];cases hw:C3 w 9223372036854775808==1 with
  |true=>
   rw[hw]at ht;have rd:L7 w=⟨AC,L9 w,0,0,0,0⟩:=by unfold L7;rw[ht];rfl
   rw[DS,<-Va rd];unfold oL;rw[<-mY,<-uH]
  |false=>
   rw[hw]at ht;have m4:OY 4=15:=by decide
   have m8:OY 8=255:=by decide
   have r4:HB w 32 4=GI (C3 w 4294967296) 15:=by unfold HB;rw[m4];rfl
   have r5:HB w 40 8=GI (C3 w 1099511627776) 255:=by unfold HB;rw[m8];rfl
   have r6:HB w 48 8=GI (C3 w 281474976710656) 255:=by unfold HB;rw[m8];rfl
   have rd:L7 w=⟨AD,0,D6 (GI (C3 w 4294967296) 15),L9 w,D6 (GI (C3 w 1099511627776) 255),D6 (GI (C3 w 281474976710656) 255)⟩:=by unfold L7;rw[ht,r4,r5,r6];rfl
   rw[DT,<-Va rd];unfold oL;rw[<-mY,<-uH]
 .simp[R.get]at h
def XM(l:LI)(i:Nat)(es:List (Int×IV)):Prop:=∀j:Nat,(KF .z es (j:Int)).toInt=((G5 (l.take i) j:Nat):Int)
theorem db{l:LI}{i:Nat}{w:IV}{es:List (Int×IV)}(h:l[i]?=AA w)(hl:(DV w.toInt).lf=AC)(hc:XM l i es):XM l (i+1) es:=λj=>by
 rw[hc j,mX h];unfold KQ;rw[hl];rfl
theorem da{l:LI}{i:Nat}{w:IV}{es:List (Int×IV)}(h:l[i]?=AA w)(hl:(DV w.toInt).lf=AD)(hn:l.length<=31){a b:Nat}(ha:(DV w.toInt).l=(a:Int))(hb:(DV w.toInt).r=(b:Int))(hab:a≠b)(hc:XM l i es):
  XM l (i+1) (H6 (H6 es (a:Int) (IV.int (AI AJ (IV.toInt (KF (Kd.int AJ) es (a:Int))+1)))) (b:Int) (IV.int (AI AJ (IV.toInt (KF (Kd.int AJ) (H6 es (a:Int) (IV.int (AI AJ (IV.toInt (KF (Kd.int AJ) es (a:Int))+1)))) (b:Int))+1)))):=λj=>by
 have hsm:∀j,G5 (l.take i) j<=62:=λj=>by
  have:=tI (l.take i) j
  rw[BJ]at this;omega
 have eab:((a:Int)==(b:Int))=AD:=BI.2 AG;have wa:AI AJ (((G5 (l.take i) a:Nat):Int)+1)=((G5 (l.take i) a:Nat):Int)+1:=ER AG (by have:=hsm a;omega);have wb:AI AJ (((G5 (l.take i) b:Nat):Int)+1)=((G5 (l.take i) b:Nat):Int)+1:=ER AG (by have:=hsm b;omega);rw[sZ,sZ,sZ,eab,BC,hc a,hc b,wa,wb,mX h];have e:KQ (DV w.toInt) j=(if a=j then 1 else 0)+(if b=j then 1 else 0):=by
  unfold KQ;rw[hl,ha,hb,BC];have e1:((a:Int)=(j:Int))↔a=j:=by omega
  have e2:((b:Int)=(j:Int))↔b=j:=by omega
  simp only[e1,e2]
 rw[e];by_cases h1:b=j
 .subst h1;rw[DA,BN,BO hab,B3 rfl];show((G5 (l.take i) b:Nat):Int)+1=_;omega
 .have e1:((b:Int)==(j:Int))=AD:=BI.2 AG;rw[e1,BC,BO h1];by_cases h2:a=j
  .subst h2;rw[DA,BN,B3 rfl];show((G5 (l.take i) a:Nat):Int)+1=_;omega
  .have e2:((a:Int)==(j:Int))=AD:=BI.2 AG;rw[e2,BC,BO h2,hc j];omega
abbrev yD(l:LI)(dim:Int)(b:Bool)(i:Int)(es:List (Int×IV)):St:=
 ⟨[(0,(.list AD [(.int .u64)] l)),(1,(.i dim)),(4,(.bool b)),(5,(.ptr 19 0 0)),(20,(.list AD [(.int .u64)] l)),(21,(.i (ic (AN l)))),(22,(.i i))],[(19,(AA (.map .z es)))]⟩
theorem vQ(N:Nat)(l:LI)(dim:Int)(hl:l.length<=31)(K:Out->St->DW)(R:DW)(hK:∀i es,K .ret (yD l dim AD i es)=AA (.bool AD,[]))(hx:∀es,XM l l.length es->K (.exit 0) (yD l dim AD (ic l.length) es)=R):∀(d i n:Nat) (es:List (Int×IV)),XM l i es->i+d=l.length->d<n->
  D7 (J4 N) (DU ND [1,1,1,0,1,0,0]) ⟨[0,1,4,5,20,21,22],[19],[]⟩ n (yD l dim AD (i:Int) es) K=
   cond (IY dim (ic l.length) i (l.drop i)) R (AA (.bool AD,[]))
 |d,i,0,_,_,_,h=>absurd h AG
 |0,i,n+1,es,hc,hd,_=>by
  have hi:i=l.length:=by omega
  subst hi;rw[ED,Sg];rw[AS (show¬((l.length:Nat):Int)<ic l.length by simp only[ic];omega),DT,C4];exact hx es hc
 |d+1,i,n+1,es,hc,hd,hn=>by
  have hil:i<l.length:=by omega
  have hw:l[i]?=AA l[i]:=BF hil;rw[ED,Sg,BD hil];have hg:l.getD (AM (i:Int)) default=l[i]:=by
   rw[BH,BK,hw];rfl
  rw[hg];generalize l[i]=w at hw ⊢;have ei:AI AJ ((i:Int)+1)=((i+1:Nat):Int):=by
   rw[ER AG AG];omega
  rw[ei,AL (show(i:Int)<ic l.length by simp only[ic];omega),DS,AL (show(0:Int)<=(i:Int) by omega),BX,DS];unfold IY;cases hb:FJ w.toInt with
  |false=>
   simp only[BG,DS,BP,DT];exact hK (i:Int) es
  |true=>
   simp only[A9,DT,BE];unfold N2;cases hlf:(DV w.toInt).lf with
   |true=>
    simp only[DS,BE];exact vQ N l dim hl K R hK hx d (i+1) n es (db hw hlf hc) AG AG
   |false=>
    simp only[DT];cases h1:AE ((DV w.toInt).f>=dim)with
    |true=>
     simp only[DS,A9,BP,DT];exact hK (i:Int) es
    |false=>
    cases h3:AE (min (DV w.toInt).l (DV w.toInt).r<=(i:Int))with
    |true=>
     have g3:=BB h3;simp only[A9,BP,DB,DT];by_cases h5:(DV w.toInt).l<=(i:Int)
     .rw[AL h5,DS];exact hK (i:Int) es
     .rw[AS h5,DT,AL (show(DV w.toInt).r<=(i:Int) by omega),DS];exact hK (i:Int) es
    |false=>
     have g3:=BM h3;rw[DT,AS (show¬(DV w.toInt).l<=(i:Int) by omega),DT,AS (show¬(DV w.toInt).r<=(i:Int) by omega),DT];cases h4:AE (max (DV w.toInt).l (DV w.toInt).r>=ic l.length)with
     |true=>
      have g4:=BB h4;simp only[A9,BP,DB,DT];by_cases h5:(DV w.toInt).l>=ic l.length
      .rw[AL h5,DS];exact hK (i:Int) es
      .rw[AS h5,DT,AL (show(DV w.toInt).r>=ic l.length by omega),DS];exact hK (i:Int) es
     |false=>
      have g4:=BM h4;rw[AS (show¬(DV w.toInt).l>=ic l.length by omega),DT,AS (show¬(DV w.toInt).r>=ic l.length by omega),DT];cases h2:((DV w.toInt).l==(DV w.toInt).r)with
      |true=>
       simp only[DS,DT,A9,BG,BP,DB];exact hK (i:Int) es
      |false=>
       have g2:(DV w.toInt).l≠(DV w.toInt).r:=BI.1 h2;simp only[ic]at g4;obtain⟨a,ha⟩:∃a:Nat,(DV w.toInt).l=(a:Int):=⟨(DV w.toInt).l.toNat,by omega⟩;obtain⟨b,hb'⟩:∃b:Nat,(DV w.toInt).r=(b:Int):=⟨(DV w.toInt).r.toNat,by omega⟩;have hab:a≠b:=λe=>g2 (by rw[ha,hb',e])
       have hN:=da hw hlf hl ha hb' hab hc;rw[DT,ha,hb'];simp only[BG,BX,BE];exact vQ N l dim hl K R hK hx d (i+1) n _ hN AG AG
abbrev zgb(l:LI)(b:Bool)(j:Int)(es:List (Int×IV)):St:=
 ⟨[(0,(.list AD [(.int .u64)] l)),(4,(.bool b)),(5,(.ptr 19 0 0)),(10,(.i j))],[(19,(AA (.map .z es)))]⟩
theorem Np(N:Nat)(l:LI)(es:List (Int×IV))(hl:l.length<=31)(hc:XM l l.length es):∀(d j n:Nat),j+1+d=l.length->d<n->
  D7 (J4 N) (DU ND [1,1,1,1,0,1,0,0]) ⟨[0,4,5,10],[19],[]⟩ n (zgb l AD ((j+1:Nat):Int) es) (DZ 2 (D1 (J4 N) (DU ND [1,1,1,1,1]) (D4 (J4 N) AB [(B9 4)] [[.bool]])))=
   AA (.bool ((va8 j d).all λj=>G5 l (j+1)==1),[])
 |d,j,0,_,h=>absurd h AG
 |0,j,n+1,hd,_=>by
  rw[ED,Sh,AS (show¬((j+1:Nat):Int)<ic l.length by simp only[ic];omega),DT];exact ja N l AD _ es
 |d+1,j,n+1,hd,hn=>by
  have ej:AI AJ (((j+1:Nat):Int)+1)=((j+1+1:Nat):Int):=by
   rw[ER AG AG];omega
  have hg:=hc (j+1);rw[BW]at hg;rw[ED,Sh,ej,AL (show((j+1:Nat):Int)<ic l.length by simp only[ic];omega),DS,hg,List.range'_succ,van];have e:(((G5 l (j+1):Nat):Int)!=1)=!(G5 l (j+1)==1):=by
   show(!(((G5 l (j+1):Nat):Int)==1))=_;congr 1;rw[vac,CE,CE];omega
  rw[e];cases(G5 l (j+1)==1)with
  |false=>
   rw[BG,DS];exact jb N l AD _ es
  |true=>
   rw[A9,DT,BE];exact Np N l es hl hc d (j+1) n AG AG
theorem Pp:D9 PR B0 135 WT:=by
 refine EJ [(78,OJ)] [(5,⟨[0,1,4,5,20,21,22],[19],[]⟩),(17,⟨[0,4,5,10],[19],[]⟩)] WT [[.bool]] Tryz.func135 py ⟨jG,trivial⟩ ?_;intro vs r hwf h;unfold WT at h;split at h
 .rename_i l dim;rw[R.get_ok]at h;refine⟨40,(yt 40 l dim).trans ?_⟩;rw[<-h];unfold F5;by_cases h1:1<=l.length
  .by_cases h2:l.length<=31
   .rw[AS (show¬ic l.length<1 by simp only[ic];omega),AS (show¬ic l.length>31 by simp only[ic];omega),DT,DT,CU h1,CU h2];refine(vQ 40 l dim h2 _ (AA (.bool (VH l),[])) (λi es=>?_) (λes hc=>?_) l.length 0 40 [] (λj=>?_) AG AG).trans ?_
    .exact iz 40 l dim AD l (ic l.length) i es
    .refine(iy 40 l dim AD l (ic l.length) (ic l.length) es).trans ?_;refine(Np 40 l es h2 hc (l.length-1) 0 40 AG AG).trans ?_;unfold VH;rw[List.range_eq_range']
    .rw[vl,List.take_zero];rfl
    .rw[CA];cases IY dim (ic l.length) 0 l<;>rfl
   .have e:CF l.length 31=AD:=by
     cases hb:CF l.length 31 with
     |false=>rfl
     |true=>exact absurd (AX hb) h2
    rw[AS (show¬ic l.length<1 by simp only[ic];omega),AL (show ic l.length>31 by simp only[ic];omega),DT,DS,e,DB,BP]
  .have e:CF 1 l.length=AD:=by
    cases hb:CF 1 l.length with
    |false=>rfl
    |true=>exact absurd (AX hb) h1
   rw[AL (show ic l.length<1 by simp only[ic];omega),DS,e,BP,BP]
 .simp[R.get]at h
abbrev yF(l:LI)(p:Pt)(x4 a j:Int):St:=
 ⟨[(0,(.list AD [(.int .u64)] l)),(3,(.ptr 3 0 0)),(4,(.i x4)),(5,(.i a)),(8,(.i j))],[(3,(AA (.box (Pt.cs p))))]⟩
theorem xY(N:Nat)(l:LI)(p:Pt):∀(m j n:Nat) (a:Int),0<=a->j+m=31->m<n->
  D7 (LA N) (DU OP [1,1,0,1,0,0]) ⟨[0,3,4,5,8],[3],[]⟩ n (yF l p 0 a (j:Int)) (DZ 0 (D1 (LA N) (DU OP [1,1,1]) (D4 (LA N) AB [(B9 4)] [[.z]])))=
   AA (.i (HA l p m a).1,[])
 |m,j,0,a,_,_,h=>absurd h AG
 |0,j,n+1,a,ha,hd,_=>by
  have hj:j=31:=by omega
  subst hj;rw[ED,Si,AS (show¬((31:Nat):Int)<31 by omega),DT];exact jc N p l _ _ _
 |m+1,j,n+1,a,ha,hd,hn=>by
  have ej:AI AJ ((j:Int)+1)=((j+1:Nat):Int):=GQ AG;rw[ED,Si,AL (show(j:Int)<31 by omega),DS,HA,ej];cases hge:AE (a>=ic l.length)with
  |true=>
   rw[DS,DS];exact qZ N p l _ _ _
  |false=>
   have hge:=BM hge;rw[DT,DT,AL ha,AL (show a<ic l.length by omega),BX,DS];generalize(l.getD a.toNat default).toInt=w;cases hb:FJ w with
   |false=>
    rw[BG,DS,DS];exact qZ N p l _ _ _
   |true=>
    rw[A9,DT,DT];cases hl:(DV w).lf with
    |true=>
     rw[DS,DS];exact qZ N p l _ _ _
    |false=>
     obtain⟨⟨f0,f4⟩,⟨l1,l31⟩,⟨r1,r31⟩,_⟩:=VD hb hl;rw[DT,DT];have step:∀c:Bool,(cond c (D7 (LA N) (DU OP [1,1,0,1,0,0]) ⟨[0,3,4,5,8],[3],[]⟩ n (yF l p 0 (DV w).l ((j+1:Nat):Int)) (DZ 0 (D1 (LA N) (DU OP [1,1,1]) (D4 (LA N) AB [(B9 4)] [[.z]]))))
       (D7 (LA N) (DU OP [1,1,0,1,0,0]) ⟨[0,3,4,5,8],[3],[]⟩ n (yF l p 0 (DV w).r ((j+1:Nat):Int)) (DZ 0 (D1 (LA N) (DU OP [1,1,1]) (D4 (LA N) AB [(B9 4)] [[.z]])))))=
       AA (.i (cond c (HA l p m (DV w).l) (HA l p m (DV w).r)).1,[]):=λc=>by
      cases c with
      |true=>exact xY N l p m (j+1) n (DV w).l AG AG AG
      |false=>exact xY N l p m (j+1) n (DV w).r AG AG AG
     obtain e|e|e|e:(DV w).f=0\/(DV w).f=1\/(DV w).f=2\/(DV w).f=3:=by omega
     all_goals
      rw[e];exact step _
theorem zd5:D9 PR B0 230 dS:=by
 refine EJ [(78,OJ)] [(3,⟨[0,3,4,5,8],[3],[]⟩)] dS [[.z]] Tryz.func230 qb ⟨jG,trivial⟩ ?_;intro vs r hwf h;unfold dS at h;split at h
 .rename_i l p;replace h:=Q7 h;obtain⟨p,rfl,h⟩:=h;rw[R.get_ok]at h;refine⟨32,?_⟩;rw[<-h];exact(yx 32 l p).trans (xY 32 l p 31 0 32 0 AG rfl AG)
 .simp[R.get]at h
theorem qP(l:LI)(p:Pt):∀(n:Nat) (a:Int),0<=a->((HA l p n a).1= -1/\(HA l p n a).2=Nd.zero)\/(0<=(HA l p n a).1/\(HA l p n a).1<ic l.length/\(HA l p n a).2=DV (l.getD (HA l p n a).1.toNat default).toInt)
 |0,_,_=>.inl ⟨rfl,rfl⟩
 |n+1,a,ha=>by
  rw[HA];cases hge:AE (a>=ic l.length)with
  |true=>exact .inl ⟨rfl,rfl⟩
  |false=>
   have hge:=BM hge;rw[DT];generalize hw:(l.getD a.toNat default).toInt=w;cases hb:FJ w with
   |false=>exact .inl ⟨rfl,rfl⟩
   |true=>
    rw[A9,DT];cases hl:(DV w).lf with
    |true=>
     right;rw[DS];exact⟨ha,by show a<_;omega,by rw[hw]⟩
    |false=>
     obtain⟨_,⟨l1,_⟩,⟨r1,_⟩,_⟩:=VD hb hl;rw[DT];cases AE (p.g (DV w).f.toNat<=(DV w).a)with
     |true=>exact qP l p n _ AG
     |false=>exact qP l p n _ AG
theorem zd4:D9 PR B0 190 dR:=by
 refine EJ [(78,OJ),(230,dS)] [] dR [[.z]] Tryz.func190 qa ⟨jG,zd5,trivial⟩ ?_;intro vs r hwf h;unfold dR at h;split at h
 .rename_i l p;replace h:=Q7 h;obtain⟨p,rfl,h⟩:=h;rw[R.get_ok]at h;refine⟨0,(yw 0 l p).trans ?_⟩;rw[<-h];unfold G1 gN XT;rcases qP l p 31 0 AG with⟨e1,e2⟩|⟨e1,e2,e3⟩
  .rw[e1,e2];rfl
  .rw[AS (show¬(HA l p 31 0).1<0 by omega),DT,AL e1,AL e2,BX,DS,e3]
 .simp[R.get]at h
theorem zc6(N:Nat)(m:Md)(K:Out->St->DW)(R:DW)(hr:∀i,K .ret ⟨[(1,(.ptr 1 0 0)),(2,(.bool AD)),(32,(.agg [(.i m.b0),(.i m.b1),(.i m.b2)])),(33,(.i i))],[(1,(AA (.box (Md.cs m))))]⟩=AA (.bool AD,[]))
  (hx:K (.exit 0) ⟨[(1,(.ptr 1 0 0)),(2,(.bool AD)),(32,(.agg [(.i m.b0),(.i m.b1),(.i m.b2)])),(33,(.i 3))],[(1,(AA (.box (Md.cs m))))]⟩=R):
  D7 (J3 N) (DU NC [1,1,0,1,0,0]) ⟨[1,2,32,33],[1],[]⟩ 10 ⟨[(1,(.ptr 1 0 0)),(2,(.bool AD)),(32,(.agg [(.i m.b0),(.i m.b1),(.i m.b2)])),(33,(.i 0))],[(1,(AA (.box (Md.cs m))))]⟩ K=
   cond (GU m.c 0 m.b0&&(GU m.c 1 m.b1&&GU m.c 2 m.b2)) R (AA (.bool AD,[])):=by
 have key:∀(n:Nat) (i:Int) (b:Int) (X:DW),(cond (!EV b) (AA (V.bool AD,[])) (cond (AE (i>=m.c)) (cond (b !=0) (AA (V.bool AD,[])) X) X):DW)=cond (GU m.c i b) X (AA (V.bool AD,[])):=λn i b X=>by
  unfold GU;show(cond (!EV b) _ (cond (AE (i>=m.c)) (cond (!(b==0)) _ X) X))=_;cases EV b<;>cases AE (i>=m.c)<;>cases b==0<;>rfl
 have w1:AI AJ (0+1)=1:=rfl;have w2:AI AJ (1+1)=2:=rfl;have w3:AI AJ (2+1)=3:=rfl;rw[show(10:Nat)=9+1 from rfl,ED,oB];rw[show AE ((0:Int)<3)=AC from rfl,DS,show AE ((0:Int)=ic 0)=AC from rfl,DS,hr,w1,key 0];rw[show(9:Nat)=8+1 from rfl,ED,oB];rw[show AE ((1:Int)<3)=AC from rfl,DS,show AE ((1:Int)=ic 0)=AD from rfl,DT,show AE ((1:Int)=ic 1)=AC from rfl,DS,hr,w2,key 0];rw[show(8:Nat)=7+1 from rfl,ED,oB];rw[show AE ((2:Int)<3)=AC from rfl,DS,show AE ((2:Int)=ic 0)=AD from rfl,DT,show AE ((2:Int)=ic 1)=AD from rfl,DT,show AE ((2:Int)=ic 2)=AC from rfl,DS,hr,w3,key 0];rw[show(7:Nat)=6+1 from rfl,ED,oB];rw[show AE ((3:Int)<3)=AD from rfl,DT,hx];cases GU m.c 0 m.b0<;>cases GU m.c 1 m.b1<;>cases GU m.c 2 m.b2<;>rfl
abbrev zga(m:Md)(i:Int):St:=⟨[(1,(.ptr 1 0 0)),(2,(.bool AD)),(52,(.list AC G3 m.ts)),(53,(.i (ic m.ts.length))),(54,(.i i))],[(1,(AA (.box (Md.cs m))))]⟩
theorem Nz(N:Nat)(m:Md)(hm:m.ts.length<=8):∀(d i n:Nat),i+d=m.ts.length->d<n->
  D7 (J3 N) (DU NC [1,1,1,0,1,0,0]) ⟨[1,2,52,53,54],[1],[]⟩ n (zga m (i:Int)) (DZ 2 (D1 (J3 N) (DU NC [1,1,1,1]) (D4 (J3 N) AB [(B9 2)] [[.bool]])))=
   AA (.bool ((m.ts.drop i).all (HN m.d m.c)),[])
 |d,i,0,_,h=>absurd h AG
 |0,i,n+1,hd,_=>by
  have hi:i=m.ts.length:=by omega
  subst hi;rw[ED,Sf,I6 (A5 _),DT,C4];exact iw N m AD _ _ _
 |d+1,i,n+1,hd,hn=>by
  have hi:i<m.ts.length:=by omega
  have ei:AI AJ ((i:Int)+1)=((i+1:Nat):Int):=GQ AG;rw[ED,Sf,ei,H0 hi,DS,IG,BX,DS,IK hi,BD hi,van];have ih:=Nz N m hm d (i+1) n AG AG;unfold HN;cases AE ((m.ts[i].cell 0).toInt<0)with
  |true=>
   rw[DS];exact qY N m AD _ _ _
  |false=>
   cases AE ((m.ts[i].cell 0).toInt>=m.c)with
   |true=>
    rw[DT,DS];exact qY N m AD _ _ _
   |false=>
    cases F5 (m.ts[i].cell 1).toList m.d with
    |false=>
     rw[DT,DT,BG,DS];exact qY N m AD _ _ _
    |true=>
     rw[DT,DT,A9,DT];exact ih
theorem wJ:D9 PR B0 75 SY:=by
 refine EJ [(134,SW),(135,WT)] [(4,⟨[1,2,32,33],[1],[]⟩),(10,⟨[1,2,52,53,54],[1],[]⟩)] SY [[.bool]] Tryz.func75 pw ⟨wH,Pp,trivial⟩ ?_;intro vs r hwf h;unfold SY at h;split at h
 .rename_i m;replace h:=IH h;obtain⟨m,rfl,h⟩:=h;rw[R.get_ok]at h;refine⟨10,(yq 10 m).trans ?_⟩;rw[<-h];unfold ET;cases AE (m.d<1)with
  |true=>rfl
  |false=>
   cases AE (m.d>4)with
   |true=>rfl
   |false=>
    cases AE (m.c<1)with
    |true=>rfl
    |false=>
     cases AE (m.c>3)with
     |true=>rfl
     |false=>
      rw[DT,DT,DT,DT];by_cases h8:m.ts.length<=8
      .rw[AS (show¬ic m.ts.length>8 by simp only[ic];omega),DT,CU h8];refine(zc6 10 m _ (AA (.bool (m.ts.all (HN m.d m.c)),[])) (λi=>iv 10 m AD _ _ _ i) ?_).trans ?_
       .refine(it 10 m AD _ _ _ 3).trans ?_;exact Nz 10 m h8 m.ts.length 0 10 AG AG
       .cases(GU m.c 0 m.b0&&(GU m.c 1 m.b1&&GU m.c 2 m.b2))<;>rfl
      .have e:CF m.ts.length 8=AD:=by
        cases hb:CF m.ts.length 8 with
        |false=>rfl
        |true=>exact absurd (AX hb) h8
       rw[AL (show ic m.ts.length>8 by simp only[ic];omega),DS,e];rfl
 .simp[R.get]at h
abbrev zgc(ts:LI)(p:Pt)(k s i:Int):St:=
 ⟨[(1,(.i k)),(5,(.ptr 5 0 0)),(6,(.i 0)),(7,(.i s)),(28,(.list AC G3 ts)),(29,(.i (ic (AN ts)))),(30,(.i i))],[(5,(AA (.box (Pt.cs p))))]⟩
theorem vK(N:Nat)(ts:LI)(p:Pt)(k:Int)(hts:ts.length<=8):∀(m i n:Nat) (s:Int),i+m=ts.length->m<n-> -2147483648*(i+1)<=s/\s<=2147483648*(i+1)->
  D7 (ME N) (DU PO [1,1,1,0,1,0,0]) ⟨[1,5,6,7,28,29,30],[5],[]⟩ n (zgc ts p k s (i:Int)) (DZ 0 (D1 (ME N) (DU PO [1,1,1,1]) (D4 (ME N) AB [(B9 6)] [[.z]])))=
   AA (.i (OU k p (ts.drop i) s),[])
 |m,i,0,s,_,h,_=>absurd h AG
 |0,i,n+1,s,hd,_,_=>by
  have hi:i=ts.length:=by omega
  subst hi;rw[ED,Se,I6 (A5 _),DT,C4];exact ir N p _ _ _ _ _ _
 |m+1,i,n+1,s,hd,hn,hs=>by
  have hi:i<ts.length:=by omega
  have ei:AI AJ ((i:Int)+1)=((i+1:Nat):Int):=GQ AG;rw[ED,Se,ei,H0 hi,DS,IG,BX,DS,IK hi,BD hi,OU];have hv:=Ve (EU ts[i]) p;cases hc:((ts[i].cell 0).toInt==k)with
  |true=>
   rw[DS,DS];have ew:AI AJ (s+G1 (EU ts[i]) p)=s+G1 (EU ts[i]) p:=ER AG AG;have ih:=vK N ts p k hts m (i+1) n (s+G1 (EU ts[i]) p) AG AG AG;rw[<-ew]at ih;refine Eq.trans ih ?_;rw[ew]
  |false=>
   rw[DT,DT];exact vK N ts p k hts m (i+1) n s AG AG AG
theorem zd3:D9 PR B0 143 dQ:=by
 refine EJ [(75,SY),(190,dR)] [(5,⟨[1,5,6,7,28,29,30],[5],[]⟩)] dQ [[.z]] Tryz.func143 pr ⟨wJ,zd4,trivial⟩ ?_;intro vs r hwf h;unfold dQ at h;split at h
 .rename_i m k p;replace h:=IH h;obtain⟨m,rfl,h⟩:=h;replace h:=Q7 h;obtain⟨p,rfl,h⟩:=h;rw[R.get_ok]at h;refine⟨10,(yn 10 m k p).trans ?_⟩;rw[<-h];unfold D3;cases hm:ET m with
  |false=>rfl
  |true=>
   rw[A9,DT,BE];cases h0:AE (k<0)with
   |true=>
    have:GR m k=AD:=by unfold GR;rw[AS (show¬ 0<=k by have:=BB h0;omega)];rfl
    rw[this];rfl
   |false=>
    have h0:=BM h0;cases h1:AE (k>=m.c)with
    |true=>
     have:GR m k=AD:=by unfold GR;rw[AS (show¬k<m.c by have:=BB h1;omega),DB]
     rw[this];rfl
    |false=>
     have h1:=BM h1;have hk:GR m k=AC:=by unfold GR;rw[AL (show 0<=k by omega),AL (show k<m.c by omega)];rfl
     have hb:=ZS hm k;have run:=vK 10 m.ts p k (JL hm).2.2.1 m.ts.length 0 10 (KU m k) AG (by have:=(JL hm).2.2.1;omega) AG;rw[hk,DT,DT];rcases gG hm hk with rfl|rfl|rfl<;>exact run
 .simp[R.get]at h
open Go
open Go Go.Proofs
open Go Go.Proofs
theorem Gn{j:Nat}(h:j<5):GZ (j:Int)=AC:=by
 unfold GZ;rw[AL AG,AL AG];rfl
open Go
open Go Go.Proofs
set_option maxRecDepth 100000
open Go Go.Proofs
def JT(N:Nat):Env:=EI [(78,OJ)] [(8,⟨[3,6,8,9,10,42,43,44],[6,40],[]⟩),(11,⟨[3,6,8,9,10,42,43,44,49,50,51],[6,40],[]⟩),(20,⟨[8,17,96],[96,500],[⟨.tmp 17,500,3,AD,[.z]⟩]⟩),(24,⟨[8,17,18,19,96],[96,500],[⟨.tmp 17,500,3,AD,[.z]⟩]⟩)] 133 N
abbrev aN:KP:=⟨[3,6,8,9,10,42,43,44],[6,40],[]⟩
abbrev sG:KP:=⟨[3,6,8,9,10,42,43,44,49,50,51],[6,40],[]⟩
abbrev gZ:KP:=⟨[8,17,96],[96,500],[⟨.tmp 17,500,3,AD,[.z]⟩]⟩
abbrev sH:KP:=⟨[8,17,18,19,96],[96,500],[⟨.tmp 17,500,3,AD,[.z]⟩]⟩
abbrev SM(b:Bx)(j f:Int)(ts:LI)(e i:Int)(es:List (Int×IV)):St:=⟨[(3,.i j),(6,.ptr 6 0 0),(8,.zs),(9,.i f),(10,.ptr 40 0 0),(42,.list AC G3 ts),(43,.i e),(44,.i i)],[(6,AA (.box b.cs)),(40,AA (.map .bool es))]⟩
abbrev PG(b:Bx)(j f:Int)(ts:LI)(e i:Int)(l:LI)(g x:Int)(es:List (Int×IV)):St:=⟨[(3,.i j),(6,.ptr 6 0 0),(8,.zs),(9,.i f),(10,.ptr 40 0 0),(42,.list AC G3 ts),(43,.i e),(44,.i i),(49,.list AD [.int .u64] l),(50,.i g),(51,.i x)],[(6,AA (.box b.cs)),(40,AA (.map .bool es))]⟩
abbrev V9(n:Nat)(u:Option (Int×IV))(es:List (Int×IV))(L:LI):St:=⟨[(8,.zs),(17,.row 500 0 n),(96,.ptr 96 0 0)],[(96,AA (.iter .bool u es)),(500,AA (.row AC 3 AD [.z] L))]⟩
abbrev UE(n:Nat)(t k:Int)(u:Option (Int×IV))(es:List (Int×IV))(L:LI):St:=⟨[(8,.zs),(17,.row 500 0 n),(18,.i t),(19,.i k),(96,.ptr 96 0 0)],[(96,AA (.iter .bool u es)),(500,AA (.row AC 3 AD [.z] L))]⟩
abbrev iR:List Nat:=[1,1,1,1,1,0,1,0,0]
abbrev uF:List Nat:=[1,1,1,1,1,0,1,0,0,1,1,0,0,1,1,0,0]
abbrev nD:List Nat:=[1,1,1,1,1,1,1,0,1,0,0]
abbrev uG:List Nat:=[1,1,1,1,1,1,1,0,1,0,0,1,1,0,1,1,1,0,0,0]
noncomputable abbrev lV(N:Nat):Out->St->DW:=DZ 0 (D1 (JT N) (DU J7 [1,1,1,1,1,1]) (D4 (JT N) AB [.tmp 8] [[.list AD [.z]]]))
noncomputable abbrev He(N:Nat)(again:St->DW)(k:Out->St->DW):Out->St->DW:=DZ 2 (DZ 1 (D1 (JT N) (DU J7 [1,1,1,1,1,0,1,0,0,1,1,1]) (ES again aN k)))
noncomputable abbrev aK(N:Nat):Out->St->DW:=DZ 4 (D1 (JT N) (DU J7 [1,1,1,1,1,1,1,1]) (D4 (JT N) AB [.tmp 8] [[.list AD [.z]]]))
noncomputable abbrev r8(N:Nat)(again:St->DW)(k:Out->St->DW):Out->St->DW:=DZ 6 (D1 (JT N) (DU J7 [1,1,1,1,1,1,1,0,1,0,0,1,1,0,1,1,1,1]) (DZ 5 (ES again gZ k)))
def fR(q:Qy)(j:Nat):Int:=cond (BZ j 4) q.ft (j:Int)
set_option maxRecDepth 100000
theorem ya(N:Nat)(m:Md)(q:Qy)(b:Bx){j:Nat}(hj:j<5):EB (JT N) J7 [.tmp 8] [[.list AD [.z]]] [m.V,q.V,b.V,.i (j:Int)]=
 cond (BZ j 4) (cond (q.k !=3) (AA (.list AD [.z] [],[])) (D7 (JT N) (DU J7 iR) aN N (SM b (j:Int) (fR q j) m.ts (ic m.ts.length) 0 []) (lV N)))
 (D7 (JT N) (DU J7 iR) aN N (SM b (j:Int) (fR q j) m.ts (ic m.ts.length) 0 []) (lV N)):=by
 obtain rfl|rfl|rfl|rfl|rfl:j=0\/j=1\/j=2\/j=3\/j=4:=by omega
 all_goals kernel_rfl
theorem Ta(N:Nat)(b:Bx)(j f:Int)(ts:LI)(e i:Int)(es:List (Int×IV))(again:St->DW)(k:Out->St->DW):E3 (JT N) (DU J7 iR) (SM b j f ts e i es) (ES again aN k)=
 cond (AE (i<e)) (cond (AE (0<=i)&&AE (i<ic (AN ts)))
 (D7 (JT N) (DU J7 uF) sG N (PG b j f ts e i (IV.toList (IV.cell (AQ ts (AM i) default) 1)) (ic (AN (IV.toList (IV.cell (AQ ts (AM i) default) 1)))) 0 es) (He N again k)) AB)
 (k (.exit 0) (SM b j f ts e i es)):=AF
theorem Tb(N:Nat)(b:Bx){j:Nat}(hj:j<5)(f:Int)(ts:LI)(e i:Int)(l:LI)(g x:Int)(es:List (Int×IV))(again:St->DW)(k:Out->St->DW):E3 (JT N) (DU J7 uF) (PG b (j:Int) f ts e i l g x es) (ES again sG k)=
 cond (AE (x<g)) (cond (AE (0<=x)&&AE (x<ic (AN l)))
 (cond (FJ (IV.toInt (AQ l (AM x) default))) (cond (!(DV (IV.toInt (AQ l (AM x) default))).lf) (cond ((DV (IV.toInt (AQ l (AM x) default))).f==f)
 (cond (AE ((DV (IV.toInt (AQ l (AM x) default))).a>=(b.g j).lo)) (cond (AE ((DV (IV.toInt (AQ l (AM x) default))).a<(b.g j).hi))
 (again (PG b (j:Int) f ts e i l g (D6 (x+1)) (H6 es (DV (IV.toInt (AQ l (AM x) default))).a (.bool AC))))
 (again (PG b (j:Int) f ts e i l g (D6 (x+1)) es))) (again (PG b (j:Int) f ts e i l g (D6 (x+1)) es))) (again (PG b (j:Int) f ts e i l g (D6 (x+1)) es)))
 (again (PG b (j:Int) f ts e i l g (D6 (x+1)) es))) (again (PG b (j:Int) f ts e i l g (D6 (x+1)) es))) AB)
 (k (.exit 2) (PG b (j:Int) f ts e i l g x es)):=by
 obtain rfl|rfl|rfl|rfl|rfl:j=0\/j=1\/j=2\/j=3\/j=4:=by omega
 all_goals kernel_rfl
theorem jy(N:Nat)(b:Bx)(j f:Int)(ts:LI)(e i:Int)(l:LI)(g x:Int)(es:List (Int×IV))(again:St->DW)(k:Out->St->DW):He N again k (.exit 2) (PG b j f ts e i l g x es)=again (SM b j f ts e (D6 (i+1)) es):=AF
theorem jx(N:Nat)(b:Bx)(j f:Int)(ts:LI)(e i:Int)(es:List (Int×IV)):lV N (.exit 0) (SM b j f ts e i es)=D7 (JT N) (DU J7 nD) gZ N (V9 0 AB es []) (aK N):=AF
theorem Tc(N n:Nat)(u:Option (Int×IV))(es:List (Int×IV))(L:LI)(again:St->DW)(k:Out->St->DW):E3 (JT N) (DU J7 nD) (V9 n u es L) (ES again gZ k)=
 cond (BZ (AN es) 0) (k (.exit 4) (V9 n u es L))
 (ZN (AN es) λi=>cond (AE ((n+1)*8<=EM)) (D7 (JT N) (DU J7 uG) sH N (UE (n+1) (H7 es i).1 (ic (n-0)) (AA (H7 es i)) (KA es i) (AU n L++[IV.int (H7 es i).1])) (r8 N again k)) AB):=AF
theorem jz(N n:Nat)(u:Option (Int×IV))(es:List (Int×IV))(L:LI):aK N (.exit 4) (V9 n u es L)=AA (.list AD [.z] (A3 0 (AU n L)),[]):=AF
theorem Td(N n:Nat)(t x:Int)(u:Option (Int×IV))(es:List (Int×IV))(L:LI)(again:St->DW)(k:Out->St->DW):E3 (JT N) (DU J7 uG) (UE n t x u es L) (ES again sH k)=
 cond (AE (x>0)) (cond (AE (0<=D6 (x-1))&&AE (D6 (x-1)<ic (n-0)))
 (cond (AE (IV.toInt (AQ L (0+AM (D6 (x-1))) default)>t))
 (cond (AE (0<=D6 (x-1))&&AE (D6 (x-1)<ic (n-0))) (cond (AE (0<=x)&&AE (x<ic (n-0)))
 (again (UE n t (D6 (x-1)) u es (vaM L (0+AM x) (IV.int (IV.toInt (AQ L (0+AM (D6 (x-1))) default)))))) AB) AB)
 (k (.exit 6) (UE n t x u es L))) AB)
 (k (.exit 6) (UE n t x u es L)):=AF
theorem ka(N n:Nat)(t x:Int)(u:Option (Int×IV))(es:List (Int×IV))(L:LI)(again:St->DW)(k:Out->St->DW):r8 N again k (.exit 6) (UE n t x u es L)=
 cond (AE (0<=x)&&AE (x<ic (n-0))) (again (V9 n u es (vaM L (0+AM x) (IV.int t)))) AB:=AF
open Go Go.Proofs
set_option maxRecDepth 100000
def TH(f lo hi:Int)(w:IV):Bool:=FJ w.toInt&&(!(DV w.toInt).lf&&(((DV w.toInt).f==f)&&(AE ((DV w.toInt).a>=lo)&&AE ((DV w.toInt).a<hi))))
def NJ(f lo hi:Int)(es:List (Int×IV))(w:IV):List (Int×IV):=cond (TH f lo hi w) (H6 es (DV w.toInt).a (.bool AC)) es
def R8(f lo hi:Int)(es:List (Int×IV))(t:IV):List (Int×IV):=(EU t).foldl (NJ f lo hi) es
theorem zci{f lo hi:Int}{w:IV}{es:List (Int×IV)}(a:Int):a∈FY (NJ f lo hi es w)↔a∈FY es\/(TH f lo hi w=AC/\a=(DV w.toInt).a):=by
 unfold NJ;cases TH f lo hi w with
 |true=>
  rw[DS,sD];constructor
  .rintro(h|h)
   .exact .inr ⟨rfl,h⟩
   .exact .inl h
  .rintro(h|⟨_,h⟩)
   .exact .inr h
   .exact .inl h
 |false=>
  rw[DT];constructor
  .exact .inl
  .rintro(h|⟨h,_⟩)
   .exact h
   .cases h
theorem zcj{f lo hi:Int}{w:IV}{es:List (Int×IV)}(h:(FY es).Nodup):(FY (NJ f lo hi es w)).Nodup:=by
 unfold NJ;cases TH f lo hi w with
 |true=>exact Hh h
 |false=>exact h
theorem Mf{f lo hi:Int}(a:Int):∀(l:LI) (es:List (Int×IV)),a∈FY (l.foldl (NJ f lo hi) es)↔a∈FY es\/∃w∈l,TH f lo hi w=AC/\a=(DV w.toInt).a
 |[],es=>by simp
 |w::r,es=>by
  rw[vas,Mf a r,zci];constructor
  .rintro((h|h)|⟨w',hw,h⟩)
   .exact .inl h
   .exact .inr ⟨w,AZ ..,h⟩
   .exact .inr ⟨w',A6 _ hw,h⟩
  .rintro(h|⟨w',hw,h⟩)
   .exact .inl (.inl h)
   .rcases AY.1 hw with rfl|hw
    .exact .inl (.inr h)
    .exact .inr ⟨w',hw,h⟩
theorem Mh{f lo hi:Int}:∀(l:LI) (es:List (Int×IV)),(FY es).Nodup->(FY (l.foldl (NJ f lo hi) es)).Nodup
 |[],_,h=>h
 |w::r,es,h=>by
  rw[vas];exact Mh r _ (zcj h)
theorem Mi{f lo hi:Int}(a:Int):∀(ts:LI) (es:List (Int×IV)),a∈FY (ts.foldl (R8 f lo hi) es)↔a∈FY es\/∃t∈ts,∃w∈EU t,TH f lo hi w=AC/\a=(DV w.toInt).a
 |[],es=>by simp
 |t::r,es=>by
  rw[vas,Mi a r];unfold R8;rw[Mf];constructor
  .rintro((h|h)|⟨w',hw,h⟩)
   .exact .inl h
   .exact .inr ⟨t,AZ ..,h⟩
   .exact .inr ⟨w',A6 _ hw,h⟩
  .rintro(h|⟨w',hw,h⟩)
   .exact .inl (.inl h)
   .rcases AY.1 hw with rfl|hw
    .exact .inl (.inr h)
    .exact .inr ⟨w',hw,h⟩
theorem Mk{f lo hi:Int}:∀(ts:LI) (es:List (Int×IV)),(FY es).Nodup->(FY (ts.foldl (R8 f lo hi) es)).Nodup
 |[],_,h=>h
 |t::r,es,h=>by
  rw[vas];exact Mk r _ (Mh _ _ h)
theorem vj(es:List (Int×IV))(k:Int)(x:IV):(H6 es k x).length<=es.length+1:=by
 induction es with
 |nil=>exact A5 _
 |cons e r ih=>
  obtain⟨j,y⟩:=e;rw[mP];cases j==k with
  |true=>exact Nat.le_succ _
  |false=>
   rw[BC,AV,AV];omega
theorem Mg{f lo hi:Int}:∀(l:LI) (es:List (Int×IV)),(l.foldl (NJ f lo hi) es).length<=es.length+l.length
 |[],_=>A5 _
 |w::r,es=>by
  rw[vas,AV];have h1:=Mg (f:=f) (lo:=lo) (hi:=hi) r (NJ f lo hi es w);have h2:(NJ f lo hi es w).length<=es.length+1:=by
   unfold NJ;cases TH f lo hi w with
   |true=>exact vj ..
   |false=>exact Nat.le_succ _
  omega
theorem Mj{f lo hi:Int}:∀(ts:LI) (es:List (Int×IV)),(∀t∈ts,(EU t).length<=31)->(ts.foldl (R8 f lo hi) es).length<=es.length+31*ts.length
 |[],_,_=>A5 _
 |t::r,es,h=>by
  rw[vas,AV];have h1:=Mj (f:=f) (lo:=lo) (hi:=hi) r (R8 f lo hi es t) λx hx=>h x (A6 _ hx)
  have h2:=Mg (f:=f) (lo:=lo) (hi:=hi) (EU t) es;have h3:=h t (AZ ..);have h4:(R8 f lo hi es t).length=((EU t).foldl (NJ f lo hi) es).length:=rfl;omega
theorem Dx(N:Nat)(b:Bx){j:Nat}(hj:j<5)(f:Int)(ts:LI)(e i:Int)(l:LI)(hl:l.length<=31)(K:Out->St->DW):∀(d x n:Nat) (es:List (Int×IV)),x+d=l.length->d<n->
  D7 (JT N) (DU J7 uF) sG n (PG b (j:Int) f ts e i l (ic l.length) (x:Int) es) K=K (.exit 2) (PG b (j:Int) f ts e i l (ic l.length) (ic l.length) ((l.drop x).foldl (NJ f (b.g j).lo (b.g j).hi) es))
 |0,x,n+1,es,hd,_=>by
  have hx:x=l.length:=by omega
  subst hx;rw[ED,Tb N b hj,I6 (A5 _),DT,C4];rfl
 |d+1,x,n+1,es,hd,hn=>by
  have hx:x<l.length:=by omega
  have ih:=Dx N b hj f ts e i l hl K d (x+1) n (NJ f (b.g j).lo (b.g j).hi es l[x]) AG AG;rw[ED,Tb N b hj,H0 hx,DS,IG,BX,DS,IK hx,show D6 ((x:Int)+1)=((x+1:Nat):Int)from GQ AG,BD hx,vas,<-ih];unfold NJ TH;cases FJ l[x].toInt<;>cases(DV l[x].toInt).lf<;>cases(DV l[x].toInt).f==f<;>cases AE ((DV l[x].toInt).a>=(b.g j).lo)<;>cases AE ((DV l[x].toInt).a<(b.g j).hi)<;>rfl
 |0,_,0,_,_,h=>by omega
 |_+1,_,0,_,_,h=>by omega
theorem Dz(N:Nat)(hN:40<=N)(b:Bx){j:Nat}(hj:j<5)(f:Int)(ts:LI)(hts:∀t∈ts,(EU t).length<=31)(h8:ts.length<=8)(K:Out->St->DW):∀(d i n:Nat) (es:List (Int×IV)),i+d=ts.length->d<n->
  D7 (JT N) (DU J7 iR) aN n (SM b (j:Int) f ts (ic ts.length) (i:Int) es) K=K (.exit 0) (SM b (j:Int) f ts (ic ts.length) (ic ts.length) ((ts.drop i).foldl (R8 f (b.g j).lo (b.g j).hi) es))
 |0,i,n+1,es,hd,_=>by
  have hx:i=ts.length:=by omega
  subst hx;rw[ED,Ta,I6 (A5 _),DT,C4];rfl
 |d+1,i,n+1,es,hd,hn=>by
  have hi:i<ts.length:=by omega
  have hl:=hts _ (DC hi);have ih:=Dz N hN b hj f ts hts h8 K d (i+1) n (R8 f (b.g j).lo (b.g j).hi es ts[i]) AG AG;rw[ED,Ta,H0 hi,DS,IG,BX,DS,IK hi,BD hi,vas,<-ih];refine(Dx N b hj f ts (ic ts.length) (i:Int) (EU ts[i]) hl _ (EU ts[i]).length 0 N es AG AG).trans ?_;rw[jy,show D6 ((i:Int)+1)=((i+1:Nat):Int)from GQ AG,CA];rfl
 |0,_,0,_,_,h=>by omega
 |_+1,_,0,_,_,h=>by omega
theorem Gi(a b:List Int):iZ (a++b)=iZ a++iZ b:=va5 ..
def OB(L:List Int)(k:Nat)(x:Int):LI:=iZ (L.take k)++.int x::iZ (L.drop k)
theorem zcN{L:List Int}{k:Nat}(hk:k<L.length)(x:Int):((OB L (k+1) x).getD k default).toInt=L[k]:=by
 unfold OB;have h1:k<(iZ (L.take (k+1))).length:=by rw[MP,BJ];omega
 rw[BK,List.getElem?_append_left h1];unfold iZ;rw[CK,List.getElem?_take_of_lt AG,BF hk];rfl
theorem Nq{L:List Int}{k:Nat}(hk:k<=L.length)(x y:Int):(OB L k x).set k (.int y)=OB L k y:=by
 unfold OB;have h1:(iZ (L.take k)).length=k:=by rw[MP,BJ];omega
 rw[List.set_append_right _ _ AG,h1,Nat.sub_self];rfl
theorem zcO{L:List Int}{k:Nat}(hk:k<L.length):OB L (k+1) L[k]=OB L k L[k]:=by
 have e1:L.take (k+1)=L.take k++[L[k]]:=by rw[List.take_add_one,BF hk];rfl
 have e2:L.drop k=L[k]::L.drop (k+1):=BD hk;unfold OB;rw[e1,e2,Gi,vax];rfl
theorem Gu(N:Nat)(t:Int)(u:Option (Int×IV))(es:List (Int×IV))(L:List Int)(hL:L.Pairwise (· < ·))(ht:t∉L)(hlen:L.length<=65536)(K:Out->St->DW):∀(k n:Nat) (x:Int),k<=L.length->k<n->(∀y∈L.drop k,t<y)->
  ∃(k':Nat) (x':Int),k'<=L.length/\(∀y∈L.drop k',t<y)/\(∀y∈L.take k',y<t)/\
   D7 (JT N) (DU J7 uG) sH n (UE (L.length+1) t (k:Int) u es (OB L k x)) K=K (.exit 6) (UE (L.length+1) t (k':Int) u es (OB L k' x'))
 |0,n+1,x,_,_,hd=>by
  refine⟨0,x,CG _,hd,λy hy=>by simp at hy,?_⟩;rw[ED,Td,AS (show¬((0:Nat):Int)>0 by omega),DT]
 |k+1,n+1,x,hk,hn,hd=>by
  have hk':k<L.length:=by omega
  have ek:D6 (((k+1:Nat):Int)-1)=(k:Int):=by
   rw[show((k+1:Nat):Int)-1=(k:Int) by omega];exact ER AG AG
  rw[ED,Td,AL (show((k+1:Nat):Int)>0 by omega),DS,ek,AL (show(0:Int)<=(k:Int) by omega),AL (show(k:Int)<ic (L.length+1-0) by simp only[ic];omega),BX,DS,BS,BH,zcN hk'];by_cases hgt:L[k]>t
  .rw[AL hgt,DS,DS,AL (show(0:Int)<=((k+1:Nat):Int) by omega),AL (show((k+1:Nat):Int)<ic (L.length+1-0) by simp only[ic];omega),BX,DS,BS,BH,Nq hk,zcO hk'];exact Gu N t u es L hL ht hlen K k n L[k] AG AG λy hy=>by
    rw[BD hk']at hy;rcases AY.1 hy with rfl|hy
    .exact hgt
    .exact hd y hy
  .rw[AS hgt,DT];refine⟨k+1,x,hk,hd,λy hy=>?_,rfl⟩;have hne:L[k]≠t:=λe=>ht (e▸DC hk')
   obtain⟨i,hi,rfl⟩:=List.mem_iff_getElem.1 hy;rw[BJ]at hi;rw[List.getElem_take];by_cases e:i=k
   .subst e;omega
   .have:=List.pairwise_iff_getElem.1 hL i k AG hk' AG
    omega
 |0,0,_,_,h,_=>by omega
 |_+1,0,_,_,h,_=>by omega
theorem Dy(N:Nat)(hN:65537<N)(T:List Int)(hT:T.Pairwise (· < ·)):∀(d n:Nat) (L:List Int) (u:Option (Int×IV)) (es:List (Int×IV)),es.length=d->d<n->L.Pairwise (· < ·)->(FY es).Nodup->(∀x∈L,x∉FY es)->(∀x,x∈T↔x∈L\/x∈FY es)->L.length+d<=65536->
  D7 (JT N) (DU J7 nD) gZ n (V9 L.length u es (iZ L)) (aK N)=AA (.list AD [.z] (iZ T),[])
 |0,n+1,L,u,es,hes,_,hL,_,_,hm,_=>by
  have e0:es=[]:=vaZ hes;subst e0;rw[ED,Tc];show aK N (.exit 4) (V9 L.length u [] (iZ L))=_;rw[jz,CA];have e1:T=L:=Nl hT hL λx=>by rw[hm x];simp[FY]
  have e2:AU L.length (iZ L)=iZ L:=C9 (by rw[MP];exact A5 _);rw[e2,e1]
 |d+1,n+1,L,u,es,hes,hn,hL,hnd,hdj,hm,hsz=>by
  have e0:BZ es.length 0=AD:=by rw[hes];rfl
  rw[ED,Tc,e0,DT];refine Zi AG λi hi=>?_
  obtain⟨k1,k2,k3⟩:=Ek es i hi;obtain⟨k4,k5⟩:=k2 hnd;have ht:(H7 es i).1∉L:=λh=>hdj _ h ((k1 _).2 (.inl rfl))
  rw[AL (show(L.length+1)*8<=EM by unfold EM;omega),DS];have erow:AU L.length (iZ L)++[IV.int (H7 es i).1]=OB L L.length (H7 es i).1:=by
   unfold OB;rw[BW,C4,C9 (by rw[MP];exact A5 _)];rfl
  rw[erow,vay];obtain⟨k',x',h1,h2,h3,h4⟩:=Gu N (H7 es i).1 (AA (H7 es i)) (KA es i) L hL ht AG (r8 N (λs'=>D7 (JT N) (DU J7 nD) gZ n s' (aK N)) (aK N)) L.length N (H7 es i).1 (A5 _) AG (λy hy=>by rw[C4]at hy;cases hy);refine h4.trans ?_;rw[ka,AL (show(0:Int)<=(k':Int) by omega),AL (show(k':Int)<ic (L.length+1-0) by simp only[ic];omega),BX,DS,BS,BH,Nq h1];have er:OB L k' (H7 es i).1=iZ (L.take k'++(H7 es i).1::L.drop k'):=by
   unfold OB;rw[Gi];rfl
  have el:(L.take k'++(H7 es i).1::L.drop k').length=L.length+1:=by
   rw[A2,AV,BJ,DL];omega
  rw[er,<-el];refine Dy N hN T hT d n _ _ _ AG AG (zcL hL h3 h2) k5 (λx hx=>?_) (λx=>?_) (by rw[el];omega)
  .rcases(Gt x).1 hx with rfl|hx
   .exact k4
   .exact λh=>hdj x hx ((k1 x).2 (.inr h))
  .rw[hm x,k1 x,Gt];constructor
   .rintro(h|h|h)
    .exact .inl (.inr h)
    .exact .inl (.inl h)
    .exact .inr h
   .rintro((h|h)|h)
    .exact .inr (.inl h)
    .exact .inl h
    .exact .inr (.inr h)
 |0,0,_,_,_,_,h,_,_,_,_,_=>by omega
 |_+1,0,_,_,_,_,h,_,_,_,_,_=>by omega
theorem i7{m:Md}(hm:ET m=AC):∀t∈m.ts,(EU t).length<=31/\∀w∈EU t,FJ w.toInt=AC:=by
 intro t ht;have h:=CZ.1 (JL hm).2.2.2.2 t ht;unfold HN at h;simp only[AP]at h;have h2:=h.2.2;unfold F5 at h2;simp only[AP]at h2;obtain⟨⟨_,h31⟩,hn,_⟩:=h2;refine⟨AX h31,?_⟩;have key:∀{dim n:Int} (l:LI) (i:Nat),IY dim n i l=AC->∀w∈l,FJ w.toInt=AC:=by
  intro dim n l
  induction l with
  |nil=>intro i _ w hw;cases hw
  |cons x r ih=>
   intro i h w hw;rw[IY]at h;simp only[AP]at h;rcases AY.1 hw with rfl|hw
   .exact h.1.1
   .exact ih (i+1) h.2 w hw
 exact key _ 0 hn
theorem lw{m:Md}(hm:ET m=AC){t w:IV}(ht:t∈m.ts)(hw:w∈EU t)(hl:(DV w.toInt).lf=AD):0<=(DV w.toInt).f:=
 (VD ((i7 hm t ht).2 w hw) hl).1.1
theorem du{m:Md}(hm:ET m=AC){q:Qy}{b:Bx}{j:Nat}(hj:j<5)(hk:j=4->q.k=3)(a:Int):a∈E1 m q b j↔a∈FY (m.ts.foldl (R8 (fR q j) (b.g j).lo (b.g j).hi) []):=by
 have ef:IJ q (j:Int)=fR q j:=by
  unfold IJ fR;by_cases h4:j=4
  .subst h4;rw[hk rfl];rfl
  .have e:BZ j 4=AD:=by
    cases h:BZ j 4 with
    |false=>rfl
    |true=>exact absurd (vag h) h4
   rw[e,AL (show(j:Int)>=0 by omega),AL (show(j:Int)<4 by omega)];rfl
 rw[S9,ef,xG,Mi];unfold TH;constructor
 .rintro⟨h0,⟨t,ht,w,hw,h1,h2,h3⟩,h4,h5⟩;refine .inr ⟨t,ht,w,hw,?_,h3.symm⟩;rw[(i7 hm t ht).2 w hw,h1,h2,h3,DA,AL (show a>=(b.g j).lo from h4),AL h5];rfl
 .rintro(h|⟨t,ht,w,hw,h,rfl⟩)
  .cases h
  .simp only[AP,CC,CE,AW]at h;obtain⟨_,h1,h2,h3,h4⟩:=h;exact⟨by rw[<-h2];exact lw hm ht hw h1,⟨t,ht,w,hw,h1,h2,rfl⟩,h3,h4⟩
theorem zdT:D9 PR B0 144 dG:=by
 refine EJ [(78,OJ)] [(8,⟨[3,6,8,9,10,42,43,44],[6,40],[]⟩),(11,⟨[3,6,8,9,10,42,43,44,49,50,51],[6,40],[]⟩),(20,⟨[8,17,96],[96,500],[⟨.tmp 17,500,3,AD,[.z]⟩]⟩),(24,⟨[8,17,18,19,96],[96,500],[⟨.tmp 17,500,3,AD,[.z]⟩]⟩)] dG [[.list AD [.z]]] Tryz.func144 ox ⟨jG,trivial⟩ ?_;intro vs r hwf h;unfold dG at h;split at h
 .rename_i m q b i;replace h:=IH h;obtain⟨m,rfl,h⟩:=h;replace h:=I2 h;obtain⟨q,rfl,h⟩:=h;replace h:=H4 h;obtain⟨b,rfl,h⟩:=h;cases hg:(ET m&&GZ i)with
  |false=>rw[hg]at h;simp[R.get]at h
  |true=>
  rw[hg,R.get_br,DS,R.get_ok]at h;rw[AP]at hg;obtain⟨hm,hpl⟩:=hg;obtain⟨j,hj,rfl⟩:∃j:Nat,j<5/\i=(j:Int):=by
   unfold GZ at hpl;simp only[AP,AW]at hpl;exact⟨i.toNat,by omega,by omega⟩
  refine⟨65538,(ya 65538 m q b hj).trans ?_⟩;rw[<-h,BH];have run:(j=4->q.k=3)->D7 (JT 65538) (DU J7 iR) aN 65538 (SM b (j:Int) (fR q j) m.ts (ic m.ts.length) 0 []) (lV 65538)=AA (.list AD [.z] (iZ (E1 m q b j)),[]):=λhk=>by
   have h8:=(JL hm).2.2.1;refine(Dz 65538 AG b hj (fR q j) m.ts (λt ht=>(i7 hm t ht).1) h8 _ m.ts.length 0 65538 [] AG AG).trans ?_;rw[jx,CA];have hlen:=Mj (f:=fR q j) (lo:=(b.g j).lo) (hi:=(b.g j).hi) m.ts [] λt ht=>(i7 hm t ht).1
   have hkeys:=λa=>du (b:=b) hm hj hk a
   have hnd:=Mk (f:=fR q j) (lo:=(b.g j).lo) (hi:=(b.g j).hi) m.ts [] (by simp[FY]);generalize m.ts.foldl (R8 (fR q j) (b.g j).lo (b.g j).hi) []=es at hlen hkeys hnd ⊢;rw[BL]at hlen;exact Dy 65538 AG (E1 m q b j) (dv m q b j) es.length 65538 [] AB es rfl AG List.Pairwise.nil hnd (λx hx=>by cases hx) (λx=>by rw[hkeys x];simp) (by rw[BL];omega)
  cases h4:BZ j 4 with
  |true=>
   have e:j=4:=vag h4;rw[DS];by_cases hk:q.k=3
   .rw[show(q.k !=3)=AD by rw[hk];rfl,DT];exact run λ_=>hk
   .rw[show(q.k !=3)=AC by simpa using hk,DS,e]
    have:E1 m q b 4=[]:=by
     unfold E1 IJ;rw[show(q.k==3)=AD by simpa using hk];rfl
    rw[this];rfl
  |false=>
   rw[DT];exact run λh=>by rw[h]at h4;cases h4
 .simp[R.get]at h
open Go Go.Proofs
def Wx(N:Nat):Env:=EI [] [] 28 N
theorem yh(N:Nat)(q:Qy):EB (Wx N) Am [.cell 2 37] [[.z,.z,.z,.z,.z,.z,.z,.z,.z,.z]] [(Qy.V q)]=
 (cond (Qy.k q==3)
 (cond (AE (Qy.ft q>=0))
 (cond (AE (Qy.ft q<4))
 (cond (AE (Qy.ft q=ic 0))
 (AA (.agg [.i (Qy.a0 q),.i (Qy.b0 q),.i (Qy.a1 q),.i (Qy.b1 q),.i (Qy.a2 q),.i (Qy.b2 q),.i (Qy.a3 q),.i (Qy.b3 q),.i (Qy.a0 q),.i (Qy.b0 q)],[]))
 (cond (AE (Qy.ft q=ic 1))
 (AA (.agg [.i (Qy.a0 q),.i (Qy.b0 q),.i (Qy.a1 q),.i (Qy.b1 q),.i (Qy.a2 q),.i (Qy.b2 q),.i (Qy.a3 q),.i (Qy.b3 q),.i (Qy.a1 q),.i (Qy.b1 q)],[]))
 (cond (AE (Qy.ft q=ic 2))
 (AA (.agg [.i (Qy.a0 q),.i (Qy.b0 q),.i (Qy.a1 q),.i (Qy.b1 q),.i (Qy.a2 q),.i (Qy.b2 q),.i (Qy.a3 q),.i (Qy.b3 q),.i (Qy.a2 q),.i (Qy.b2 q)],[]))
 (cond (AE (Qy.ft q=ic 3))
 (AA (.agg [.i (Qy.a0 q),.i (Qy.b0 q),.i (Qy.a1 q),.i (Qy.b1 q),.i (Qy.a2 q),.i (Qy.b2 q),.i (Qy.a3 q),.i (Qy.b3 q),.i (Qy.a3 q),.i (Qy.b3 q)],[]))
 (cond (AE (Qy.ft q=ic 4))
 (AA (.agg [.i (Qy.a0 q),.i (Qy.b0 q),.i (Qy.a1 q),.i (Qy.b1 q),.i (Qy.a2 q),.i (Qy.b2 q),.i (Qy.a3 q),.i (Qy.b3 q),.i (Qy.a4 q),.i (Qy.b4 q)],[]))
 AB)))))
 (AA (.agg [.i (Qy.a0 q),.i (Qy.b0 q),.i (Qy.a1 q),.i (Qy.b1 q),.i (Qy.a2 q),.i (Qy.b2 q),.i (Qy.a3 q),.i (Qy.b3 q),.i 0,.i 0],[])))
 (AA (.agg [.i (Qy.a0 q),.i (Qy.b0 q),.i (Qy.a1 q),.i (Qy.b1 q),.i (Qy.a2 q),.i (Qy.b2 q),.i (Qy.a3 q),.i (Qy.b3 q),.i 0,.i 0],[])))
 (AA (.agg [.i (Qy.a0 q),.i (Qy.b0 q),.i (Qy.a1 q),.i (Qy.b1 q),.i (Qy.a2 q),.i (Qy.b2 q),.i (Qy.a3 q),.i (Qy.b3 q),.i 0,.i 0],[]))):=AF
def MD(N:Nat):Env:=EI [(85,SU),(143,dQ)] [(9,⟨[4,5,6,8,9,38,39],[4,5,6],[]⟩)] 87 N
theorem xy(N:Nat)(m:Md)(a1:Qy)(a2:Pt)(a3:Int):EB (MD N) OO [.tmp 8] [[.bool]] [(Md.V m),(Qy.V a1),(Pt.V a2),.i a3]=
 (cond (!E8 m a1)
 (AA (.bool AD,[]))
 (cond (Qy.k a1==1)
 (cond (AE (D3 m (Qy.c a1) a2<Qy.lo a1)) (AA (.bool AC,[])) (AA (.bool (AE (D3 m (Qy.c a1) a2>Qy.hi a1)),[])))
 (cond (Qy.k a1==2)
 (D7 (MD N) (DU OO [1,1,1,0,1,0,1,1,1,0,0,1,0,0]) ⟨[4,5,6,8,9,38,39],[4,5,6],[]⟩ N ⟨[(4,(.ptr 4 0 0)),(5,(.ptr 5 0 0)),(6,(.ptr 6 0 0)),(8,(.bool AD)),(9,(.i (D3 m (Qy.c a1) a2))),(38,(.i (Md.c m))),(39,(.i 0))],[(4,(AA (.box (Md.cs m)))),(5,(AA (.box (Qy.cs a1)))),(6,(AA (.box (Pt.cs a2))))]⟩ (DZ 1 (D1 (MD N) (DU OO [1,1,1,0,1,0,1,1,1,0,1]) (DZ 0 (D1 (MD N) (DU OO [1,1,1,1]) (D4 (MD N) AB [.tmp 8] [[.bool]]))))))
 (cond (AE (Qy.ft a1=ic 0))
 (cond (AE (Pt.p0 a2>=a3))
 (AA (.bool AD,[]))
 (cond (AE (Qy.ft a1=ic 0))
 (cond (Qy.fl a1)
 (cond (AE (D3 m (Qy.c a1) a2<D3 m (Qy.c a1) {p0:=a3,p1:=Pt.p1 a2,p2:=Pt.p2 a2,p3:=Pt.p3 a2}))
 (AA (.bool AC,[]))
 (cond (!Qy.fl a1)
 (AA ((.bool (AE (D3 m (Qy.c a1) a2>D3 m (Qy.c a1) {p0:=a3,p1:=Pt.p1 a2,p2:=Pt.p2 a2,p3:=Pt.p3 a2}))),[]))
 (AA (.bool AD,[]))))
 (cond (!Qy.fl a1)
 (AA ((.bool (AE (D3 m (Qy.c a1) a2>D3 m (Qy.c a1) {p0:=a3,p1:=Pt.p1 a2,p2:=Pt.p2 a2,p3:=Pt.p3 a2}))),[]))
 (AA (.bool AD,[]))))
 (cond (AE (Qy.ft a1=ic 1))
 (cond (Qy.fl a1)
 (cond (AE (D3 m (Qy.c a1) a2<D3 m (Qy.c a1) {p0:=Pt.p0 a2,p1:=a3,p2:=Pt.p2 a2,p3:=Pt.p3 a2}))
 (AA (.bool AC,[]))
 (cond (!Qy.fl a1)
 (AA ((.bool (AE (D3 m (Qy.c a1) a2>D3 m (Qy.c a1) {p0:=Pt.p0 a2,p1:=a3,p2:=Pt.p2 a2,p3:=Pt.p3 a2}))),[]))
 (AA (.bool AD,[]))))
 (cond (!Qy.fl a1)
 (AA ((.bool (AE (D3 m (Qy.c a1) a2>D3 m (Qy.c a1) {p0:=Pt.p0 a2,p1:=a3,p2:=Pt.p2 a2,p3:=Pt.p3 a2}))),[]))
 (AA (.bool AD,[]))))
 (cond (AE (Qy.ft a1=ic 2))
 (cond (Qy.fl a1)
 (cond (AE (D3 m (Qy.c a1) a2<D3 m (Qy.c a1) {p0:=Pt.p0 a2,p1:=Pt.p1 a2,p2:=a3,p3:=Pt.p3 a2}))
 (AA (.bool AC,[]))
 (cond (!Qy.fl a1)
 (AA ((.bool (AE (D3 m (Qy.c a1) a2>D3 m (Qy.c a1) {p0:=Pt.p0 a2,p1:=Pt.p1 a2,p2:=a3,p3:=Pt.p3 a2}))),[]))
 (AA (.bool AD,[]))))
 (cond (!Qy.fl a1)
 (AA ((.bool (AE (D3 m (Qy.c a1) a2>D3 m (Qy.c a1) {p0:=Pt.p0 a2,p1:=Pt.p1 a2,p2:=a3,p3:=Pt.p3 a2}))),[]))
 (AA (.bool AD,[]))))
 (cond (AE (Qy.ft a1=ic 3))
 (cond (Qy.fl a1)
 (cond (AE (D3 m (Qy.c a1) a2<D3 m (Qy.c a1) {p0:=Pt.p0 a2,p1:=Pt.p1 a2,p2:=Pt.p2 a2,p3:=a3}))
 (AA (.bool AC,[]))
 (cond (!Qy.fl a1)
 (AA ((.bool (AE (D3 m (Qy.c a1) a2>D3 m (Qy.c a1) {p0:=Pt.p0 a2,p1:=Pt.p1 a2,p2:=Pt.p2 a2,p3:=a3}))),[]))
 (AA (.bool AD,[]))))
 (cond (!Qy.fl a1)
 (AA ((.bool (AE (D3 m (Qy.c a1) a2>D3 m (Qy.c a1) {p0:=Pt.p0 a2,p1:=Pt.p1 a2,p2:=Pt.p2 a2,p3:=a3}))),[]))
 (AA (.bool AD,[]))))
 AB)))))
 (cond (AE (Qy.ft a1=ic 1))
 (cond (AE (Pt.p1 a2>=a3))
 (AA (.bool AD,[]))
 (cond (AE (Qy.ft a1=ic 0))
 (cond (Qy.fl a1)
 (cond (AE (D3 m (Qy.c a1) a2<D3 m (Qy.c a1) {p0:=a3,p1:=Pt.p1 a2,p2:=Pt.p2 a2,p3:=Pt.p3 a2}))
 (AA (.bool AC,[]))
 (cond (!Qy.fl a1)
 (AA ((.bool (AE (D3 m (Qy.c a1) a2>D3 m (Qy.c a1) {p0:=a3,p1:=Pt.p1 a2,p2:=Pt.p2 a2,p3:=Pt.p3 a2}))),[]))
 (AA (.bool AD,[]))))
 (cond (!Qy.fl a1)
 (AA ((.bool (AE (D3 m (Qy.c a1) a2>D3 m (Qy.c a1) {p0:=a3,p1:=Pt.p1 a2,p2:=Pt.p2 a2,p3:=Pt.p3 a2}))),[]))
 (AA (.bool AD,[]))))
 (cond (AE (Qy.ft a1=ic 1))
 (cond (Qy.fl a1)
 (cond (AE (D3 m (Qy.c a1) a2<D3 m (Qy.c a1) {p0:=Pt.p0 a2,p1:=a3,p2:=Pt.p2 a2,p3:=Pt.p3 a2}))
 (AA (.bool AC,[]))
 (cond (!Qy.fl a1)
 (AA ((.bool (AE (D3 m (Qy.c a1) a2>D3 m (Qy.c a1) {p0:=Pt.p0 a2,p1:=a3,p2:=Pt.p2 a2,p3:=Pt.p3 a2}))),[]))
 (AA (.bool AD,[]))))
 (cond (!Qy.fl a1)
 (AA ((.bool (AE (D3 m (Qy.c a1) a2>D3 m (Qy.c a1) {p0:=Pt.p0 a2,p1:=a3,p2:=Pt.p2 a2,p3:=Pt.p3 a2}))),[]))
 (AA (.bool AD,[]))))
 (cond (AE (Qy.ft a1=ic 2))
 (cond (Qy.fl a1)
 (cond (AE (D3 m (Qy.c a1) a2<D3 m (Qy.c a1) {p0:=Pt.p0 a2,p1:=Pt.p1 a2,p2:=a3,p3:=Pt.p3 a2}))
 (AA (.bool AC,[]))
 (cond (!Qy.fl a1)
 (AA ((.bool (AE (D3 m (Qy.c a1) a2>D3 m (Qy.c a1) {p0:=Pt.p0 a2,p1:=Pt.p1 a2,p2:=a3,p3:=Pt.p3 a2}))),[]))
 (AA (.bool AD,[]))))
 (cond (!Qy.fl a1)
 (AA ((.bool (AE (D3 m (Qy.c a1) a2>D3 m (Qy.c a1) {p0:=Pt.p0 a2,p1:=Pt.p1 a2,p2:=a3,p3:=Pt.p3 a2}))),[]))
 (AA (.bool AD,[]))))
 (cond (AE (Qy.ft a1=ic 3))
 (cond (Qy.fl a1)
 (cond (AE (D3 m (Qy.c a1) a2<D3 m (Qy.c a1) {p0:=Pt.p0 a2,p1:=Pt.p1 a2,p2:=Pt.p2 a2,p3:=a3}))
 (AA (.bool AC,[]))
 (cond (!Qy.fl a1)
 (AA ((.bool (AE (D3 m (Qy.c a1) a2>D3 m (Qy.c a1) {p0:=Pt.p0 a2,p1:=Pt.p1 a2,p2:=Pt.p2 a2,p3:=a3}))),[]))
 (AA (.bool AD,[]))))
 (cond (!Qy.fl a1)
 (AA ((.bool (AE (D3 m (Qy.c a1) a2>D3 m (Qy.c a1) {p0:=Pt.p0 a2,p1:=Pt.p1 a2,p2:=Pt.p2 a2,p3:=a3}))),[]))
 (AA (.bool AD,[]))))
 AB)))))
 (cond (AE (Qy.ft a1=ic 2))
 (cond (AE (Pt.p2 a2>=a3))
 (AA (.bool AD,[]))
 (cond (AE (Qy.ft a1=ic 0))
 (cond (Qy.fl a1)
 (cond (AE (D3 m (Qy.c a1) a2<D3 m (Qy.c a1) {p0:=a3,p1:=Pt.p1 a2,p2:=Pt.p2 a2,p3:=Pt.p3 a2}))
 (AA (.bool AC,[]))
 (cond (!Qy.fl a1)
 (AA ((.bool (AE (D3 m (Qy.c a1) a2>D3 m (Qy.c a1) {p0:=a3,p1:=Pt.p1 a2,p2:=Pt.p2 a2,p3:=Pt.p3 a2}))),[]))
 (AA (.bool AD,[]))))
 (cond (!Qy.fl a1)
 (AA ((.bool (AE (D3 m (Qy.c a1) a2>D3 m (Qy.c a1) {p0:=a3,p1:=Pt.p1 a2,p2:=Pt.p2 a2,p3:=Pt.p3 a2}))),[]))
 (AA (.bool AD,[]))))
 (cond (AE (Qy.ft a1=ic 1))
 (cond (Qy.fl a1)
 (cond (AE (D3 m (Qy.c a1) a2<D3 m (Qy.c a1) {p0:=Pt.p0 a2,p1:=a3,p2:=Pt.p2 a2,p3:=Pt.p3 a2}))
 (AA (.bool AC,[]))
 (cond (!Qy.fl a1)
 (AA ((.bool (AE (D3 m (Qy.c a1) a2>D3 m (Qy.c a1) {p0:=Pt.p0 a2,p1:=a3,p2:=Pt.p2 a2,p3:=Pt.p3 a2}))),[]))
 (AA (.bool AD,[]))))
 (cond (!Qy.fl a1)
 (AA ((.bool (AE (D3 m (Qy.c a1) a2>D3 m (Qy.c a1) {p0:=Pt.p0 a2,p1:=a3,p2:=Pt.p2 a2,p3:=Pt.p3 a2}))),[]))
 (AA (.bool AD,[]))))
 (cond (AE (Qy.ft a1=ic 2))
 (cond (Qy.fl a1)
 (cond (AE (D3 m (Qy.c a1) a2<D3 m (Qy.c a1) {p0:=Pt.p0 a2,p1:=Pt.p1 a2,p2:=a3,p3:=Pt.p3 a2}))
 (AA (.bool AC,[]))
 (cond (!Qy.fl a1)
 (AA ((.bool (AE (D3 m (Qy.c a1) a2>D3 m (Qy.c a1) {p0:=Pt.p0 a2,p1:=Pt.p1 a2,p2:=a3,p3:=Pt.p3 a2}))),[]))
 (AA (.bool AD,[]))))
 (cond (!Qy.fl a1)
 (AA ((.bool (AE (D3 m (Qy.c a1) a2>D3 m (Qy.c a1) {p0:=Pt.p0 a2,p1:=Pt.p1 a2,p2:=a3,p3:=Pt.p3 a2}))),[]))
 (AA (.bool AD,[]))))
 (cond (AE (Qy.ft a1=ic 3))
 (cond (Qy.fl a1)
 (cond (AE (D3 m (Qy.c a1) a2<D3 m (Qy.c a1) {p0:=Pt.p0 a2,p1:=Pt.p1 a2,p2:=Pt.p2 a2,p3:=a3}))
 (AA (.bool AC,[]))
 (cond (!Qy.fl a1)
 (AA ((.bool (AE (D3 m (Qy.c a1) a2>D3 m (Qy.c a1) {p0:=Pt.p0 a2,p1:=Pt.p1 a2,p2:=Pt.p2 a2,p3:=a3}))),[]))
 (AA (.bool AD,[]))))
 (cond (!Qy.fl a1)
 (AA ((.bool (AE (D3 m (Qy.c a1) a2>D3 m (Qy.c a1) {p0:=Pt.p0 a2,p1:=Pt.p1 a2,p2:=Pt.p2 a2,p3:=a3}))),[]))
 (AA (.bool AD,[]))))
 AB)))))
 (cond (AE (Qy.ft a1=ic 3))
 (cond (AE (Pt.p3 a2>=a3))
 (AA (.bool AD,[]))
 (cond (AE (Qy.ft a1=ic 0))
 (cond (Qy.fl a1)
 (cond (AE (D3 m (Qy.c a1) a2<D3 m (Qy.c a1) {p0:=a3,p1:=Pt.p1 a2,p2:=Pt.p2 a2,p3:=Pt.p3 a2}))
 (AA (.bool AC,[]))
 (cond (!Qy.fl a1)
 (AA ((.bool (AE (D3 m (Qy.c a1) a2>D3 m (Qy.c a1) {p0:=a3,p1:=Pt.p1 a2,p2:=Pt.p2 a2,p3:=Pt.p3 a2}))),[]))
 (AA (.bool AD,[]))))
 (cond (!Qy.fl a1)
 (AA ((.bool (AE (D3 m (Qy.c a1) a2>D3 m (Qy.c a1) {p0:=a3,p1:=Pt.p1 a2,p2:=Pt.p2 a2,p3:=Pt.p3 a2}))),[]))
 (AA (.bool AD,[]))))
 (cond (AE (Qy.ft a1=ic 1))
 (cond (Qy.fl a1)
 (cond (AE (D3 m (Qy.c a1) a2<D3 m (Qy.c a1) {p0:=Pt.p0 a2,p1:=a3,p2:=Pt.p2 a2,p3:=Pt.p3 a2}))
 (AA (.bool AC,[]))
 (cond (!Qy.fl a1)
 (AA ((.bool (AE (D3 m (Qy.c a1) a2>D3 m (Qy.c a1) {p0:=Pt.p0 a2,p1:=a3,p2:=Pt.p2 a2,p3:=Pt.p3 a2}))),[]))
 (AA (.bool AD,[]))))
 (cond (!Qy.fl a1)
 (AA ((.bool (AE (D3 m (Qy.c a1) a2>D3 m (Qy.c a1) {p0:=Pt.p0 a2,p1:=a3,p2:=Pt.p2 a2,p3:=Pt.p3 a2}))),[]))
 (AA (.bool AD,[]))))
 (cond (AE (Qy.ft a1=ic 2))
 (cond (Qy.fl a1)
 (cond (AE (D3 m (Qy.c a1) a2<D3 m (Qy.c a1) {p0:=Pt.p0 a2,p1:=Pt.p1 a2,p2:=a3,p3:=Pt.p3 a2}))
 (AA (.bool AC,[]))
 (cond (!Qy.fl a1)
 (AA ((.bool (AE (D3 m (Qy.c a1) a2>D3 m (Qy.c a1) {p0:=Pt.p0 a2,p1:=Pt.p1 a2,p2:=a3,p3:=Pt.p3 a2}))),[]))
 (AA (.bool AD,[]))))
 (cond (!Qy.fl a1)
 (AA ((.bool (AE (D3 m (Qy.c a1) a2>D3 m (Qy.c a1) {p0:=Pt.p0 a2,p1:=Pt.p1 a2,p2:=a3,p3:=Pt.p3 a2}))),[]))
 (AA (.bool AD,[]))))
 (cond (AE (Qy.ft a1=ic 3))
 (cond (Qy.fl a1)
 (cond (AE (D3 m (Qy.c a1) a2<D3 m (Qy.c a1) {p0:=Pt.p0 a2,p1:=Pt.p1 a2,p2:=Pt.p2 a2,p3:=a3}))
 (AA (.bool AC,[]))
 (cond (!Qy.fl a1)
 (AA ((.bool (AE (D3 m (Qy.c a1) a2>D3 m (Qy.c a1) {p0:=Pt.p0 a2,p1:=Pt.p1 a2,p2:=Pt.p2 a2,p3:=a3}))),[]))
 (AA (.bool AD,[]))))
 (cond (!Qy.fl a1)
 (AA ((.bool (AE (D3 m (Qy.c a1) a2>D3 m (Qy.c a1) {p0:=Pt.p0 a2,p1:=Pt.p1 a2,p2:=Pt.p2 a2,p3:=a3}))),[]))
 (AA (.bool AD,[]))))
 AB)))))
 AB))))))):=AF
theorem Sd(N:Nat)(m:Md)(a1:Qy)(a2:Pt)(b8:Bool)(x9 x38 x39:Int)(again:St->DW)(k:Out->St->DW):E3 (MD N) (DU OO [1,1,1,0,1,0,1,1,1,0,0,1,0,0])
 ⟨[(4,(.ptr 4 0 0)),(5,(.ptr 5 0 0)),(6,(.ptr 6 0 0)),(8,(.bool b8)),(9,(.i x9)),(38,(.i x38)),(39,(.i x39))],[(4,(AA (.box (Md.cs m)))),(5,(AA (.box (Qy.cs a1)))),(6,(AA (.box (Pt.cs a2))))]⟩
 (ES again ⟨[4,5,6,8,9,38,39],[4,5,6],[]⟩ k)=
 (cond (AE (x39<x38))
 (cond (x39 !=Qy.c a1)
 (cond (AE (D3 m x39 a2>=x9))
 (k .ret ⟨[(4,(.ptr 4 0 0)),(5,(.ptr 5 0 0)),(6,(.ptr 6 0 0)),(8,(.bool AC)),(9,(.i x9)),(38,(.i x38)),(39,(.i x39))],[(4,(AA (.box (Md.cs m)))),(5,(AA (.box (Qy.cs a1)))),(6,(AA (.box (Pt.cs a2))))]⟩)
 (again ⟨[(4,(.ptr 4 0 0)),(5,(.ptr 5 0 0)),(6,(.ptr 6 0 0)),(8,(.bool b8)),(9,(.i x9)),(38,(.i x38)),(39,(.i (AI AJ (x39+1))))],[(4,(AA (.box (Md.cs m)))),(5,(AA (.box (Qy.cs a1)))),(6,(AA (.box (Pt.cs a2))))]⟩))
 (again ⟨[(4,(.ptr 4 0 0)),(5,(.ptr 5 0 0)),(6,(.ptr 6 0 0)),(8,(.bool b8)),(9,(.i x9)),(38,(.i x38)),(39,(.i (AI AJ (x39+1))))],[(4,(AA (.box (Md.cs m)))),(5,(AA (.box (Qy.cs a1)))),(6,(AA (.box (Pt.cs a2))))]⟩))
 (k (.exit 1) ⟨[(4,(.ptr 4 0 0)),(5,(.ptr 5 0 0)),(6,(.ptr 6 0 0)),(8,(.bool b8)),(9,(.i x9)),(38,(.i x38)),(39,(.i x39))],[(4,(AA (.box (Md.cs m)))),(5,(AA (.box (Qy.cs a1)))),(6,(AA (.box (Pt.cs a2))))]⟩)):=AF
theorem im(N:Nat)(m:Md)(a1:Qy)(a2:Pt)(b8:Bool)(x9 x38 x39:Int):(DZ 1 (D1 (MD N) (DU OO [1,1,1,0,1,0,1,1,1,0,1]) (DZ 0 (D1 (MD N) (DU OO [1,1,1,1]) (D4 (MD N) AB [.tmp 8] [[.bool]]))))) (.exit 1)
 ⟨[(4,(.ptr 4 0 0)),(5,(.ptr 5 0 0)),(6,(.ptr 6 0 0)),(8,(.bool b8)),(9,(.i x9)),(38,(.i x38)),(39,(.i x39))],[(4,(AA (.box (Md.cs m)))),(5,(AA (.box (Qy.cs a1)))),(6,(AA (.box (Pt.cs a2))))]⟩=
 (AA (.bool AD,[])):=AF
theorem iq(N:Nat)(m:Md)(a1:Qy)(a2:Pt)(b8:Bool)(x9 x38 x39:Int):(DZ 1 (D1 (MD N) (DU OO [1,1,1,0,1,0,1,1,1,0,1]) (DZ 0 (D1 (MD N) (DU OO [1,1,1,1]) (D4 (MD N) AB [.tmp 8] [[.bool]]))))) .ret
 ⟨[(4,(.ptr 4 0 0)),(5,(.ptr 5 0 0)),(6,(.ptr 6 0 0)),(8,(.bool b8)),(9,(.i x9)),(38,(.i x38)),(39,(.i x39))],[(4,(AA (.box (Md.cs m)))),(5,(AA (.box (Qy.cs a1)))),(6,(AA (.box (Pt.cs a2))))]⟩=
 (AA (.bool b8,[])):=AF
def Wz(N:Nat):Env:=EI [] [(2,⟨[2,5,6],[],[]⟩)] 15 N
def Wv(N:Nat):Env:=EI [] [(3,⟨[1,2,3,5],[1,2,3],[]⟩)] 16 N
open Go Go.Proofs
abbrev g7:KP:=⟨[2,3,4,33,34],[2,3],[]⟩
def UJ(N:Nat):Env:=EI [(134,SW),(75,SY)] [(4,⟨[2,3,4,33,34],[2,3],[]⟩)] 139 N
abbrev LC:DW:=AA (V.bool AD,[])
abbrev PH(m:Md)(q:Qy)(i:Int):St:=⟨[(2,.ptr 2 0 0),(3,.ptr 3 0 0),(4,.bool AD),(33,.agg [.i q.a0,.i q.b0,.i q.a1,.i q.b1,.i q.a2,.i q.b2,.i q.a3,.i q.b3,.i q.a4,.i q.b4]),(34,.i i)],[(2,AA (.box m.cs)),(3,AA (.box q.cs))]⟩
def vC(d i:Int)(s:Sp)(F rest:DW):DW:=
 cond (AE (i<d)) (cond (AE (s.lo>s.hi)) F (cond (!(EV s.lo)) F (cond (!(EV s.hi)) F (cond (AE (i>=d)) (cond (!((s.lo==0)&&((s.hi==0)&&AC))) F rest) rest))))
  (cond (AE (i>=d)) (cond (!((s.lo==0)&&((s.hi==0)&&AC))) F rest) rest)
noncomputable abbrev X4(N:Nat):Out->St->DW:=DZ 0 (D1 (UJ N) (DU UZ [1,1,1]) (D4 (UJ N) AB [.tmp 4] [[.bool]]))
set_option maxRecDepth 100000
theorem yd(N:Nat)(m:Md)(q:Qy):EB (UJ N) UZ [.tmp 4] [[.bool]] [m.V,q.V]=
 cond (!(ET m)) LC (cond (AE (q.c<0)) LC (cond (AE (q.c>=m.c)) LC (cond (AE (q.bu<0)) LC (cond (AE (q.bu>65536)) LC
 (D7 (UJ N) (DU UZ [1,1,0,1,0,0]) g7 N (PH m q 0) (X4 N)))))):=AF
theorem ze3(N:Nat)(m:Md)(q:Qy){j:Nat}(hj:j<5)(again:St->DW)(k:Out->St->DW):E3 (UJ N) (DU UZ [1,1,0,1,0,0]) (PH m q (j:Int)) (ES again g7 k)=
 vC m.d (j:Int) (q.bx.g j) (k .ret (PH m q (j:Int))) (again (PH m q (D6 ((j:Int)+1)))):=by
 obtain rfl|rfl|rfl|rfl|rfl:j=0\/j=1\/j=2\/j=3\/j=4:=by omega
 all_goals kernel_rfl
theorem ze4(N:Nat)(m:Md)(q:Qy)(again:St->DW)(k:Out->St->DW):E3 (UJ N) (DU UZ [1,1,0,1,0,0]) (PH m q 5) (ES again g7 k)=k (.exit 0) (PH m q 5):=AF
theorem ke(N:Nat)(m:Md)(q:Qy)(i:Int):X4 N .ret (PH m q i)=LC:=AF
theorem kc(N:Nat)(m:Md)(q:Qy)(i:Int):X4 N (.exit 0) (PH m q i)=
 cond (q.k==1) (cond (AE (q.lo<=q.hi)) (cond (q.ft==0) (AA (.bool (!q.fl),[])) LC) LC)
 (cond (q.k==2) (cond (AE (m.c>=2)) (cond (q.lo==0) (cond (q.hi==0) (cond (q.ft==0) (AA (.bool (!q.fl),[])) LC) LC) LC) LC)
 (cond (q.k==3) (cond (AE (q.ft>=0)) (cond (AE (q.ft<m.d)) (cond (q.lo==0) (AA (.bool (q.hi==0),[])) LC) LC) LC) LC)):=AF
open Go Go.Proofs
set_option maxRecDepth 100000
theorem zc4(b:Bx):EB (Wz 6) Ao [.tmp 2] [[.bool]] [b.V]=
 cond b.s0.emp (AA (.bool AC,[])) (cond b.s1.emp (AA (.bool AC,[])) (cond b.s2.emp (AA (.bool AC,[])) (cond b.s3.emp (AA (.bool AC,[])) (cond b.s4.emp (AA (.bool AC,[])) (AA (.bool AD,[])))))):=AF
theorem wG:D9 PR B0 140 SV:=by
 refine EJ [] [(2,⟨[2,5,6],[],[]⟩)] SV [[.bool]] Tryz.func140 pl trivial ?_;intro vs r hwf h;unfold SV at h;split at h
 .rename_i b;replace h:=H4 h;obtain⟨b,rfl,h⟩:=h;rw[R.get_ok]at h;refine⟨6,?_⟩;rw[<-h];refine(zc4 b).trans ?_;unfold Bx.emp;cases b.s0.emp<;>cases b.s1.emp<;>cases b.s2.emp<;>cases b.s3.emp<;>cases b.s4.emp<;>rfl
 .simp[R.get]at h
theorem zc5(b:Bx):EB (Wv 5) Aj [.cell 2 48] [[.z,.z,.z,.z]] [b.V]=AA (b.low.V,[]):=AF
theorem zdV:D9 PR B0 89 dI:=by
 refine EJ [] [(3,⟨[1,2,3,5],[1,2,3],[]⟩)] dI [[.z,.z,.z,.z]] Tryz.func89 oz trivial ?_;intro vs r hwf h;unfold dI at h;split at h
 .rename_i b;replace h:=H4 h;obtain⟨b,rfl,h⟩:=h;rw[R.get_ok]at h;exact⟨5,(zc5 b).trans h⟩
 .simp[R.get]at h
theorem zdZ:D9 PR B0 86 dM:=by
 refine EJ [] [] dM [[.z,.z,.z,.z,.z,.z,.z,.z,.z,.z]] Tryz.func86 pf trivial ?_;intro vs r hwf h;unfold dM at h;split at h
 .rename_i q;replace h:=I2 h;obtain⟨q,rfl,h⟩:=h;rw[R.get_ok]at h;refine⟨0,(yh 0 q).trans ?_⟩;rw[<-h];unfold GG;cases hp:F6 q with
  |true=>
   have hp':=hp;unfold F6 at hp';simp only[AP]at hp';obtain⟨h1,h2,h3⟩:=hp';rw[h1,h2,h3];rcases QU hp with e|e|e|e<;>rw[e]<;>rfl
  |false=>
   cases h1:(q.k==3)<;>cases h2:AE (q.ft>=0)<;>cases h3:AE (q.ft<4)<;>first|rfl|(unfold F6 at hp;rw[h1,h2,h3]at hp;cases hp)
 .simp[R.get]at h
theorem zcA(d i:Int)(s:Sp)(F rest:DW):vC d i s F rest=cond (IB d i s) rest F:=by
 unfold vC IB Sp.emp;rw[CJ];by_cases hd:i<d
 .rw[AL hd,AS (show¬i>=d by omega)];cases AE (s.lo>s.hi)<;>cases EV s.lo<;>cases EV s.hi<;>rfl
 .rw[AS hd,AL (show i>=d by omega)];cases hz:((s.lo==0)&&(s.hi==0))with
  |false=>rfl
  |true=>
   simp only[AP,CE]at hz;rw[hz.1,hz.2];rfl
theorem Nx(N:Nat)(m:Md)(q:Qy)(R:DW)(hx:X4 N (.exit 0) (PH m q 5)=R):∀(d j n:Nat),j+d=5->d<n->(∃r,D7 (UJ N) (DU UZ [1,1,0,1,0,0]) g7 n (PH m q (j:Int)) (X4 N)=cond r R LC/\r=((va8 j d).all λi=>IB m.d (i:Int) (q.bx.g i)))
 |0,j,n+1,hd,_=>by
  obtain rfl:j=5:=by omega
  exact⟨AC,by rw[ED];exact(ze4 N m q _ _).trans hx,rfl⟩
 |d+1,j,n+1,hd,hn=>by
  obtain⟨r,e1,e2⟩:=Nx N m q R hx d (j+1) n AG AG;refine⟨IB m.d (j:Int) (q.bx.g j)&&r,?_,?_⟩
  .rw[ED,ze3 N m q AG,show D6 ((j:Int)+1)=((j+1:Nat):Int)from GQ AG,e1,ke,zcA];cases IB m.d (j:Int) (q.bx.g j)<;>rfl
  .rw[List.range'_succ,van,e2]
 |0,_,0,_,h=>by omega
 |_+1,_,0,_,h=>by omega
theorem m5(a b:Int):AE (a>=b)=!decide (a<b):=by
 by_cases h:a<b
 .rw[AL h,AS AG];rfl
 .rw[AS h,AL AG];rfl
theorem za4(a b:Int):AE (a<b)=!decide (a>=b):=by
 rw[m5,Bool.not_not]
theorem za5(a b:Int):AE (a<=b)=!decide (a>b):=m5 b a
theorem wF:D9 PR B0 85 SU:=by
 refine EJ [(134,SW),(75,SY)] [(4,⟨[2,3,4,33,34],[2,3],[]⟩)] SU [[.bool]] Tryz.func85 pa ⟨wH,wJ,trivial⟩ ?_;intro vs r hwf h;unfold SU at h;split at h
 .rename_i m q;replace h:=IH h;obtain⟨m,rfl,h⟩:=h;replace h:=I2 h;obtain⟨q,rfl,h⟩:=h;rw[R.get_ok]at h;refine⟨6,(yd 6 m q).trans ?_⟩;rw[<-h];have er:E8 m q=(ET m&&(AE (q.c>=0)&&(AE (q.c<m.c)&&(AE (q.bu>=0)&&(AE (q.bu<=65536)&&(((va8 0 5).all λi=>IB m.d (i:Int) (q.bx.g i))&&MR m q)))))):=by
   have:((va8 0 5).all λi=>IB m.d (i:Int) (q.bx.g i))=(IB m.d 0 q.bx.s0&&(IB m.d 1 q.bx.s1&&(IB m.d 2 q.bx.s2&&(IB m.d 3 q.bx.s3&&(IB m.d 4 q.bx.s4&&AC))))):=rfl
   rw[this,CJ];rfl
  have ek:X4 6 (.exit 0) (PH m q 5)=AA (V.bool (MR m q),[]):=by
   rw[kc];unfold MR;cases(q.k==1)<;>cases(q.k==2)<;>cases(q.k==3)<;>cases AE (q.lo<=q.hi)<;>cases(q.ft==0)<;>cases AE (m.c>=2)<;>cases(q.lo==0)<;>cases(q.hi==0)<;>cases AE (q.ft>=0)<;>cases AE (q.ft<m.d)<;>rfl
  obtain⟨r,e1,e2⟩:=Nx 6 m q _ ek 5 0 6 rfl AG;replace e1:D7 (UJ 6) (DU UZ [1,1,0,1,0,0]) g7 6 (PH m q 0) (X4 6)=cond r (AA (V.bool (MR m q),[])) LC:=e1;rw[e1,er,<-e2,m5 q.c 0,za4 q.c m.c,m5 q.bu 0,za5 q.bu 65536];cases ET m<;>cases AE (q.c<0)<;>cases AE (q.c>=m.c)<;>cases AE (q.bu<0)<;>cases AE (q.bu>65536)<;>cases r<;>rfl
 .simp[R.get]at h
abbrev zf9(m:Md)(q:Qy)(p:Pt)(own i:Int):St:=
 ⟨[(4,(.ptr 4 0 0)),(5,(.ptr 5 0 0)),(6,(.ptr 6 0 0)),(8,(.bool AD)),(9,(.i own)),(38,(.i (Md.c m))),(39,(.i i))],[(4,(AA (.box (Md.cs m)))),(5,(AA (.box (Qy.cs q)))),(6,(AA (.box (Pt.cs p))))]⟩
theorem Mu(N:Nat)(m:Md)(q:Qy)(p:Pt)(own:Int)(hc:0<=m.c/\m.c<=3):∀(d i n:Nat),((i+d:Nat):Int)=m.c->d<n->
  D7 (MD N) (DU OO [1,1,1,0,1,0,1,1,1,0,0,1,0,0]) ⟨[4,5,6,8,9,38,39],[4,5,6],[]⟩ n (zf9 m q p own (i:Int)) (DZ 1 (D1 (MD N) (DU OO [1,1,1,0,1,0,1,1,1,0,1]) (DZ 0 (D1 (MD N) (DU OO [1,1,1,1]) (D4 (MD N) AB [(B9 8)] [[.bool]])))))=
   AA (.bool (XC m q p own d i),[])
 |d,i,0,_,h=>absurd h AG
 |0,i,n+1,hd,_=>by
  rw[ED,Sd,AS (show¬(i:Int)<m.c by omega),DT];exact im N m q p _ _ _ _
 |d+1,i,n+1,hd,hn=>by
  have ei:AI AJ ((i:Int)+1)=((i+1:Nat):Int):=GQ AG;rw[ED,Sd,ei,AL (show(i:Int)<m.c by omega),DS,XC];have ih:=Mu N m q p own hc d (i+1) n AG AG;have en:((i:Int)!=q.c)=!((i:Int)==q.c):=rfl;rw[en];cases((i:Int)==q.c)with
  |true=>exact ih
  |false=>
   rw[BG,DS,BE];cases AE (D3 m (i:Int) p>=own)with
   |true=>exact iq N m q p _ _ _ _
   |false=>exact ih
theorem zdR:D9 PR B0 88 dE:=by
 refine EJ [(85,SU),(143,dQ)] [(9,⟨[4,5,6,8,9,38,39],[4,5,6],[]⟩)] dE [[.bool]] Tryz.func88 ov ⟨wF,zd3,trivial⟩ ?_;intro vs r hwf h;unfold dE at h;split at h
 .rename_i m q p t;replace h:=IH h;obtain⟨m,rfl,h⟩:=h;replace h:=I2 h;obtain⟨q,rfl,h⟩:=h;replace h:=Q7 h;obtain⟨p,rfl,h⟩:=h;rw[R.get_ok]at h;refine⟨10,?_⟩;rw[<-h];refine(xy 10 m q p t).trans ?_;unfold HK;cases hr:E8 m q with
  |false=>rfl
  |true=>
   obtain⟨hm,_,_,_,hk⟩:=O6 hr;have hmp:=JL hm;rw[A9,DT,BE];cases h1:(q.k==1)with
   |true=>
    rw[DS,DS];unfold Sp.has;by_cases hlo:D3 m q.c p<q.lo
    .rw[AL hlo,DS,AS (show¬q.lo<=D3 m q.c p by omega)];rfl
    .rw[AS hlo,DT,AL (show q.lo<=D3 m q.c p by omega),BE,<-decide_not];refine congrArg (λz=>AA (V.bool z,([]:List (List V)))) ?_;rw[decide_eq_decide];show D3 m q.c p>q.hi↔¬D3 m q.c p<=q.hi;omega
   |false=>
    rw[DT,DT];cases h2:(q.k==2)with
    |true=>
     rw[DS,DS];refine(Mu 10 m q p _ AG m.c.toNat 0 10 AG AG).trans ?_;rw[o5,<-List.range_eq_range'];rfl
    |false=>
     rw[DT,DT];rcases aM hk with⟨e,_⟩|⟨e,_⟩|⟨ek,⟨f0,fd⟩,_⟩
     .rw[e]at h1;cases h1
     .rw[e]at h2;cases h2
     .have hp:F6 q=AC:=by
       unfold F6;rw[ek,AL (show q.ft>=0 from f0),AL (show q.ft<4 by omega)];rfl
      have step:∀(x:Int) (p':Pt),p'=IA q p t->cond (AE (x>=t)) (AA (V.bool AD,[])) (cond q.fl (cond (AE (D3 m q.c p<D3 m q.c p')) (AA (V.bool AC,[])) (cond (!q.fl) (AA (V.bool (AE (D3 m q.c p>D3 m q.c p')),[])) (AA (V.bool AD,[]))))
         (cond (!q.fl) (AA (V.bool (AE (D3 m q.c p>D3 m q.c p')),[])) (AA (V.bool AD,[]))))=
        AA (V.bool (cond (AE (x>=t)) AD (cond q.fl (AE (D3 m q.c (IA q p t)>D3 m q.c p)) (AE (D3 m q.c (IA q p t)<D3 m q.c p)))),([]:List (List V))):=λx p' e=>by
       subst e;cases AE (x>=t)with
       |true=>rfl
       |false=>
        cases q.fl with
        |true=>
         show cond (AE (D3 m q.c p<D3 m q.c (IA q p t))) _ _=AA (V.bool (AE (D3 m q.c p<D3 m q.c (IA q p t))),[]);cases AE (D3 m q.c p<D3 m q.c (IA q p t))<;>rfl
        |false=>rfl
      have es:∀n:Nat,q.ft.toNat=n->IA q p t=p.p t n:=λn e=>by unfold IA;rw[hp,DS,e]
      obtain e|e|e|e:q.ft=0\/q.ft=1\/q.ft=2\/q.ft=3:=by omega
      .have e2:=es 0 (by rw[e];rfl);rw[e];exact step _ _ e2.symm
      .have e2:=es 1 (by rw[e];rfl);rw[e];exact step _ _ e2.symm
      .have e2:=es 2 (by rw[e];rfl);rw[e];exact step _ _ e2.symm
      .have e2:=es 3 (by rw[e];rfl);rw[e];exact step _ _ e2.symm
 .simp[R.get]at h
open Go
theorem za0{w:Int}(hb:FJ w=AC)(hl:(DV w).lf=AD):(0<=(DV w).f/\(DV w).f<4)/\(1<=(DV w).l/\(DV w).l<31)/\(1<=(DV w).r/\(DV w).r<31)/\EV (DV w).a=AC:=by
 have h:=(iM hb).2;unfold IQ at h;rw[hl,BC]at h;unfold NY at h;simp only[AP,AW]at h;exact⟨⟨h.2.1,h.2.2.1⟩,h.2.2.2.2.1,h.2.2.2.2.2,h.2.2.2.1⟩
theorem zbS{m:Md}{q:Qy}(hr:E8 m q=AC)(h1:(q.k==1)=AD)(h2:(q.k==2)=AD):F6 q=AC:=by
 obtain⟨hm,_,_,_,hk⟩:=TU hr;unfold MR at hk;rw[h1,h2,BC,BC]at hk;cases h3:q.k==3 with
 |false=>rw[h3,BC]at hk;cases hk
 |true=>
  rw[h3,BN]at hk;simp only[AP,AW]at hk;exact nG hm (by simpa using h3) ⟨hk.1,hk.2.1⟩
structure R4 (x y:IV):Prop where
 a0:(EC x).s0=(EC y).s0
 a1:(EC x).s1=(EC y).s1
 a2:(EC x).s2=(EC y).s2
 a3:(EC x).s3=(EC y).s3
 ex:(EC x).s4.emp=AD
 ey:(EC y).s4.emp=AD
theorem zcs{x y:IV}(h:R4 x y):(EC x).emp=(EC y).emp:=by
 unfold Bx.emp;rw[h.a0,h.a1,h.a2,h.a3,h.ex,h.ey]
theorem u6{a b:Bx}(h0:a.s0=b.s0)(h1:a.s1=b.s1)(h2:a.s2=b.s2)(h3:a.s3=b.s3)(h4:a.s4.emp=AD)(h5:b.s4.emp=AD):R4 a.I b.I:=⟨h0,h1,h2,h3,h4,h5⟩
theorem zcr{x y:IV}(h:R4 x y){f:Int}(h0:0<=f)(h4:f<4)(a:Int):R4 ((EC x).cutL f a).I ((EC y).cutL f a).I/\R4 ((EC x).cutH f a).I ((EC y).cutH f a).I:=by
 obtain⟨a0,a1,a2,a3,ex,ey⟩:=h;generalize EC x=b at*;generalize EC y=c at*;obtain⟨b0,b1,b2,b3,b4⟩:=b;obtain⟨c0,c1,c2,c3,c4⟩:=c;simp only at a0 a1 a2 a3;subst a0 a1 a2 a3;obtain rfl|rfl|rfl|rfl:f=0\/f=1\/f=2\/f=3:=by omega
 all_goals exact⟨u6 rfl rfl rfl rfl ex ey,u6 rfl rfl rfl rfl ex ey⟩
def oY(l m:LI):Prop:=l.length=m.length/\∀k,R4 (l.getD k default) (m.getD k default)
theorem u7{l m:LI}(h:oY l m){x y:IV}(hxy:R4 x y)(i:Nat):oY (l.set i x) (m.set i y):=by
 refine⟨by rw[DP,DP];exact h.1,λk=>?_⟩;have hk:=h.2 k;have hl:=h.1;rw[BK,BK]at hk ⊢;by_cases e:i=k
 .subst e;by_cases hi:i<l.length
  .rw[vbh hi,vbh AG];exact hxy
  .rw[List.set_eq_of_length_le AG,List.set_eq_of_length_le AG];exact hk
 .rw[vaG e,vaG e];exact hk
theorem Im:∀(l:LI) (i:Nat) (own own' out out':LI),(∀w∈l,FJ w.toInt=AC)->oY own own'->out.map FT=out'.map FT->(JW l i own out).map FT=(JW l i own' out').map FT
 |[],_,_,_,_,_,_,_,h=>h
 |w::r,i,own,own',out,out',hn,hR,h=>by
  rw[JW,JW];have hi:=hR.2 i;refine Im r (i+1) _ _ _ _ (λx hx=>hn x (A6 _ hx)) ?_ ?_
  .unfold K0;cases hl:(DV w.toInt).lf with
   |true=>exact hR
   |false=>
    obtain⟨⟨f0,f4⟩,_⟩:=za0 (hn w (AZ ..)) hl;obtain⟨c1,c2⟩:=zcr hi f0 f4 (DV w.toInt).a;exact u7 (u7 hR c1 _) c2 _
  .rw[zcs hi];cases((DV w.toInt).lf&&!(EC (own'.getD i default)).emp)with
   |true=>
    rw[BN,BN,va5,va5,h];rfl
   |false=>exact h
theorem tF:∀(l:LI) (a:Int),MX l a=(l.map FT).foldl min a
 |[],_=>rfl
 |x::r,a=>by rw[MX,A8,vas,tF r]
theorem tA:∀(l:LI) (a:Int),MV l a=(l.map FT).foldl max a
 |[],_=>rfl
 |x::r,a=>by rw[MV,A8,vas,tA r]
theorem Lh{l m:LI}(h:l.map FT=m.map FT):FT (l.getD 0 default)=FT (m.getD 0 default):=by
 cases l with
 |nil=>cases m with
  |nil=>rfl
  |cons y s=>cases h
 |cons x r=>cases m with
  |nil=>cases h
  |cons y s=>exact(List.cons.inj h).1
theorem zcc{l m:LI}(h:l.map FT=m.map FT):TT l=TT m:=by
 unfold TT;rw[tF,tF,h,Lh h]
theorem zcb{l m:LI}(h:l.map FT=m.map FT):TS l=TS m:=by
 unfold TS;rw[tA,tA,h,Lh h]
theorem Jv{dim n:Int}:∀{l:LI} {i:Nat},IY dim n i l=AC->∀w∈l,FJ w.toInt=AC
 |[],_,_,_,hw=>by cases hw
 |x::r,i,h,w,hw=>by
  rw[IY]at h;simp only[AP]at h;rcases AY.1 hw with rfl|hw
  .exact h.1.1
  .exact Jv h.2 w hw
theorem sS(l:LI){b c:Bx}(h0:b.s0=c.s0)(h1:b.s1=c.s1)(h2:b.s2=c.s2)(h3:b.s3=c.s3)(hb:b.s4.emp=AD)(hc:c.s4.emp=AD):(GS l b).map FT=(GS l c).map FT:=by
 unfold GS;have e:b.emp=c.emp:=by
  unfold Bx.emp;rw[h0,h1,h2,h3,hb,hc]
 rw[e];cases ht:F5 l 4 with
 |false=>rfl
 |true=>
  cases c.emp with
  |true=>rfl
  |false=>
   show(JW l 0 _ []).map FT=(JW l 0 _ []).map FT;have hn:IY 4 (ic l.length) 0 l=AC:=by
    unfold F5 at ht;simp only[AP]at ht;exact ht.2.1
   refine Im l 0 _ _ [] [] (Jv hn) ?_ rfl;refine u7 ⟨rfl,λk=>?_⟩ (u6 h0 h1 h2 h3 hb hc) 0;by_cases hk:k<l.length
   .have e:(BU l.length QJ.I).getD k default=QJ.I:=by
     rw[BK,List.getElem?_replicate,B3 hk];rfl
    rw[e];exact⟨rfl,rfl,rfl,rfl,rfl,rfl⟩
   .have e:(BU l.length QJ.I).getD k default=default:=by
     rw[BK,List.getElem?_replicate,BO hk];rfl
    rw[e];exact⟨rfl,rfl,rfl,rfl,rfl,rfl⟩
theorem Ua{m:Md}{k:Int}{b c:Bx}(h0:b.s0=c.s0)(h1:b.s1=c.s1)(h2:b.s2=c.s2)(h3:b.s3=c.s3)(hb:b.s4.emp=AD)(hc:c.s4.emp=AD):EK m k b=EK m k c/\EE m k b=EE m k c/\F9 m k b=F9 m k c:=by
 have e:b.emp=c.emp:=by
  unfold Bx.emp;rw[h0,h1,h2,h3,hb,hc]
 have eo:∀l,P7 l b=P7 l c:=λl=>by
  have:=sS l h0 h1 h2 h3 hb hc
  unfold P7;cases h1:GS l b with
  |nil=>rw[h1]at this;cases h2:GS l c with
   |nil=>rfl
   |cons y s=>rw[h2]at this;cases this
  |cons x r=>rw[h1]at this;cases h2:GS l c with
   |nil=>rw[h2]at this;cases this
   |cons y s=>rfl
 have el:(λl=>G8 l b)=λl=>G8 l c:=funext λl=>by
  unfold G8;rw[eo l,zcc (sS l h0 h1 h2 h3 hb hc)]
 have eh:(λl=>G7 l b)=λl=>G7 l c:=funext λl=>by
  unfold G7;rw[eo l,zcb (sS l h0 h1 h2 h3 hb hc)]
 have es:F9 m k b=F9 m k c:=by
  unfold F9;rw[e]
 refine⟨?_,?_,es⟩
 .unfold EK;rw[es,el]
 .unfold EE;rw[es,eh]
theorem mT(m:Md)(c lo:Int)(b:Bx):∀(n:Nat) (i a:Int),NH m c lo b n i a AC>0↔a>0/\∀k:Nat,k<n->i+(k:Int)=c\/lo-EE m (i+(k:Int)) b>0
 |0,i,a=>by
  rw[NH];exact⟨λh=>⟨h,λk hk=>absurd hk (Nat.not_lt_zero k)⟩,λh=>h.1⟩
 |n+1,i,a=>by
  have sh:(∀k:Nat,k<n+1->i+(k:Int)=c\/lo-EE m (i+(k:Int)) b>0)↔(i=c\/lo-EE m i b>0)/\∀k:Nat,k<n->i+1+(k:Int)=c\/lo-EE m (i+1+(k:Int)) b>0:=by
   constructor
   .intro h;refine⟨by simpa using h 0 AG,λk hk=>?_⟩
    have:=h (k+1) AG
    rw[show i+((k+1:Nat):Int)=i+1+(k:Int) by omega]at this;exact this
   .rintro⟨h1,h2⟩ k hk;cases k with
    |zero=>simpa using h1
    |succ k=>
     have:=h2 k AG
     rw[show i+((k+1:Nat):Int)=i+1+(k:Int) by omega];exact this
  rw[NH,sh];by_cases hc:i=c
  .rw[show(i==c)=AC by simpa using hc,BN,mT m c lo b n];constructor
   .rintro⟨h1,h2⟩;exact⟨h1,.inl hc,h2⟩
   .rintro⟨h1,_,h2⟩;exact⟨h1,h2⟩
  .rw[show(i==c)=AD by simpa using hc,BC,A9,vam];by_cases hd:lo-EE m i b<a
   .rw[AL hd,BN,mT m c lo b n];constructor
    .rintro⟨h1,h2⟩;exact⟨by omega,.inr h1,h2⟩
    .rintro⟨h1,h2,h3⟩;rcases h2 with h2|h2
     .exact absurd h2 hc
     .exact⟨h2,h3⟩
   .rw[AS hd,BC,mT m c lo b n];constructor
    .rintro⟨h1,h2⟩;exact⟨h1,.inr AG,h2⟩
    .rintro⟨h1,_,h3⟩;exact⟨h1,h3⟩
theorem Iw(m:Md)(c lo:Int)(b:Bx):∀(n:Nat) (i a:Int),(∃k:Nat,k<n/\i+(k:Int)≠c)->(NH m c lo b n i a AD>0↔∀k:Nat,k<n->i+(k:Int)=c\/lo-EE m (i+(k:Int)) b>0)
 |0,i,a,h=>by
  obtain⟨k,hk,_⟩:=h;exact absurd hk (Nat.not_lt_zero k)
 |n+1,i,a,h=>by
  have sh:(∀k:Nat,k<n+1->i+(k:Int)=c\/lo-EE m (i+(k:Int)) b>0)↔(i=c\/lo-EE m i b>0)/\∀k:Nat,k<n->i+1+(k:Int)=c\/lo-EE m (i+1+(k:Int)) b>0:=by
   constructor
   .intro h;refine⟨by simpa using h 0 AG,λk hk=>?_⟩
    have:=h (k+1) AG
    rw[show i+((k+1:Nat):Int)=i+1+(k:Int) by omega]at this;exact this
   .rintro⟨h1,h2⟩ k hk;cases k with
    |zero=>simpa using h1
    |succ k=>
     have:=h2 k AG
     rw[show i+((k+1:Nat):Int)=i+1+(k:Int) by omega];exact this
  rw[NH,sh];by_cases hc:i=c
  .have hex:∃k:Nat,k<n/\i+1+(k:Int)≠c:=by
    obtain⟨k,hk,hne⟩:=h;cases k with
    |zero=>exact absurd (by simpa using hc) hne
    |succ k=>exact⟨k,by omega,by omega⟩
   rw[show(i==c)=AC by simpa using hc,BN,Iw m c lo b n _ _ hex];constructor
   .intro h2;exact⟨.inl hc,h2⟩
   .rintro⟨_,h2⟩;exact h2
  .rw[show(i==c)=AD by simpa using hc,BC,BG,Bool.true_or,BN,mT];constructor
   .rintro⟨h1,h2⟩;exact⟨.inr h1,h2⟩
   .rintro⟨h2,h3⟩;rcases h2 with h2|h2
    .exact absurd h2 hc
    .exact⟨h2,h3⟩
def Kt(m:Md)(q:Qy)(b:Bx):Bool:=(vaA m.c.toNat).all λc=>((c:Int)==q.c)||!(AE (EE m (c:Int) b>=EK m q.c b))
def pW(m:Md)(q:Qy)(b:Bx):Bool:=
 cond (q.k==1) (AE (EK m q.c b>=q.lo)&&AE (EE m q.c b<=q.hi))
  (cond (q.k==2) (Kt m q b)
   (cond (AE ((b.g q.ft.toNat).lo>=b.s4.hi)) AC
    (cond q.fl (AE (EE m q.c (R9 q b)<=EK m q.c b)) (AE (EK m q.c (R9 q b)>=EE m q.c b)))))
theorem cv{m:Md}{q:Qy}{b:Bx}(hr:E8 m q=AC)(hb:b.emp=AD):GB m q b=pW m q b:=by
 obtain⟨hm,hc,_,_,hk⟩:=TU hr;have hsok:F9 m q.c b=AC:=by
  unfold F9;rw[hm,hb];unfold GR;rw[AL hc.1,AL hc.2];rfl
 unfold GB pW;rw[hr,hb,BE,BC];cases hk1:q.k==1 with
 |true=>rw[BN,BN,hsok,BE]
 |false=>
  rw[BC,BC];cases hk2:q.k==2 with
  |true=>
   rw[BN,BN];unfold MR at hk;rw[hk1,hk2,BC,BN]at hk;simp only[AP]at hk;have hc2:m.c>=2:=BB hk.1;have hmg:MW m q.c b=AC:=by
    unfold MW;rw[hsok,AL hc2];rfl
   unfold TL;rw[hmg,BN,BE];have hex:∃k:Nat,k<m.c.toNat/\0+(k:Int)≠q.c:=by
    by_cases h0:q.c=0
    .exact⟨1,by omega,by omega⟩
    .exact⟨0,by omega,by omega⟩
   have key:=Iw m q.c (EK m q.c b) b m.c.toNat 0 0 hex;rw[vac,AW,key];unfold Kt;rw[CZ];constructor
   .intro h k hk
    have:=h k (vaF.1 hk)
    rw[Int.zero_add]at this;rcases this with h|h
    .simp[h]
    .simp;right;omega
   .intro h k hk
    have:=h k (vaF.2 hk)
    rw[Int.zero_add];simp only[vap,CE,CC,B6]at this;rcases this with h|h
    .exact .inl h
    .right;omega
  |false=>
   rw[BC,BC];have hpair:F6 q=AC:=zbS hr hk1 hk2;have hft:q.ft.toNat<4:=by
    unfold F6 at hpair;simp only[AP,AW]at hpair;omega
   unfold P1;rw[hpair,hb,BE,BG,BE];by_cases ho:(b.g q.ft.toNat).lo<b.s4.hi
   .rw[AL ho,AS (show¬(b.g q.ft.toNat).lo>=b.s4.hi by omega),A9,BC,BC];have h4:b.s4.emp=AD:=by
     unfold Bx.emp at hb;simp only[vaa]at hb;exact hb.2.2.2.2
    have hz:(⟨0,0⟩:Sp).emp=AD:=rfl;have e1:JV q b=b.p ⟨0,0⟩ 4:=by unfold JV;rw[hpair,BN]
    have e2:J0 q b=(b.p b.s4 q.ft.toNat).p ⟨0,0⟩ 4:=by unfold J0;rw[hpair,BN]
    have e3:R9 q b=b.p b.s4 q.ft.toNat:=by unfold R9;rw[hpair,BN]
    have f1:=Ua (m:=m) (k:=q.c) (b:=b) (c:=b.p ⟨0,0⟩ 4) rfl rfl rfl rfl h4 hz;have h4':(b.p b.s4 q.ft.toNat).s4.emp=AD:=by
     have:∀n:Nat,n<4->(b.p b.s4 n).s4=b.s4:=λn hn=>by
      match n,hn with
      |0,_=>rfl
      |1,_=>rfl
      |2,_=>rfl
      |3,_=>rfl
      |n+4,h=>exact absurd h AG
     rw[this _ hft];exact h4
    have f2:=Ua (m:=m) (k:=q.c) (b:=b.p b.s4 q.ft.toNat) (c:=(b.p b.s4 q.ft.toNat).p ⟨0,0⟩ 4) rfl rfl rfl rfl h4' hz;have hb2:(b.p b.s4 q.ft.toNat).emp=AD:=by
     rw[kP]at hb ⊢;intro i hi;rw[LW b _ (show q.ft.toNat<5 by omega) hi];split
     .exact hb 4 AG
     .exact hb i hi
    have hs2:F9 m q.c (b.p b.s4 q.ft.toNat)=AC:=by
     unfold F9;rw[hm,hb2];unfold GR;rw[AL hc.1,AL hc.2];rfl
    have hch:KV m q b=AC:=by
     unfold KV;rw[hpair,e1,e2,<-f1.2.2,<-f2.2.2,hsok,hs2];rfl
    unfold RN RM;rw[hch,BN,BN,e1,e2,e3,<-f1.1,<-f1.2.1,<-f2.1,<-f2.2.1,BE,BE];cases q.fl with
    |true=>
     rw[BN,BN,vac,AW,AW];omega
    |false=>
     rw[BC,BC,vac,AW,AW];omega
   .rw[AS ho,AL (show(b.g q.ft.toNat).lo>=b.s4.hi by omega),BG,BN,BN]
open Go Go.Proofs
set_option maxRecDepth 100000
def ZA(N:Nat):Env:=EI [(229,dH)] [(6,⟨[4,5,6,8,9,26,27,28],[],[]⟩)] 43 N
abbrev sK:KP:=⟨[4,5,6,8,9,26,27,28],[],[]⟩
abbrev Y5(lo hi:Int)(l:LI)(e i:Int):St:=⟨[(4,.i 0),(5,.i 0),(6,.bool AD),(8,.i lo),(9,.i hi),(26,.list AC I7 l),(27,.i e),(28,.i i)],[]⟩
noncomputable abbrev r9(N:Nat):Out->St->DW:=DZ 0 (D1 (ZA N) (DU ZY [1,1,1,1,1]) (D4 (ZA N) AB [.tmp 4,.tmp 5,.tmp 6] [[.z],[.z],[.bool]]))
abbrev ZL:DW:=AA (.tup [.int .i64 0,.int .i64 0,.bool AD],[])
def aZ(l:LI)(i:Int):Int:=IV.toInt (IV.cell (AQ l (AM i) default) 10)
theorem xx(N:Nat)(l:LI)(b:Bx):EB (ZA N) ZY [.tmp 4,.tmp 5,.tmp 6] [[.z],[.z],[.bool]] [.list AD [.int .u64] l,b.V]=
 cond (!b.emp) (cond (ic (GS l b).length==0) ZL (cond (AE ((0:Int)<=0)&&AE (0<ic (GS l b).length)) (cond (AE ((0:Int)<=0)&&AE (0<ic (GS l b).length))
 (D7 (ZA N) (DU ZY [1,1,1,1,0,1,0,0]) sK N (Y5 (aZ (GS l b) 0) (aZ (GS l b) 0) (GS l b) (ic (GS l b).length) 0) (r9 N)) AB) AB)) AB:=AF
theorem Sy(N:Nat)(lo hi:Int)(l:LI)(e i:Int)(again:St->DW)(k:Out->St->DW):E3 (ZA N) (DU ZY [1,1,1,1,0,1,0,0]) (Y5 lo hi l e i) (ES again sK k)=
 cond (AE (i<e)) (cond (AE (0<=i)&&AE (i<ic l.length)) (again (Y5 (min lo (aZ l i)) (max hi (aZ l i)) l e (D6 (i+1)))) AB) (k (.exit 0) (Y5 lo hi l e i)):=AF
theorem ju(N:Nat)(lo hi:Int)(l:LI)(e i:Int):r9 N (.exit 0) (Y5 lo hi l e i)=AA (.tup [.i lo,.i hi,.bool AC],[]):=AF
def ZD(N:Nat):Env:=EI [(189,dD),(140,SV),(75,SY)] [(5,⟨[1,5,6,7,8,9,10,42,43,44],[5],[]⟩)] 69 N
abbrev sO:KP:=⟨[1,5,6,7,8,9,10,42,43,44],[5],[]⟩
abbrev WA(b:Bx)(k lo hi:Int)(ts:LI)(e i:Int):St:=⟨[(1,.i k),(5,.ptr 5 0 0),(6,.i 0),(7,.i 0),(8,.bool AD),(9,.i lo),(10,.i hi),(42,.list AC G3 ts),(43,.i e),(44,.i i)],[(5,AA (.box b.cs))]⟩
noncomputable abbrev sA(N:Nat):Out->St->DW:=DZ 0 (D1 (ZD N) (DU Z1 [1,1,1,1]) (D4 (ZD N) AB [.tmp 6,.tmp 7,.tmp 8] [[.z],[.z],[.bool]]))
theorem yi(N:Nat)(m:Md)(k:Int)(b:Bx):EB (ZD N) Z1 [.tmp 6,.tmp 7,.tmp 8] [[.z],[.z],[.bool]] [m.V,.i k,b.V]=
 cond (!ET m) ZL (cond (AE (k<0)) ZL (cond (AE (k>=m.c)) ZL (cond b.emp ZL
 (Fm m k λx=>Fm m k λy=>D7 (ZD N) (DU Z1 [1,1,1,0,1,0,0]) sO N (WA b k x y m.ts (ic m.ts.length) 0) (sA N))))):=AF
theorem Th(N:Nat)(b:Bx)(c lo hi:Int)(ts:LI)(e i:Int)(again:St->DW)(k:Out->St->DW):E3 (ZD N) (DU Z1 [1,1,1,0,1,0,0]) (WA b c lo hi ts e i) (ES again sO k)=
 cond (AE (i<e)) (cond (AE (0<=i)&&AE (i<ic ts.length)) (cond (SE (AQ ts (AM i) default)==c)
 (cond (!b.emp) (again (WA b c (D6 (lo+G8 (EU (AQ ts (AM i) default)) b)) (D6 (hi+G7 (EU (AQ ts (AM i) default)) b)) ts e (D6 (i+1)))) AB)
 (again (WA b c lo hi ts e (D6 (i+1))))) AB) (k (.exit 0) (WA b c lo hi ts e i)):=AF
theorem ki(N:Nat)(b:Bx)(c lo hi:Int)(ts:LI)(e i:Int):sA N (.exit 0) (WA b c lo hi ts e i)=AA (.tup [.i lo,.i hi,.bool AC],[]):=AF
def Ww(N:Nat):Env:=EI [] [] 24 N
theorem yf(N:Nat)(q:Qy)(b:Bx):EB (Ww N) Al [.cell 4 37] [E5] [q.V,b.V]=
 cond (q.k==3) (cond (AE (q.ft>=0)) (cond (AE (q.ft<4)) (RR q.ft λj=>AA ((b.p b.s4 j).V,[])) (AA (b.V,[]))) (AA (b.V,[]))) (AA (b.V,[])):=AF
def WH(N:Nat):Env:=EI [(85,SU),(142,dK),(141,dN),(140,SV)] [(11,⟨[3,4,5,6,7,49,50],[3,4,5],[]⟩)] 108 N
abbrev sL:KP:=⟨[3,4,5,6,7,49,50],[3,4,5],[]⟩
abbrev SL(m:Md)(q:Qy)(b:Bx)(own e i:Int):St:=⟨[(3,.ptr 3 0 0),(4,.ptr 4 0 0),(5,.ptr 5 0 0),(6,.bool AD),(7,.i own),(49,.i e),(50,.i i)],[(3,AA (.box m.cs)),(4,AA (.box q.cs)),(5,AA (.box b.cs))]⟩
noncomputable abbrev lZ(N:Nat):Out->St->DW:=DZ 1 (D1 (WH N) (DU XI [1,1,1,1,0,1,0,1,1,1,0,1]) (DZ 0 (D1 (WH N) (DU XI [1,1,1,1,1]) (D4 (WH N) AB [.tmp 6] [[.bool]]))))
theorem xz(N:Nat)(m:Md)(q:Qy)(b:Bx):EB (WH N) XI [.tmp 6] [[.bool]] [m.V,q.V,b.V]=
 cond (!E8 m q) (O4 AD) (cond b.emp (O4 AC) (cond (q.k==1) (cond (AE (EK m q.c b>=q.lo)) (O4 (AE (EE m q.c b<=q.hi))) (O4 AD))
 (cond (q.k==2) (D7 (WH N) (DU XI [1,1,1,1,0,1,0,1,1,1,0,0,1,0,0]) sL N (SL m q b (EK m q.c b) m.c 0) (lZ N))
 (RR q.ft λj=>cond (AE ((b.g j).lo>=b.s4.hi)) (O4 AC) (cond q.fl (cond (AE (EE m q.c (R9 q b)<=EK m q.c b)) (O4 AC) (cond (!q.fl) (O4 (AE (EK m q.c (R9 q b)>=EE m q.c b))) (O4 AD)))
 (cond (!q.fl) (O4 (AE (EK m q.c (R9 q b)>=EE m q.c b))) (O4 AD))))))):=AF
theorem Sz(N:Nat)(m:Md)(q:Qy)(b:Bx)(own e i:Int)(again:St->DW)(k:Out->St->DW):E3 (WH N) (DU XI [1,1,1,1,0,1,0,1,1,1,0,0,1,0,0]) (SL m q b own e i) (ES again sL k)=
 cond (AE (i<e)) (cond (i !=q.c) (cond (AE (EE m i b>=own)) (k .ret (SL m q b own e i)) (again (SL m q b own e (D6 (i+1))))) (again (SL m q b own e (D6 (i+1))))) (k (.exit 1) (SL m q b own e i)):=AF
theorem jv(N:Nat)(m:Md)(q:Qy)(b:Bx)(own e i:Int):lZ N (.exit 1) (SL m q b own e i)=O4 AC:=AF
theorem jw(N:Nat)(m:Md)(q:Qy)(b:Bx)(own e i:Int):lZ N .ret (SL m q b own e i)=O4 AD:=AF
def ZC(N:Nat):Env:=EI [(144,dG)] [(2,⟨[3,4,5,6,7,8,11],[3,4,5],[]⟩)] 31 N
abbrev sM:KP:=⟨[3,4,5,6,7,8,11],[3,4,5],[]⟩
abbrev UF(m:Md)(q:Qy)(b:Bx)(x y:Int)(z:Bool)(i:Int):St:=⟨[(3,.ptr 3 0 0),(4,.ptr 4 0 0),(5,.ptr 5 0 0),(6,.i x),(7,.i y),(8,.bool z),(11,.i i)],[(3,AA (.box m.cs)),(4,AA (.box q.cs)),(5,AA (.box b.cs))]⟩
noncomputable abbrev l8(N:Nat):Out->St->DW:=DZ 0 (D1 (ZC N) (DU Z0 [1,1]) (D4 (ZC N) AB [.tmp 6,.tmp 7,.tmp 8] [[.z],[.z],[.bool]]))
theorem yg(N:Nat)(m:Md)(q:Qy)(b:Bx):EB (ZC N) Z0 [.tmp 6,.tmp 7,.tmp 8] [[.z],[.z],[.bool]] [m.V,q.V,b.V]=
 D7 (ZC N) (DU Z0 [1,0,1,0,0]) sM N (UF m q b 0 0 AD 0) (l8 N):=AF
def iL(n:Nat):Int:=D6 (Int.tdiv (D6 (ic n-1)) 2)
theorem Tg(N:Nat)(m:Md)(q:Qy)(b:Bx)(i:Int)(again:St->DW)(k:Out->St->DW):E3 (ZC N) (DU Z0 [1,0,1,0,0]) (UF m q b 0 0 AD i) (ES again sM k)=
 cond (AE (i<5)) (cond (ET m&&GZ i) (cond (AE (ic (iZ (E1 m q b (AM i))).length>0))
 (cond (AE (0<=iL (iZ (E1 m q b (AM i))).length)&&AE (iL (iZ (E1 m q b (AM i))).length<ic (iZ (E1 m q b (AM i))).length))
 (k .ret (UF m q b i (IV.toInt (AQ (iZ (E1 m q b (AM i))) (AM (iL (iZ (E1 m q b (AM i))).length)) default)) AC i)) AB)
 (again (UF m q b 0 0 AD (D6 (i+1))))) AB) (k (.exit 0) (UF m q b 0 0 AD i)):=AF
theorem kg(N:Nat)(m:Md)(q:Qy)(b:Bx)(i:Int):l8 N (.exit 0) (UF m q b 0 0 AD i)=ZL:=AF
theorem kh(N:Nat)(m:Md)(q:Qy)(b:Bx)(x y:Int)(z:Bool)(i:Int):l8 N .ret (UF m q b x y z i)=AA (.tup [.i x,.i y,.bool z],[]):=AF
def Wy(N:Nat):Env:=EI [(145,WR)] [] 35 N
theorem yj(N:Nat)(b:Bx){j:Nat}(hj:j<5)(a:Int):EB (Wy N) An [.cell 6 37,.cell 7 37] [E5,E5] [b.V,.i (j:Int),.i a]=
 AA (.tup [(b.p ((b.g j).meet ⟨(b.g j).lo,a⟩) j).V,(b.p ((b.g j).meet ⟨D6 (a+1),(b.g j).hi⟩) j).V],[]):=by
 obtain rfl|rfl|rfl|rfl|rfl:j=0\/j=1\/j=2\/j=3\/j=4:=by omega
 all_goals kernel_rfl
def ZB(N:Nat):Env:=EI [(88,dE),(87,dF),(89,dI),(85,SU),(90,dL),(86,dM),(91,dO)] [(5,⟨[2,3,4,5,6],[2,3,4,6,500,501],[⟨.tmp 5,500,37,AC,E5⟩,⟨.cell 6 1,501,101,AC,EX⟩]⟩)] 109 N
abbrev sN:KP:=⟨[2,3,4,5,6],[2,3,4,6,500,501],[⟨.tmp 5,500,37,AC,E5⟩,⟨.cell 6 1,501,101,AC,EX⟩]⟩
def OF(m:Md)(q:Qy)(v:Vd)(n:Nat)(L:LI)(nP:Nat)(P:LI)(sp:Int):St:=
 ⟨[(2,.ptr 2 0 0),(3,.ptr 3 0 0),(4,.ptr 4 0 0),(5,.row 500 0 n),(6,.ptr 6 0 0)],[(2,AA (.box m.cs)),(3,AA (.box q.cs)),(4,AA (.box [.int .i64 v.kind,.zs,.int .i64 v.w0,.int .i64 v.w1,.int .i64 v.w2,.int .i64 v.w3,.int .i64 v.twin,.int .i64 v.spent])),
  (6,AA (.box [.int .i64 3,.row 501 0 nP,.int .i64 0,.int .i64 0,.int .i64 0,.int .i64 0,.int .i64 0,.int .i64 sp])),(500,AA (.row AC 37 AC E5 L)),(501,AA (.row AC 101 AC EX P))]⟩
noncomputable abbrev l9(N:Nat):Out->St->DW:=DZ 0 (D1 (ZB N) (DU ZZ [1,1,1,1,1]) (D4 (ZB N) AB [.cell 4 50] [[.z,.list AC EX,.z,.z,.z,.z,.z,.z]]))
def PA(n:Nat):Int:=D6 (ic (n-0)-1)
def KH(L:LI)(n:Nat):Bx:=EC (AQ L (0+AM (PA n)) default)
theorem ye(N:Nat)(m:Md)(q:Qy):EB (ZB N) ZZ [.cell 4 50] [[.z,.list AC EX,.z,.z,.z,.z,.z,.z]] [m.V,q.V]=
 cond (!E8 m q) (AA (Vd.V ⟨4,[],0,0,0,0,0,0⟩,[])) (D7 (ZB N) (DU ZZ [1,1,1,1,0,0,0]) sN N (OF m q Vd.none 1 [(GG q).I] 0 [] 0) (l9 N)):=AF
theorem Tf(N:Nat)(m:Md)(q:Qy)(n:Nat)(L:LI)(nP:Nat)(P:LI)(sp:Int)(again:St->DW)(k:Out->St->DW):E3 (ZB N) (DU ZZ [1,1,1,1,0,0,0]) (OF m q Vd.none n L nP P sp) (ES again sN k)=
 cond (AE (ic (n-0)>0)) (cond (AE (sp>=q.bu)) (k .ret (OF m q ⟨3,[],0,0,0,0,0,sp⟩ n L nP P sp))
 (cond (AE (0<=PA n)&&AE (PA n<ic (n-0))) (cond (AE (0<=PA n)&&AE (PA n<=ic (n-0)))
 (cond (GB m q (KH L n)) (cond (AE ((nP+1)*24<=EM)) (again (OF m q Vd.none (0+AM (PA n)) L (nP+1) (AU nP P++[JN AC 0 0]) (D6 (sp+1)))) AB)
 (cond (HK m q (KH L n).low (KH L n).s4.hi) (k .ret (OF m q ⟨2,[],(KH L n).s0.lo,(KH L n).s1.lo,(KH L n).s2.lo,(KH L n).s3.lo,(KH L n).s4.hi,D6 (sp+1)⟩ (0+AM (PA n)) L nP P (D6 (sp+1))))
 (cond (ET m) (cond (!(EQ m q (KH L n)).isSome) (k .ret (OF m q ⟨3,[],0,0,0,0,0,D6 (sp+1)⟩ (0+AM (PA n)) L nP P (D6 (sp+1))))
 (cond (AE ((nP+1)*24<=EM)) (cond (GZ (HX (EQ m q (KH L n)))&&EV (HD (EQ m q (KH L n)))) (cond (AE ((0+AM (PA n)+2)*80<=EM))
 (again (OF m q Vd.none (0+AM (PA n)+2) (AU (0+AM (PA n)) L++[((KH L n).cutH (HX (EQ m q (KH L n))) (HD (EQ m q (KH L n)))).I,((KH L n).cutL (HX (EQ m q (KH L n))) (HD (EQ m q (KH L n)))).I])
 (nP+1) (AU nP P++[JN AD (HX (EQ m q (KH L n))) (HD (EQ m q (KH L n)))]) (D6 (sp+1)))) AB) AB) AB)) AB))) AB) AB))
 (k (.exit 0) (OF m q Vd.none n L nP P sp)):=AF
theorem kf(N:Nat)(m:Md)(q:Qy)(v:Vd)(n:Nat)(L:LI)(nP:Nat)(P:LI)(sp:Int):l9 N (.exit 0) (OF m q v n L nP P sp)=AA (Vd.V ⟨1,A3 0 (AU nP P),0,0,0,0,0,sp⟩,[]):=AF
theorem q9(N:Nat)(m:Md)(q:Qy)(v:Vd)(n:Nat)(L:LI)(nP:Nat)(P:LI)(sp:Int):l9 N .ret (OF m q v n L nP P sp)=AA (Vd.V ⟨v.kind,[],v.w0,v.w1,v.w2,v.w3,v.twin,v.spent⟩,[]):=AF
open Go Go.Proofs
set_option maxRecDepth 100000
def WI(N:Nat):Env:=EI [(140,SV),(145,WR),(135,WT),(78,OJ)] [(7,⟨[4,5,6,21,22,23],[17,500],[⟨.tmp 6,500,264,AC,I7⟩]⟩)] 105 N
abbrev mF:KP:=⟨[4,5,6,21,22,23],[17,500],[⟨.tmp 6,500,264,AC,I7⟩]⟩
abbrev SN(n5 n6:Nat)(l:LI)(e i:Int)(own out:LI):St:=⟨[(4,.zs),(5,.row 17 0 n5),(6,.row 500 0 n6),(21,.list AD [.int .u64] l),(22,.i e),(23,.i i)],[(17,AA (.row AC 37 AC E5 own)),(500,AA (.row AC 264 AC I7 out))]⟩
noncomputable abbrev l6(N:Nat):Out->St->DW:=DZ 0 (D1 (WI N) (DU XJ [1,1,1,1,1,1]) (D4 (WI N) AB [.tmp 4] [[.list AC I7]]))
theorem yb(N:Nat)(l:LI)(b:Bx):EB (WI N) XJ [.tmp 4] [[.list AC I7]] [.list AD [.int .u64] l,b.V]=
 cond (!F5 l 4) (AA (.list AC I7 [],[])) (cond (AC&&(AC&&AE (0<=ic l.length))&&(AE (ic l.length=ic l.length)&&AE (ic l.length*ic 80<=ic EM)))
 (cond (AE ((0:Int)<=0)&&AE (0<ic (AM (ic l.length)-0)))
 (D7 (WI N) (DU XJ [1,1,1,1,1,0,1,0,0]) mF N (SN (AM (ic l.length)) 0 l (ic l.length) 0 (vaM (BU (AM (ic l.length)) QJ.I) 0 b.I) []) (l6 N)) AB) AB):=AF
def Nn(n:Nd)(i:Nat)(own:LI):LI:=(own.set (0+n.l.toNat) (EC (own.getD (0+i) default)).I).set (0+n.r.toNat) (EC (own.getD (0+i) default)).I
def Nm(n:Nd)(s:Sp)(own:LI)(k:Nat):LI:=own.set (0+n.l.toNat) (LN AC E5 (own.getD (0+n.l.toNat) default) (2*k) [.int (s.meet ⟨s.lo,n.a⟩).lo,.int (s.meet ⟨s.lo,n.a⟩).hi])
def No(n:Nd)(s:Sp)(own:LI)(k:Nat):LI:=own.set (0+n.r.toNat) (LN AC E5 (own.getD (0+n.r.toNat) default) (2*k) [.int (s.meet ⟨D6 (n.a+1),s.hi⟩).lo,.int (s.meet ⟨D6 (n.a+1),s.hi⟩).hi])
def JP(x:Int)(n:Nat):Bool:=AE (0<=x)&&AE (x<ic (n-0))
def vN(n:Nd)(n5:Nat)(i:Int)(own:LI)(K:LI->DW):DW:=
 RR n.f λa=>cond (JP i n5) (cond (JP i n5) (cond (JP n.l n5) (cond (JP n.r n5) (cond (JP n.l n5) (RR n.f λb=>cond (JP n.r n5) (RR n.f λc=>
  K (No n ((EC (own.getD (0+i.toNat) default)).g a) (Nm n ((EC (own.getD (0+i.toNat) default)).g a) (Nn n i.toNat own) b) c)) AB) AB) AB) AB) AB) AB
theorem Te(N n5 n6:Nat)(l:LI)(e i:Int)(own out:LI)(again:St->DW)(k:Out->St->DW):E3 (WI N) (DU XJ [1,1,1,1,1,0,1,0,0]) (SN n5 n6 l e i own out) (ES again mF k)=
 cond (AE (i<e)) (cond (AE (0<=i)&&AE (i<ic l.length)) (cond (DV (IV.toInt (AQ l (AM i) default))).lf
 (cond (JP i n5) (cond (!(EC (own.getD (0+i.toNat) default)).emp) (cond (JP i n5) (cond (AE ((n6+1)*88<=EM))
 (again (SN n5 (n6+1) l e (D6 (i+1)) own (AU n6 out++[YI (EC (own.getD (0+i.toNat) default)) (DV (IV.toInt (AQ l (AM i) default))).v]))) AB) AB) (again (SN n5 n6 l e (D6 (i+1)) own out))) AB)
 (cond (JP i n5) (vN (DV (IV.toInt (AQ l (AM i) default))) n5 i own λo=>again (SN n5 n6 l e (D6 (i+1)) o out)) AB)) AB) (k (.exit 0) (SN n5 n6 l e i own out)):=AF
theorem kb(N n5 n6:Nat)(l:LI)(e i:Int)(own out:LI):l6 N (.exit 0) (SN n5 n6 l e i own out)=AA (.list AC I7 (A3 0 (AU n6 out)),[]):=AF
open Go Go.Proofs
set_option maxRecDepth 100000
theorem lK{j:Nat}(hj:j<5)(g:Nat->DW):RR (j:Int) g=g j:=by
 obtain rfl|rfl|rfl|rfl|rfl:j=0\/j=1\/j=2\/j=3\/j=4:=by omega
 all_goals rfl
theorem Fo{k:Int}(h0:0<=k)(h5:k<5)(g:Nat->DW):RR k g=g k.toNat:=by
 obtain⟨j,rfl⟩:=Int.eq_ofNat_of_zero_le h0;rw[lK AG];rfl
theorem Jc(s:Sp)(a:Int):s.meet ⟨s.lo,a⟩=s.cutL a:=by
 unfold Sp.meet Sp.cutL;rw[Int.max_self]
theorem Jb{a:Int}(ha:EV a=AC)(s:Sp):s.meet ⟨D6 (a+1),s.hi⟩=s.cutH a:=by
 have h:=LX ha;have e:D6 (a+1)=a+1:=ER AG AG;unfold Sp.meet Sp.cutH;rw[Int.min_self,e];by_cases hd:a>=s.hi
 .rw[AL hd,DS];unfold LT;rw[AL (show max s.lo (a+1)>s.hi by omega),DS]
 .rw[AS hd,DT]
theorem Mm(X:Bx)(lo hi:Int){j:Nat}(hj:j<5):LN AC E5 X.I (2*j) [.int lo,.int hi]=(X.p ⟨lo,hi⟩ j).I:=by
 obtain rfl|rfl|rfl|rfl|rfl:j=0\/j=1\/j=2\/j=3\/j=4:=by omega
 all_goals rfl
theorem zcM{n:Nd}{own:LI}{i:Nat}(hi:i<own.length)(hl:n.lf=AD)(hf:0<=n.f/\n.f<4)(ha:EV n.a=AC)(h1:0<=n.l/\n.l<ic own.length)(h2:0<=n.r/\n.r<ic own.length)(hne:n.l≠n.r)(K:LI->DW):
  vN n own.length (i:Int) own K=K (K0 n i own):=by
 obtain⟨lf,v,f,a,l,r⟩:=n;replace hl:lf=AD:=hl;subst hl;replace hf:0<=f/\f<4:=hf;replace ha:EV a=AC:=ha;replace h1:0<=l/\l<ic own.length:=h1;replace h2:0<=r/\r<ic own.length:=h2;replace hne:l≠r:=hne;obtain⟨j,rfl⟩:=Int.eq_ofNat_of_zero_le hf.1;obtain⟨x,rfl⟩:=Int.eq_ofNat_of_zero_le h1.1;obtain⟨y,rfl⟩:=Int.eq_ofNat_of_zero_le h2.1;have hj:j<5:=by omega
 have hx:x<own.length:=by have:=h1.2;simp only[ic]at this;omega
 have hy:y<own.length:=by have:=h2.2;simp only[ic]at this;omega
 have hxy:x≠y:=λe=>hne (by rw[e])
 have g0:JP (i:Int) own.length=AC:=by unfold JP;rw[AL AG,AL (by simp only[ic];omega)];rfl
 have g1:JP (x:Int) own.length=AC:=by unfold JP;rw[AL AG,AL (by simp only[ic];omega)];rfl
 have g2:JP (y:Int) own.length=AC:=by unfold JP;rw[AL AG,AL (by simp only[ic];omega)];rfl
 unfold vN;show RR (j:Int) (λa_1=>cond (JP (i:Int) own.length) (cond (JP (i:Int) own.length) (cond (JP (x:Int) own.length) (cond (JP (y:Int) own.length) (cond (JP (x:Int) own.length) (RR (j:Int) λb=>cond (JP (y:Int) own.length) (RR (j:Int) λc=>K _) AB) AB) AB) AB) AB) AB)=_;rw[lK hj,g0,DS,DS,g1,DS,g2,DS,DS,lK hj,DS,lK hj];refine congrArg K ?_;unfold No Nm Nn K0;show(vaM (vaM (vaM (vaM own (0+(x:Int).toNat) _) (0+(y:Int).toNat) _) (0+(x:Int).toNat) (LN AC E5 (AQ (vaM (vaM own (0+(x:Int).toNat) _) (0+(y:Int).toNat) _) (0+(x:Int).toNat) default) _ _)) (0+(y:Int).toNat) (LN AC E5 (AQ (vaM (vaM (vaM own (0+(x:Int).toNat) _) (0+(y:Int).toNat) _) (0+(x:Int).toNat) _) (0+(y:Int).toNat) default) _ _))=(own.set (x:Int).toNat _).set (y:Int).toNat _;simp only[BS,BH];generalize EC (own.getD i default)=X;have e1:AQ ((own.set x X.I).set y X.I) x default=X.I:=by
  rw[BK,vaG (Ne.symm hxy),vbh hx];rfl
 rw[e1,Mm X _ _ hj];have e2:∀A:IV,AQ (((own.set x X.I).set y X.I).set x A) y default=X.I:=λA=>by
  rw[BK,vaG hxy,vbh (by rw[DP];exact hy)];rfl
 rw[e2,Mm X _ _ hj];have e3:∀A B:IV,((((own.set x X.I).set y X.I).set x A).set y B)=(own.set x A).set y B:=λA B=>by
  rw[List.set_comm _ _ (Ne.symm hxy),List.set_set,List.set_set]
 rw[e3];have eL:X.cutL (j:Int) a=X.p ⟨((X.g j).meet ⟨(X.g j).lo,a⟩).lo,((X.g j).meet ⟨(X.g j).lo,a⟩).hi⟩ j:=by
  unfold Bx.cutL;rw[BH,<-Jc]
 have eH:X.cutH (j:Int) a=X.p ⟨((X.g j).meet ⟨D6 (a+1),(X.g j).hi⟩).lo,((X.g j).meet ⟨D6 (a+1),(X.g j).hi⟩).hi⟩ j:=by
  unfold Bx.cutH;rw[BH,<-Jb ha]
 rw[eL,eH]
theorem nM(N:Nat)(l:LI)(ht:F5 l 4=AC):∀(m i n:Nat) (own out:LI),i+m=l.length->m<n->own.length=l.length->out.length<=i->
  D7 (WI N) (DU XJ [1,1,1,1,1,0,1,0,0]) mF n (SN l.length out.length l (ic l.length) (i:Int) own out) (l6 N)=AA (.list AC I7 (JW (l.drop i) i own out),[])
 |m,i,0,_,_,_,h,_,_=>absurd h AG
 |0,i,n+1,own,out,hd,_,_,_=>by
  have hi:i=l.length:=by omega
  subst hi;rw[ED,Te,I6 (A5 _),DT,kb,C4,JW,CA,BW]
 |m+1,i,n+1,own,out,hd,hn,ho,hu=>by
  obtain⟨⟨l1,l31⟩,hat,_⟩:=bO ht;have hi:i<l.length:=by omega
  have ei:D6 ((i:Int)+1)=((i+1:Nat):Int):=GQ AG;obtain⟨hb,hf⟩:=hat i hi;have g0:JP (i:Int) l.length=AC:=by unfold JP;rw[AL AG,AL (by simp only[ic];omega)];rfl
  rw[ED,Te,ei,H0 hi,DS,IG,BX,DS,IK hi,g0,BH,BD hi,JW];cases hl:(DV (l[i]).toInt).lf with
  |true=>
   rw[DS,DS,BE,BS];have e1:K0 (DV (l[i]).toInt) i own=own:=by unfold K0;rw[hl,DS]
   rw[e1];cases(EC (own.getD i default)).emp with
   |true=>exact nM N l ht m (i+1) n own out AG AG ho AG
   |false=>
    have ih:=nM N l ht m (i+1) n own (out++[YI (EC (own.getD i default)) (DV (l[i]).toInt).v]) AG AG ho (by rw[A2];simp;omega);rw[A2,DD]at ih;rw[BG,DS,DS,AL (show(out.length+1)*88<=EM by unfold EM;omega),DS,BW];exact ih
  |false=>
   obtain⟨f4,hne,_,⟨ln,rn⟩⟩:=Fv hf hl;obtain⟨⟨f0,_⟩,⟨a1,_⟩,⟨b1,_⟩,ha⟩:=VD hb hl;have ih:=nM N l ht m (i+1) n (K0 (DV (l[i]).toInt) i own) out AG AG (by unfold K0;rw[hl,DT,DP,DP];exact ho) AG;rw[DT,DS,BP,DT];have key:=zcM (n:=DV (l[i]).toInt) (own:=own) (i:=i) AG hl ⟨f0,f4⟩ ha ⟨by omega,by rw[ho];exact ln⟩ ⟨by omega,by rw[ho];exact rn⟩ hne (λo=>D7 (WI N) (DU XJ [1,1,1,1,1,0,1,0,0]) mF n (SN l.length out.length l (ic l.length) ((i+1:Nat):Int) o out) (l6 N));rw[ho]at key;exact key.trans ih
theorem zdU:D9 PR B0 229 dH:=by
 refine EJ [(140,SV),(145,WR),(135,WT),(78,OJ)] [(7,⟨[4,5,6,21,22,23],[17,500],[⟨.tmp 6,500,264,AC,I7⟩]⟩)] dH [[.list AC [.z,.z,.z,.z,.z,.z,.z,.z,.z,.z,.z]]] Tryz.func229 oy ⟨wG,Pn,Pp,jG,trivial⟩ ?_;intro vs r hwf h;unfold dH at h;split at h
 .rename_i l b;replace h:=H4 h;obtain⟨b,rfl,h⟩:=h;cases hg:(!b.emp)with
  |false=>rw[hg]at h;simp[R.get]at h
  |true=>
  rw[hg,R.get_br,DS,R.get_ok]at h;refine⟨40,(yb 40 l b).trans ?_⟩;rw[<-h];unfold GS;cases ht:F5 l 4 with
  |false=>rfl
  |true=>
   obtain⟨⟨l1,l31⟩,_,_⟩:=bO ht;have run:=nM 40 l ht l.length 0 40 ((BU l.length QJ.I).set 0 b.I) [] AG AG (by simp) (CG _);have g1:(AC&&(AC&&AE (0<=ic l.length))&&(AE (ic l.length=ic l.length)&&AE (ic l.length*ic 80<=ic EM)))=AC:=by
    rw[AL (show(0:Int)<=ic l.length by simp only[ic];omega),AL (show ic l.length=ic l.length from rfl),AL (show ic l.length*ic 80<=ic EM by unfold EM;simp only[ic];omega)];rfl
   have g2:(AE ((0:Int)<=0)&&AE (0<ic (AM (ic l.length)-0)))=AC:=by
    rw[AL (show(0:Int)<=0 from DO 0),AL (show(0:Int)<ic (AM (ic l.length)-0) by simp only[ic];omega)];rfl
   rw[A9,DT,hg,g1,DS,g2,DS];exact run
 .simp[R.get]at h
theorem Mt(N:Nat)(l:LI)(hl:l.length<=31):∀(m i n:Nat) (lo hi:Int),i+m=l.length->m<n->
  D7 (ZA N) (DU ZY [1,1,1,1,0,1,0,0]) sK n (Y5 lo hi l (ic l.length) (i:Int)) (r9 N)=AA (.tup [.i (MX (l.drop i) lo),.i (MV (l.drop i) hi),.bool AC],[])
 |m,i,0,_,_,_,h=>absurd h AG
 |0,i,n+1,lo,hi,hd,_=>by
  have hi:i=l.length:=by omega
  subst hi;rw[ED,Sy,I6 (A5 _),DT,C4,ju];rfl
 |m+1,i,n+1,lo,hi,hd,hn=>by
  have hi:i<l.length:=by omega
  have ep:aZ l (i:Int)=FT l[i]:=by unfold aZ;rw[IK hi]
  rw[ED,Sy,show D6 ((i:Int)+1)=((i+1:Nat):Int)from GQ AG,H0 hi,DS,IG,BX,DS,ep,BD hi,MX,MV];exact Mt N l hl m (i+1) n _ _ AG AG
theorem zdQ:D9 PR B0 189 dD:=by
 refine EJ [(229,dH)] [(6,⟨[4,5,6,8,9,26,27,28],[],[]⟩)] dD [[.z],[.z],[.bool]] Tryz.func189 ou ⟨zdU,trivial⟩ ?_;intro vs r hwf h;unfold dD at h;split at h
 .rename_i l b;replace h:=H4 h;obtain⟨b,rfl,h⟩:=h;cases hg:(!b.emp)with
  |false=>rw[hg]at h;simp[R.get]at h
  |true=>
  rw[hg,R.get_br,DS,R.get_ok]at h;refine⟨40,(xx 40 l b).trans ?_⟩;rw[<-h,hg,DS];have h31:=Hw l b;unfold G8 G7 P7 TT TS;generalize GS l b=ps at h31 ⊢;cases ps with
  |nil=>rfl
  |cons x r=>
   have run:=Mt 40 (x::r) h31 (x::r).length 0 40 (FT x) (FT x) AG AG;have e0:(ic (x::r).length==0)=AD:=by
    simp only[ic,AV,BI];omega
   have e1:(AE ((0:Int)<=0)&&AE (0<ic (x::r).length))=AC:=by
    rw[AL (show(0:Int)<=0 from DO 0),AL (show 0<ic (x::r).length by simp only[ic,AV];omega)];rfl
   rw[e0,DT,e1,DS,DS];exact run
 .simp[R.get]at h
theorem vR(N:Nat)(ts:LI)(b:Bx)(hb:b.emp=AD)(k:Int)(hts:ts.length<=8):∀(m i n:Nat) (lo hi:Int),i+m=ts.length->m<n->(-2147483648*(i+1)<=lo/\lo<=2147483648*(i+1))->(-2147483648*(i+1)<=hi/\hi<=2147483648*(i+1))->
  D7 (ZD N) (DU Z1 [1,1,1,0,1,0,0]) sO n (WA b k lo hi ts (ic ts.length) (i:Int)) (sA N)=
   AA (.tup [.i (I1 (λl=>G8 l b) k (ts.drop i) lo),.i (I1 (λl=>G7 l b) k (ts.drop i) hi),.bool AC],[])
 |m,i,0,_,_,_,h,_,_=>absurd h AG
 |0,i,n+1,lo,hi,hd,_,_,_=>by
  have hlt:i=ts.length:=by omega
  subst hlt;rw[ED,Th,I6 (A5 _),DT,C4,ki];rfl
 |m+1,i,n+1,lo,hi,hd,hn,h1,h2=>by
  have hlt:i<ts.length:=by omega
  rw[ED,Th,show D6 ((i:Int)+1)=((i+1:Nat):Int)from GQ AG,H0 hlt,DS,IG,BX,DS,IK hlt,BD hlt,I1,I1,hb];obtain⟨q1,q2⟩:=jM (EU ts[i]) b;have q1:=LX q1;have q2:=LX q2;cases(SE ts[i]==k)with
  |true=>
   rw[DS,BG,DS,DS,DS];have ew:D6 (lo+G8 (EU ts[i]) b)=lo+G8 (EU ts[i]) b:=ER AG AG;have ew2:D6 (hi+G7 (EU ts[i]) b)=hi+G7 (EU ts[i]) b:=ER AG AG;rw[ew,ew2];exact vR N ts b hb k hts m (i+1) n (lo+G8 (EU ts[i]) b) (hi+G7 (EU ts[i]) b) AG AG AG AG
  |false=>
   rw[DT,DT,DT];exact vR N ts b hb k hts m (i+1) n lo hi AG AG AG AG
theorem zd0:D9 PR B0 141 dN:=by
 refine EJ [(189,dD),(140,SV),(75,SY)] [(5,⟨[1,5,6,7,8,9,10,42,43,44],[5],[]⟩)] dN [[.z],[.z],[.bool]] Tryz.func141 ph ⟨zdQ,wG,wJ,trivial⟩ ?_;intro vs r hwf h;unfold dN at h;split at h
 .rename_i m k b;replace h:=IH h;obtain⟨m,rfl,h⟩:=h;replace h:=H4 h;obtain⟨b,rfl,h⟩:=h;rw[R.get_ok]at h;refine⟨10,(yi 10 m k b).trans ?_⟩;rw[<-h];unfold EK EE F9;cases hm:ET m with
  |false=>rfl
  |true=>
   rw[A9,DT];cases h0:AE (k<0)with
   |true=>
    have:GR m k=AD:=by unfold GR;rw[AS (show¬ 0<=k by have:=BB h0;omega)];rfl
    rw[this];rfl
   |false=>
    rw[DT];cases h1:AE (k>=m.c)with
    |true=>
     have:GR m k=AD:=by unfold GR;rw[AS (show¬k<m.c by have:=BB h1;omega),DB]
     rw[this];rfl
    |false=>
     have hc:GR m k=AC:=by unfold GR;rw[AL (show 0<=k by have:=BM h0;omega),AL (show k<m.c by have:=BM h1;omega)];rfl
     rw[DT,hc];cases hb:b.emp with
     |true=>rfl
     |false=>
      have hbi:=ZS hm k;have run:=vR 10 m.ts b hb k (JL hm).2.2.1 m.ts.length 0 10 (KU m k) (KU m k) AG (by have:=(JL hm).2.2.1;omega) AG AG;rw[DT];rcases gG hm hc with rfl|rfl|rfl<;>exact run
 .simp[R.get]at h
theorem zdX:D9 PR B0 142 dK:=by
 refine EJ [] [] dK [[.z,.z,.z,.z,.z,.z,.z,.z,.z,.z]] Tryz.func142 pc trivial ?_;intro vs r hwf h;unfold dK at h;split at h
 .rename_i q b;replace h:=I2 h;obtain⟨q,rfl,h⟩:=h;replace h:=H4 h;obtain⟨b,rfl,h⟩:=h;rw[R.get_ok]at h;refine⟨0,(yf 0 q b).trans ?_⟩;rw[<-h];unfold R9;cases hp:F6 q with
  |true=>
   have hp':=hp;unfold F6 at hp';simp only[AP]at hp';obtain⟨h1,h2,h3⟩:=hp';rw[h1,h2,h3,DS,DS,DS,DS,Fo (BB h2) (by have:=BB h3;omega)]
  |false=>
   cases h1:(q.k==3)<;>cases h2:AE (q.ft>=0)<;>cases h3:AE (q.ft<4)<;>first|rfl|(unfold F6 at hp;rw[h1,h2,h3]at hp;cases hp)
 .simp[R.get]at h
def fU(m:Md)(q:Qy)(b:Bx)(own:Int):Nat->Nat->Bool
 |0,_=>AC
 |d+1,i=>(((i:Int)==q.c)||!(AE (EE m (i:Int) b>=own)))&&fU m q b own d (i+1)
theorem yR(m:Md)(q:Qy)(b:Bx)(own:Int):∀d i,fU m q b own d i=(va8 i d).all λc=>((c:Int)==q.c)||!(AE (EE m (c:Int) b>=own))
 |0,_=>rfl
 |d+1,i=>by rw[fU,yR m q b own d (i+1),List.range'_succ,van]
theorem Mv(N:Nat)(m:Md)(q:Qy)(b:Bx)(own:Int)(hc:0<=m.c/\m.c<=3):∀(d i n:Nat),((i+d:Nat):Int)=m.c->d<n->
  D7 (WH N) (DU XI [1,1,1,1,0,1,0,1,1,1,0,0,1,0,0]) sL n (SL m q b own m.c (i:Int)) (lZ N)=O4 (fU m q b own d i)
 |d,i,0,_,h=>absurd h AG
 |0,i,n+1,hd,_=>by
  rw[ED,Sz,AS (show¬(i:Int)<m.c by omega),DT,jv];rfl
 |d+1,i,n+1,hd,hn=>by
  have ih:=Mv N m q b own hc d (i+1) n AG AG;rw[ED,Sz,show D6 ((i:Int)+1)=((i+1:Nat):Int)from GQ AG,AL (show(i:Int)<m.c by omega),DS,fU];have en:((i:Int)!=q.c)=!((i:Int)==q.c):=rfl;rw[en];cases((i:Int)==q.c)with
  |true=>
   rw[A9,DT,Bool.true_or,BE];exact ih
  |false=>
   rw[BG,DS,vam];cases AE (EE m (i:Int) b>=own)with
   |true=>
    rw[DS,jw];rfl
   |false=>
    rw[DT,BG,BE];exact ih
theorem zdS:D9 PR B0 87 dF:=by
 refine EJ [(85,SU),(142,dK),(141,dN),(140,SV)] [(11,⟨[3,4,5,6,7,49,50],[3,4,5],[]⟩)] dF [[.bool]] Tryz.func87 ow ⟨wF,zdX,zd0,wG,trivial⟩ ?_;intro vs r hwf h;unfold dF at h;split at h
 .rename_i m q b;replace h:=IH h;obtain⟨m,rfl,h⟩:=h;replace h:=I2 h;obtain⟨q,rfl,h⟩:=h;replace h:=H4 h;obtain⟨b,rfl,h⟩:=h;rw[R.get_ok]at h;refine⟨10,(xz 10 m q b).trans ?_⟩;rw[<-h];cases hr:E8 m q with
  |false=>
   unfold GB;rw[hr];rfl
  |true=>
   cases hb:b.emp with
   |true=>
    unfold GB;rw[hr,hb];rfl
   |false=>
    obtain⟨hm,_,_,_,hk⟩:=O6 hr;have hmp:=JL hm;rw[cv hr hb];unfold pW;rw[A9,DT,DT];cases h1:(q.k==1)with
    |true=>
     rw[DS,DS];cases AE (EK m q.c b>=q.lo)<;>rfl
    |false=>
     rw[DT,DT];cases h2:(q.k==2)with
     |true=>
      rw[DS,DS];refine(Mv 10 m q b _ AG m.c.toNat 0 10 AG AG).trans ?_;rw[yR,<-List.range_eq_range'];rfl
     |false=>
      rw[DT,DT];rcases aM hk with⟨e,_⟩|⟨e,_⟩|⟨ek,⟨f0,fd⟩,_⟩
      .rw[e]at h1;cases h1
      .rw[e]at h2;cases h2
      .rw[Fo f0 AG];cases AE ((b.g q.ft.toNat).lo>=b.s4.hi)with
       |true=>rfl
       |false=>
        cases q.fl with
        |true=>cases AE (EE m q.c (R9 q b)<=EK m q.c b)<;>rfl
        |false=>rfl
 .simp[R.get]at h
theorem Ny(N:Nat)(m:Md)(hm:ET m=AC)(q:Qy)(b:Bx):∀(d i n:Nat),i+d=5->d<n->
  D7 (ZC N) (DU Z0 [1,0,1,0,0]) sM n (UF m q b 0 0 AD (i:Int)) (l8 N)=
   AA (.tup [.i (HX (KG m q b d i)),.i (HD (KG m q b d i)),.bool (KG m q b d i).isSome],[])
 |d,i,0,_,h=>absurd h AG
 |0,i,n+1,hd,_=>by
  have hi:i=5:=by omega
  subst hi;rw[ED,Tg,AS (show¬((5:Nat):Int)<5 by omega),DT,kg];rfl
 |d+1,i,n+1,hd,hn=>by
  have hc:=Dv hm q b i;rw[ED,Tg,show D6 ((i:Int)+1)=((i+1:Nat):Int)from GQ AG,AL (show(i:Int)<5 by omega),DS,hm,Gn AG,BX,DS,BH,KG,MP];generalize E1 m q b i=cs at hc ⊢;have ed:AE (ic cs.length>0)=AE (cs.length>0):=by rw[vac];simp
  rw[ed];cases hpos:AE (cs.length>0)with
  |true=>
   have hpos:=BB hpos;have ew:iL cs.length=(((cs.length-1)/2:Nat):Int):=by
    unfold iL;have e1:D6 (ic cs.length-1)=((cs.length-1:Nat):Int):=by rw[show D6 (ic cs.length-1)=ic cs.length-1 from ER (by simp only[ic];omega) (by simp only[ic];omega)];simp only[ic];omega
    have e2:Int.tdiv ((cs.length-1:Nat):Int) 2=(((cs.length-1)/2:Nat):Int):=by
     rw[Int.tdiv_eq_ediv_of_nonneg AG];omega
    rw[e1,e2];exact ER AG AG
   have hlt:(cs.length-1)/2<cs.length:=by omega
   rw[DS,ew,IG,AL (show(((cs.length-1)/2:Nat):Int)<ic cs.length by simp only[ic];omega),BX,DS,DS,BH];have eg:IV.toInt (AQ (iZ cs) ((cs.length-1)/2) default)=cs.getD ((cs.length-1)/2) 0:=by
    unfold iZ;rw[BK,BK,CK,BF hlt];rfl
   rw[eg,kh];rfl
  |false=>
   rw[DT,DT];exact Ny N m hm q b d (i+1) n AG AG
theorem zdY:D9 PR B0 90 dL:=by
 refine EJ [(144,dG)] [(2,⟨[3,4,5,6,7,8,11],[3,4,5],[]⟩)] dL [[.z],[.z],[.bool]] Tryz.func90 pd ⟨zdT,trivial⟩ ?_;intro vs r hwf h;unfold dL at h;split at h
 .rename_i m q b;replace h:=IH h;obtain⟨m,rfl,h⟩:=h;replace h:=I2 h;obtain⟨q,rfl,h⟩:=h;replace h:=H4 h;obtain⟨b,rfl,h⟩:=h;cases hg:(ET m)with
  |false=>rw[hg]at h;simp[R.get]at h
  |true=>
  rw[hg,R.get_br,DS,R.get_ok]at h;refine⟨10,?_⟩;rw[<-h];exact(yg 10 m q b).trans (Ny 10 m hg q b 5 0 10 rfl AG)
 .simp[R.get]at h
theorem zd1:D9 PR B0 91 dO:=by
 refine EJ [(145,WR)] [] dO [[.z,.z,.z,.z,.z,.z,.z,.z,.z,.z],[.z,.z,.z,.z,.z,.z,.z,.z,.z,.z]] Tryz.func91 pk ⟨Pn,trivial⟩ ?_;intro vs r hwf h;unfold dO at h;split at h
 .rename_i b i a;replace h:=H4 h;obtain⟨b,rfl,h⟩:=h;cases hg:(GZ i&&EV a)with
  |false=>rw[hg]at h;simp[R.get]at h
  |true=>
  rw[hg,R.get_br,DS,R.get_ok]at h;rw[AP]at hg;obtain⟨j,hj,rfl⟩:∃j:Nat,j<5/\i=(j:Int):=by
   have hpl:=hg.1;unfold GZ at hpl;simp only[AP,AW]at hpl;exact⟨i.toNat,by omega,by omega⟩
  refine⟨0,(yj 0 b hj a).trans ?_⟩;rw[<-h,Jc,Jb hg.2];rfl
 .simp[R.get]at h
open Go Go.Proofs
set_option maxRecDepth 100000
theorem zeW{m:Md}(hm:ET m=AC){q:Qy}{b:Bx}(h:(EQ m q b).isSome=AC):(GZ (HX (EQ m q b))&&EV (HD (EQ m q b)))=AC:=by
 obtain⟨j,hj,ei,_,_,hmem⟩:=nZ h;obtain⟨_,ht,_,_⟩:=S9.1 hmem;obtain⟨t,ht,w,hw,hl,_,ha⟩:=xG.1 ht;have hf:=(VD ((i7 hm t ht).2 w hw) hl).2.2.2;rw[ei,Gn hj,<-ha,hf];rfl
theorem Uj{n:Nat}(h0:0<n)(h1:n<=100000):PA n=((n-1:Nat):Int):=by
 unfold PA;rw[vay,show D6 (ic n-1)=ic n-1 from ER (by simp only[ic];omega) (by simp only[ic];omega)];simp only[ic];omega
theorem zfu{L l:LI}(h:L.take l.length=l)(h0:0<l.length)(h1:l.length<=100000):KH L l.length=EA l:=by
 unfold KH EA;rw[Uj h0 h1,BH,BS];refine congrArg EC ?_
 conv=>rhs;rw[<-h]
 rw[BK,BK,List.getElem?_take_of_lt (by rw[BJ];have:=congrArg AN h;rw[BJ]at this;omega)];congr 2
 have:=congrArg AN h
 rw[BJ]at this;rw[BJ];omega
theorem vP(N:Nat)(m:Md)(q:Qy)(hr:E8 m q=AC):∀(d n:Nat) (s:Sr) (L:LI),SrInv q AD s->s.v=Vd.none->L.take s.left.length=s.left->q.bu<s.spent+d->d<n->
  D7 (ZB N) (DU ZZ [1,1,1,1,0,0,0]) sN n (OF m q Vd.none s.left.length L s.proof.length s.proof s.spent) (l9 N)=AA ((GH (I9 m q d s)).V,[])
 |d,0,_,_,_,_,_,_,h=>absurd h AG
 |0,n+1,s,L,hi,_,_,hd,_=>by
  have h1:=hi.sp1;have h3:=(O6 hr).2.2.1;omega
 |d+1,n+1,s,L,hi,hv,hL,hd,hn=>by
  have hk0:s.v.kind=0:=by rw[hv];rfl
  have hopen:=hi.open_ hk0;have h1:=hi.sp0;have h2:=hi.left;have h3:=hi.proof;have h4:=hi.sp1;have hbu:=(O6 hr).2.2.1;have hm:=(O6 hr).1;have hlen:s.left.length<=100000:=by omega
  rw[ED,Tf,vay,AL (show ic s.left.length>0 by simp only[ic];omega),DS,I9];cases ho:H8 q s with
  |true=>
   have hs:s.spent>=q.bu:=by
    unfold H8 at ho;rw[hk0]at ho;simpa using ho
   rw[AL hs,DS,DS,q9];unfold GH;rw[hk0,hv];rfl
  |false=>
   have hs:¬s.spent>=q.bu:=by
    unfold H8 at ho;rw[vaa]at ho;exact BM ho.2
   obtain⟨hi',hs'⟩:=hi.step (m:=m) ho;have e1:=Uj hopen hlen;have e2:=zfu hL hopen hlen;have e3:D6 (s.spent+1)=s.spent+1:=ER AG AG;have hLp:L.take (s.left.length-1)=FR s.left:=by
    have e:(L.take s.left.length).take (s.left.length-1)=L.take (s.left.length-1):=by rw[List.take_take,vau AG]
    rw[hL]at e;exact e.symm
   have hpl:=Lk s.left;rw[AS hs,DT,DT,e2,e1,AL (show(0:Int)<=((s.left.length-1:Nat):Int) by omega),AL (show((s.left.length-1:Nat):Int)<ic s.left.length by simp only[ic];omega),AL (show((s.left.length-1:Nat):Int)<=ic s.left.length by simp only[ic];omega),BX,DS,DS,BH,BS,BW,e3,
    AL (show(s.proof.length+1)*24<=EM by unfold EM;omega),AL (show(s.left.length-1+2)*80<=EM by unfold EM;omega),hLp]
   cases hc:GB m q (EA s.left)with
   |true=>
    rw[DS,DS];have est:FF m q s=⟨FR s.left,s.proof++[JN AC 0 0],cond (ic (s.left.length-1)==0) ⟨1,s.proof++[JN AC 0 0],0,0,0,0,0,0⟩ s.v,s.spent+1⟩:=by
     unfold FF;rw[hc,DS]
    have epl:(s.proof++[JN AC 0 0]).length=s.proof.length+1:=by rw[A2,DD]
    cases he:(ic (s.left.length-1)==0)with
    |true=>
     have hz:s.left.length-1=0:=by simpa[ic]using he
     have ekind:(FF m q s).v.kind=1:=by rw[est,he];rfl
     have hov:H8 q (FF m q s)=AC:=by unfold H8;rw[ekind];rfl
     have hrun:I9 m q d (FF m q s)=FF m q s:=by
      cases d with
      |zero=>rfl
      |succ d=>rw[I9,hov,DS]
     rw[hrun];obtain⟨n',rfl⟩:∃k,n=k+1:=⟨n-1,by omega⟩;rw[hz,ED,Tf];rw[AS (show¬ic (0-0)>0 by decide),DT,kf,CA,<-epl,BW];unfold GH;rw[est,he];rfl
    |false=>
     rw[hc,he]at hi';have ev:(FF m q s).v=Vd.none:=by rw[est,he];exact hv
     have ih:=vP N m q hr d n (FF m q s) L hi' ev (by rw[est];show L.take (FR s.left).length=FR s.left;rw[hpl];exact hLp) (by rw[hs'];omega) AG;rw[<-ih,est];show D7 _ _ _ _ (OF m q Vd.none (s.left.length-1) L (s.proof.length+1) (s.proof++[JN AC 0 0]) (s.spent+1)) _=D7 _ _ _ _ (OF m q Vd.none (FR s.left).length L (s.proof++[JN AC 0 0]).length (s.proof++[JN AC 0 0]) (s.spent+1)) _;rw[hpl,epl]
   |false=>
    rw[DT];cases hb:HK m q (EA s.left).low (EA s.left).s4.hi with
    |true=>
     have est:FF m q s=⟨FR s.left,s.proof,⟨2,[],(EA s.left).s0.lo,(EA s.left).s1.lo,(EA s.left).s2.lo,(EA s.left).s3.lo,(EA s.left).s4.hi,0⟩,s.spent+1⟩:=by
      unfold FF;rw[hc,DT,hb,DS]
     have hov:H8 q (FF m q s)=AC:=by unfold H8;rw[est];rfl
     have hrun:I9 m q d (FF m q s)=FF m q s:=by
      cases d with
      |zero=>rfl
      |succ d=>rw[I9,hov,DS]
     rw[DS,hrun,q9];unfold GH;rw[est];rfl
    |false=>
     rw[DT,hm,DS];cases hsp:(EQ m q (EA s.left)).isSome with
     |false=>
      have est:FF m q s=⟨FR s.left,s.proof,⟨3,[],0,0,0,0,0,0⟩,s.spent+1⟩:=by
       unfold FF;rw[hc,DT,hb,DT,hsp,DT]
      have hov:H8 q (FF m q s)=AC:=by unfold H8;rw[est];rfl
      have hrun:I9 m q d (FF m q s)=FF m q s:=by
       cases d with
       |zero=>rfl
       |succ d=>rw[I9,hov,DS]
      rw[BG,DS,hrun,q9];unfold GH;rw[est];rfl
     |true=>
      have est:FF m q s=⟨FR s.left++[((EA s.left).cutH (HX (EQ m q (EA s.left))) (HD (EQ m q (EA s.left)))).I,((EA s.left).cutL (HX (EQ m q (EA s.left))) (HD (EQ m q (EA s.left)))).I],
        s.proof++[JN AD (HX (EQ m q (EA s.left))) (HD (EQ m q (EA s.left)))],s.v,s.spent+1⟩:=by
       unfold FF;rw[hc,DT,hb,DT,hsp,DS]
      rw[hc,BP]at hi';have ev:(FF m q s).v=Vd.none:=by rw[est];exact hv
      have ih:=vP N m q hr d n (FF m q s) (FF m q s).left hi' ev (BW ..) (by rw[hs'];omega) AG;rw[A9,DT,DS,zeW hm hsp,DS,DS,<-ih,est];have e4:(FR s.left++[((EA s.left).cutH (HX (EQ m q (EA s.left))) (HD (EQ m q (EA s.left)))).I,((EA s.left).cutL (HX (EQ m q (EA s.left))) (HD (EQ m q (EA s.left)))).I]).length=s.left.length-1+2:=by
       rw[A2,hpl];rfl
      have e5:(s.proof++[JN AD (HX (EQ m q (EA s.left))) (HD (EQ m q (EA s.left)))]).length=s.proof.length+1:=by rw[A2,DD]
      simp only[e4,e5]
theorem zdW:D9 PR B0 24 dJ:=by
 refine EJ [(88,dE),(87,dF),(89,dI),(85,SU),(90,dL),(86,dM),(91,dO)] [(5,⟨[2,3,4,5,6],[2,3,4,6,500,501],[⟨.tmp 5,500,37,AC,E5⟩,⟨.cell 6 1,501,101,AC,EX⟩]⟩)] dJ [[.z,.list AC [.bool,.z,.z],.z,.z,.z,.z,.z,.z]] Tryz.func24 pb ⟨zdR,zdS,zdV,wF,zdY,zdZ,zd1,trivial⟩ ?_;intro vs r hwf h;unfold dJ at h;split at h
 .rename_i m q;replace h:=IH h;obtain⟨m,rfl,h⟩:=h;replace h:=I2 h;obtain⟨q,rfl,h⟩:=h;rw[R.get_ok]at h;refine⟨70000,(ye 70000 m q).trans ?_⟩;rw[<-h];unfold FP O2;cases hr:E8 m q with
  |true=>
   have hb:=(O6 hr).2.2.1;rw[A9,DT,DS];exact vP 70000 m q hr (q.bu.toNat+1) 70000 ⟨[(GG q).I],[],Vd.none,0⟩ [(GG q).I] (Jl hr) rfl rfl (by show q.bu<0+_;omega) AG
  |false=>rfl
 .simp[R.get]at h
open Go
def aB(x:Int):BA:=strOfNums (BQ IV.toInt [IV.int x])
def jR(s:BA)(a x:Int):BA:=
 bif AE (0<s.size)then s.extract 0 (D2 (D6 (a*7)) 0 (D6 (ic s.size-1))).toNat++aB x++s.extract ((D2 (D6 (a*7)) 0 (D6 (ic s.size-1))).toNat+1) s.size else s
def YK(m:Md)(w a x:Int)(i:Nat)(y:IV):BA:=bif (i:Int)==a then jR (G0 ((JC (ZM y) m).bud w) m.d) a x else G0 ((JC (ZM y) m).bud w) m.d
def QV(m:Md)(w a x:Int):Nat->LI->LI
 |_,[]=>[]
 |i,y::r=>.str (YK m w a x i y)::QV m w a x (i+1) r
def fP:D5
 |[m,.list AC [.z,.z,.z,.z,.z,.z,.bool,.list AD [.z]] xs,.i bud,.i at_,.int .u8 x]=>ID m λm=>
  .br (P0 m) (.ok (.list AD [.str] (QV m (D2 bud 0 200) at_ x 0 (xs.take 5))) []) .no
 |_=>.no
def oZ:D5
 |[f,.list AC [.z,.z,.z,.z,.z,.z,.bool,.list AD [.z]] _,.i _,.i _,.int .u8 _,.bool _]=>xZ f λ_=>.ok (.bool AC) []
 |_=>.no
open Go Go.Proofs
set_option maxRecDepth 100000
def Y9(N:Nat):Env:=EI [(10,WK),(32,OI),(9,fN)] [(3,⟨[1,2,3,4,5,10,11,12],[5,68],[⟨.tmp 11,68,9,AD,[.str]⟩]⟩)] 70 N
abbrev mE:KP:=⟨[1,2,3,4,5,10,11,12],[5,68],[⟨.tmp 11,68,9,AD,[.str]⟩]⟩
abbrev UC(m:Md)(l:LI)(z a x:Int)(n:Nat)(i:Int)(O:LI):St:=⟨[(1,.list AC rZ l),(2,.i z),(3,.i a),(4,.int .u8 x),(5,.ptr 5 0 0),(10,.zs),(11,.row 68 0 n),(12,.i i)],[(5,AA (.box m.cs)),(68,AA (.row AC 9 AD [.str] O))]⟩
noncomputable abbrev kQ(N:Nat):Out->St->DW:=DZ 0 (D1 (Y9 N) (DU ZX [1,1,1]) (D4 (Y9 N) AB [.tmp 10] [[.list AD [.str]]]))
def Mo(s:BA)(k x:Int)(K:BA->DW):DW:=
 cond (AE (0<=k)&&AE (k<=ic s.size)) (cond (AE ((s.extract 0 k.toNat).size+(aB x).size<=strMax)) (cond (AE (0<=D6 (k+1))&&AE (D6 (k+1)<=ic s.size))
  (cond (AE ((s.extract 0 k.toNat++aB x).size+(s.extract (D6 (k+1)).toNat s.size).size<=strMax)) (K (s.extract 0 k.toNat++aB x++s.extract (D6 (k+1)).toNat s.size)) AB) AB) AB) AB
def uZ(s:BA)(a x:Int)(K:BA->DW):DW:=
 cond (AE (ic s.size>0)) (cond (AE (MB 0 (D6 (ic s.size-1))=0)) AB (Mo s (D2 (D6 (a*7)) 0 (D6 (ic s.size-1))) x K)) (K s)
def uY(b:Bool)(s:BA)(a x:Int)(K:BA->DW):DW:=cond b (uZ s a x K) (K s)
theorem xw(N:Nat)(m:Md)(l:LI)(z a x:Int):EB (Y9 N) ZX [.tmp 10] [[.list AD [.str]]] [m.V,.list AC rZ l,.i z,.i a,.int .u8 x]=
 D7 (Y9 N) (DU ZX [1,1,0,1,0,0]) mE N (UC m l z a x 0 0 []) (kQ N):=AF
theorem ze2(N:Nat)(m:Md)(l:LI)(z a x:Int)(n:Nat)(i:Int)(O:LI)(again:St->DW)(k:Out->St->DW):E3 (Y9 N) (DU ZX [1,1,0,1,0,0]) (UC m l z a x n i O) (ES again mE k)=
 cond (AE (i<ic l.length)) (cond (AE (i<5)) (cond (AE (0<=i)&&AE (i<ic l.length)) (cond (P0 m)
 (uY (i==a) (G0 ((JC (ZM (AQ l i.toNat default)) m).bud (D2 z 0 200)) m.d) a x λs=>cond (AE ((n+1)*16<=EM)) (again (UC m l z a x (n+1) (D6 (i+1)) (AU n O++[IV.str s]))) AB) AB) AB)
 (k (.exit 0) (UC m l z a x n i O))) (k (.exit 0) (UC m l z a x n i O)):=AF
theorem jr(N:Nat)(m:Md)(l:LI)(z a x:Int)(n:Nat)(i:Int)(O:LI):kQ N (.exit 0) (UC m l z a x n i O)=AA (.list AD [.str] (A3 0 (AU n O)),[]):=AF
def WG(N:Nat):Env:=EI [(23,WJ),(11,WP),(28,WQ),(25,dA),(30,dC),(22,fP),(24,dJ),(26,WW),(29,S0),(27,WX),(13,S1),(7,fO)] [(7,⟨[5,12,13,14,15,16,34,35,36],[13],[]⟩)] 119 N
abbrev mD:KP:=⟨[5,12,13,14,15,16,34,35,36],[13],[]⟩
abbrev nC:List Nat:=[1,1,1,1,1,0,1,0,0]
abbrev QE(m:Md)(e:Bool)(ls:LI)(a w:BA)(n i:Int):St:=⟨[(5,.bool e),(12,.bool AD),(13,.ptr 13 0 0),(14,.list AD [.str] ls),(15,.str a),(16,.str w),(34,.list AD [.str] ls),(35,.i n),(36,.i i)],[(13,AA (.box m.cs))]⟩
noncomputable abbrev aJ(N:Nat):Out->St->DW:=DZ 0 (D1 (WG N) (DU XH [1,1,1,1,1,1]) (D4 (WG N) AB [.tmp 12] [[.bool]]))
noncomputable def gK(N:Nat)(m:Md)(e:Bool)(ls:LI):DW:=
 cond (P0 m) (D7 (WG N) (DU XH nC) mD N (QE m e ls GM GM (ic ls.length) 0) (aJ N)) AB
theorem xt(N:Nat)(f:Ft)(l:LI)(z a x:Int)(e:Bool):EB (WG N) XH [.tmp 12] [[.bool]] [f.V,.list AC rZ l,.i z,.i a,.int .u8 x,.bool e]=
 cond (x==10) (gK N f.M e (QV f.M (D2 z 0 200) a 120 0 (AU 5 l))) (gK N f.M e (QV f.M (D2 z 0 200) a x 0 (AU 5 l))):=AF
def qL(m:Md)(l:BA)(K:Vd->DW):DW:=cond (MH l) (cond (NA l==m.d) (K (FP m (GJ l))) (K V1)) (K V1)
def Eg(w:BA)(i:Int)(K:BA->DW):DW:=
 cond (AE (w.size+AR K9<=strMax)) (cond (AE ((w++K9).size+(QN i).size<=strMax)) (cond (AE ((w++K9++QN i).size+AR IC<=strMax)) (K (w++K9++QN i++IC)) AB) AB) AB
abbrev bU:BA:=⟨#[113,117,101,114,121,32,48,10]⟩
def Eh(m:Md)(l:BA)(v:Vd)(G H:DW):DW:=
 cond (AE ((H2 m).size<4294967281)&&(AE (l.size<4294967281)&&AE ((M1 (H2 m) l).size<=strMax)))
  (cond (AE (ic l.size>0)) (cond (AE ((HU v).size<=strMax)) (cond (AE (AR bU+(HU v).size<=strMax))
   (cond (!((M1 (H2 m) l).toList==(bU++HU v).toList)) G H) AB) AB) H) AB
def lA(m:Md)(l w:BA)(i:Int)(F:DW)(G H:BA->DW):DW:=
 cond (AE (l.size<4294967281)) (qL m l λv=>cond (AE (l.size<4294967281)) (cond (!jT (HE m l) v) F
  (Eg w i λy=>cond (AE ((HU v).size<=strMax)) (cond (AE (y.size+(HU v).size<=strMax)) (Eh m l v (G (y++HU v)) (H (y++HU v))) AB) AB)) AB) AB
def qK(a:BA)(K:BA->DW):DW:=cond (AE (a.size+AR IC<=strMax)) (K (a++IC)) AB
def Ee(e b:Bool)(a:BA)(K:BA->DW):DW:=cond e (qK a K) (cond b (qK a K) (K a))
theorem Sj(N:Nat)(m:Md)(e:Bool)(ls:LI)(a w:BA)(n i:Int)(again:St->DW)(k:Out->St->DW):E3 (WG N) (DU XH nC) (QE m e ls a w n i) (ES again mD k)=
 cond (AE (i<n)) (cond (AE (0<=i)&&AE (i<ic ls.length)) (cond (AE (a.size+(IV.toStr (AQ ls i.toNat default)).size<=strMax))
 (Ee e (AE (D6 (i+1)<ic ls.length)) (a++IV.toStr (AQ ls i.toNat default)) λa=>
 lA m (IV.toStr (AQ ls i.toNat default)) w i (k .ret (QE m e ls a w n i)) (λw=>k .ret (QE m e ls a w n i)) (λw=>again (QE m e ls a w n (D6 (i+1))))) AB) AB)
 (k (.exit 0) (QE m e ls a w n i)):=AF
theorem jd(N:Nat)(m:Md)(e:Bool)(ls:LI)(a w:BA)(n i:Int):aJ N (.exit 0) (QE m e ls a w n i)=
 cond (AE ((H2 m).size<4294967281)&&(AE (a.size<4294967281)&&AE ((M1 (H2 m) a).size<=strMax)))
 (cond ((M1 (H2 m) a).toList==w.toList) (cond (AE (a.size<4294967281)) (cond (O7 (HR a) ls) (AA (.bool AC,[])) (AA (.bool AD,[]))) AB) (AA (.bool AD,[]))) AB:=AF
open Go
theorem Om:∀l:LI,O7 l l=AC
 |[]=>rfl
 |x::l=>by simp[O7,Om l]
theorem Ia:∀(L:List (List UInt8)) (x:List UInt8),PW L++x=vaJ (L++[x]) [10]
 |[],x=>by rw[DK,Lib.join_one];rfl
 |a::L,x=>by
  have ih:=Ia L x;rw[sV,C0,vax,C0,ih];cases L with
  |nil=>rw[DK,X3]
  |cons b L=>rw[C0,X3]
structure LnInv (e:Bool) (M i:Nat) (L:List BA) (s:BA):Prop where
 len:L.length=i
 no:∀x∈L,(10:UInt8)∉x.data.toList
 ne:e=AD->∀x∈L,x.data.toList≠[]
 lf:e=AC\/i<M->s.data.toList=PW (L.map (·.data.toList))
 fin:e=AD->i=M->(L=[]/\s.data.toList=[])\/s.data.toList=vaJ (L.map (·.data.toList)) [10]
theorem Iv(L:List BA)(x:BA):(L++[x]).map (·.data.toList)=L.map (·.data.toList)++[x.data.toList]:=by simp
theorem LnInv.snocE{e:Bool}{M i:Nat}{L:List BA}{s x:BA}(h:LnInv e M i L s)(hi:i<M)(hx:(10:UInt8)∉x.data.toList)(hn:e=AD->x.data.toList≠[])(hc:e=AC\/i+1<M):LnInv e M (i+1) (L++[x]) (s++x++IC) where
 len:=by rw[A2,h.len];rfl
 no y hy:=by
  rcases A4.1 hy with hy|hy
  .exact h.no y hy
  .obtain rfl:=B7.1 hy;exact hx
 ne he y hy:=by
  rcases A4.1 hy with hy|hy
  .exact h.ne he y hy
  .obtain rfl:=B7.1 hy;exact hn he
 lf _:=by
  rw[XO,XO,h.lf (.inr hi),Iv,ux];simp[PW]
 fin he hm:=by
  rcases hc with h1|h1
  .rw[he]at h1;cases h1
  .omega
theorem LnInv.snocL{M i:Nat}{L:List BA}{s x:BA}(h:LnInv AD M i L s)(hi:i<M)(hx:(10:UInt8)∉x.data.toList)(hn:x.data.toList≠[])(hc:i+1=M):LnInv AD M (i+1) (L++[x]) (s++x) where
 len:=by rw[A2,h.len];rfl
 no y hy:=by
  rcases A4.1 hy with hy|hy
  .exact h.no y hy
  .obtain rfl:=B7.1 hy;exact hx
 ne _ y hy:=by
  rcases A4.1 hy with hy|hy
  .exact h.ne rfl y hy
  .obtain rfl:=B7.1 hy;exact hn
 lf h1:=by
  rcases h1 with h1|h1
  .cases h1
  .omega
 fin _ _:=by
  refine .inr ?_;rw[XO,h.lf (.inr hi),Iv,Ia]
theorem LnInv.lines{e:Bool}{M:Nat}{L:List BA}{s:BA}(h:LnInv e M M L s):HR s=L.map IV.str:=by
 have hnil:s.data.toList=[]->HR s=[]:=λhs=>by
  unfold HR;rw[gA,AL (pM hs),DS]
 cases e with
 |true=>
  have hs:=h.lf (.inl rfl);cases L with
  |nil=>exact hnil hs
  |cons x L=>
   refine Ig ?_;exact ve hs λl hl=>by
    have hl:l∈(x::L).map (·.data.toList):=hl;obtain⟨y,hy,rfl⟩:=CV.1 hl;exact h.no y hy
 |false=>
  rcases h.fin rfl rfl with⟨rfl,hs⟩|hs
  .exact hnil hs
  .cases L with
   |nil=>exact hnil hs
   |cons x L=>
    refine Ig ?_;have hne:(x::L).map (·.data.toList)≠[]:=by simp
    have hlast:((x::L).map (·.data.toList)).getLast hne∈(x::L).map (·.data.toList):=List.getLast_mem hne;obtain⟨y,hy,hyl⟩:=CV.1 hlast;have hyn:=h.ne rfl y hy;exact vd (x:=x.data.toList) (L:=L.map (·.data.toList)) hs (λl hl=>by
     have hl:l∈(x::L).map (·.data.toList):=hl;obtain⟨y,hy,rfl⟩:=CV.1 hl;exact h.no y hy) (l:=y.data.toList.dropLast) (c:=y.data.toList.getLast hyn) (by
     rw[List.dropLast_concat_getLast hyn,hyl];exact List.getLast?_eq_some_getLast hne)
def aA(m:Md)(l:BA):Vd:=bif MH l&&NA l==m.d then FP m (GJ l)else V1
theorem zc2{m:Md}{q:Qy}(h:E8 m q=AD):FP m q=V1:=by
 have e:O2 m q=⟨[],[],⟨4,[],0,0,0,0,0,0⟩,0⟩:=by unfold O2;rw[h,DT]
 unfold FP;rw[e,I9];rfl
theorem Zm{m:Md}(hf:OZ m.ts<=99)(l:BA):HE m l=aA m l:=by
 unfold HE aA;cases ha:MH l with
 |false=>
  have:NV m l=AD:=by unfold NV;rw[ha];rfl
  rw[this];rfl
 |true=>
  cases hd:(NA l==m.d)with
  |false=>
   have:NV m l=AD:=by unfold NV;rw[ha,hd];rfl
   rw[this];rfl
  |true=>
   cases hr:E8 m (GJ l)with
   |false=>
    have:NV m l=AD:=by unfold NV;rw[ha,hd,hr];rfl
    rw[this];exact(zc2 hr).symm
   |true=>
    have ho:NV m l=AC:=by unfold NV;rw[ha,hd,hr];rfl
    rw[ho,DS];have hs:=zfh hf ho;unfold ZO;rw[show((FP m (GJ l)).kind==3||P2 m (GJ l) (FP m (GJ l)))=AC from hs];rfl
structure LnOK (l:BA):Prop where
 no:(10:UInt8)∉l.data.toList
 ne:l.data.toList≠[]
 sz:l.size<=2000
theorem fg{x:Int}(h0:0<=x)(h1:x<=255)(hx:x≠10):(aB x).data.toList=[UInt8.ofNat x.toNat]/\UInt8.ofNat x.toNat≠10:=by
 obtain⟨n,rfl⟩:=Int.eq_ofNat_of_zero_le h0;refine⟨rfl,λh=>hx ?_⟩
 have:=congrArg UInt8.toNat h
 rw[UInt8.toNat_ofNat']at this;simp at this;omega
theorem Ef(x:Int):(aB x).size=1:=rfl
theorem Fd{s:BA}{a b:Nat}{c:UInt8}(h:c∈(s.extract a b).data.toList):c∈s.data.toList:=by
 rw[ByteArray.data_extract,Array.toList_extract,List.extract_eq_take_drop]at h;exact vaL (vav h)
theorem Ux(s:BA)(a:Int)(hs:s.size<=2000)(h0:0<s.size):∃k:Nat,D2 (D6 (a*7)) 0 (D6 (ic s.size-1))=(k:Int)/\k+1<=s.size:=by
 have e1:D6 (ic s.size-1)=ic s.size-1:=ER (by simp only[ic];omega) (by simp only[ic];omega);have hk:=T6 (D6 (a*7)) 0 (ic s.size-1) (by simp only[ic];omega) AG (by simp only[ic];omega);rw[e1];obtain⟨k,hk2⟩:=Int.eq_ofNat_of_zero_le hk.1;rw[hk2]at hk;exact⟨k,hk2,by simp only[ic]at hk;omega⟩
theorem zfF{s:BA}(h:LnOK s)(a:Int){x:Int}(h0:0<=x)(h1:x<=255)(hx:x≠10):LnOK (jR s a x):=by
 unfold jR;by_cases hz:0<s.size
 .obtain⟨k,ek,hk⟩:=Ux s a h.sz hz;obtain⟨d1,d2⟩:=fg h0 h1 hx;rw[AL hz,ek,BH,BN];refine⟨?_,?_,?_⟩
  .rw[XO,XO,d1];intro hm;rw[A4,A4]at hm;rcases hm with(hm|hm)|hm
   .exact h.no (Fd hm)
   .exact d2 (B7.1 hm).symm
   .exact h.no (Fd hm)
  .rw[XO,XO,d1];simp
  .have:=h.sz
   rw[A7,A7,Ef,vaQ,vaQ];omega
 .rw[AS hz,BC];exact h
theorem zcm(f:Ft){w:Int}(h0:0<=w)(h1:w<=65536)(a:Int){x:Int}(x0:0<=x)(x1:x<=255)(hx:x≠10)(i:Nat)(y:IV):LnOK (YK f.M w a x i y):=by
 have hs:=(zdj f (ZM y) h0 h1).1;have hl:LnOK (G0 ((JC (ZM y) f.M).bud w) f.M.d):=by
  obtain⟨r,c,hrc,_,_⟩:=zb2 hs.ok;exact⟨zb3 _ _,by rw[hrc];simp,y7 (yL f) _ h0 h1⟩
 unfold YK;cases(i:Int)==a with
 |true=>exact zfF hl a x0 x1 hx
 |false=>exact hl
theorem Mn(f:Ft){w:Int}(h0:0<=w)(h1:w<=65536)(a:Int){x:Int}(x0:0<=x)(x1:x<=255)(hx:x≠10):∀(l:LI) (i:Nat),∃L:List BA,QV f.M w a x i l=L.map IV.str/\L.length=l.length/\∀s∈L,LnOK s
 |[],_=>⟨[],rfl,rfl,λs hs=>by cases hs⟩
 |y::l,i=>by
  obtain⟨L,e,hn,hL⟩:=Mn f h0 h1 a x0 x1 hx l (i+1);refine⟨YK f.M w a x i y::L,by rw[QV,e];rfl,by rw[AV,AV,hn],λs hs=>?_⟩;rcases AY.1 hs with rfl|hs
  .exact zcm f h0 h1 a x0 x1 hx i y
  .exact hL s hs
open Go Go.Proofs
theorem On(N:Nat)(l m:LI)(K:Out->St->DW)(hlm:l.length=m.length)(hl:l.length<=strMax)
  (hx:∀b4 x5,K (.exit 0) ⟨[(0,(.list AC EX l)),(1,(.list AC EX m)),(4,(.bool b4)),(5,(.i x5))],[]⟩=AA (.bool AC,[]))
  (hr:∀b4 x5,K .ret ⟨[(0,(.list AC EX l)),(1,(.list AC EX m)),(4,(.bool b4)),(5,(.i x5))],[]⟩=AA (.bool b4,[])):
  ∀(d i n:Nat),i+d=l.length->d<n->D7 (RD N) (DU UW [1,1,0,1,0,0]) ⟨[0,1,4,5],[],[]⟩ n ⟨[(0,(.list AC EX l)),(1,(.list AC EX m)),(4,(.bool AD)),(5,(.i (i:Int)))],[]⟩ K=AA (.bool (H3 (l.drop i) (m.drop i)),[])
 |0,i,n+1,hd,_=>by
  rw[ED,Rw,I6 AG,C1 AG,C1 AG];simp only[BC,H3];exact hx ..
 |d+1,i,n+1,hd,hn=>by
  have hi:i<l.length:=by omega
  have hm:i<m.length:=by omega
  unfold strMax at hl;rw[ED,Rw,H0 hi,H0 hm,IG,GQ AG,IK hi,IK hm,BD hi,BD hm];generalize l[i]=x;generalize m[i]=y;have ih:=On N l m K hlm (by unfold strMax;omega) hx hr d (i+1) n AG AG;rw[ih];simp only[H3];generalize H3 (A3 (i+1) l) (A3 (i+1) m)=rest;unfold bM I0 FW GY;simp only[BN,CJ];cases IV.toBool (IV.cell x 0)==IV.toBool (IV.cell y 0)<;>cases IV.toInt (IV.cell x 1)==IV.toInt (IV.cell y 1)<;>cases IV.toInt (IV.cell x 2)==IV.toInt (IV.cell y 2)<;>
   (simp only[BN,BC,A9,BG,CJ,DB,BE,BP,hr]
    try rfl)
 |0,_,0,_,h=>by omega
 |_+1,_,0,_,h=>by omega
theorem Og:∀{l m:LI},H3 l m=AC->l.length=m.length
 |[],[],_=>rfl
 |[],_::_,h=>by simp[H3]at h
 |_::_,[],h=>by simp[H3]at h
 |x::l,y::m,h=>by
  simp only[H3,AP]at h;simp[Og h.2]
theorem zdH:D9 PR B0 92 c6:=by
 refine EJ [] [(4,⟨[0,1,4,5],[],[]⟩)] c6 [[.bool]] Tryz.func92 oa trivial ?_;intro vs r hwf h;unfold c6 at h;split at h
 .rename_i l m;rw[R.get_ok]at h;refine⟨l.length+1,?_⟩;rw[<-h];refine(xg (l.length+1) l m).trans ?_;have hl:=(hwf (by simp[K4])).1;simp only[QC,wfL]at hl;by_cases hlm:l.length=m.length
  .have e:(ic l.length !=ic m.length)=AD:=by simp[ic,hlm]
   rw[e];simp only[BC]
   have:=On (l.length+1) l m _ hlm hl.1 (λb4 x5=>gy (l.length+1) l m b4 x5) (λb4 x5=>gz (l.length+1) l m b4 x5) l.length 0 (l.length+1) AG AG
   rw[CA,CA]at this;exact this
  .have e:(ic l.length !=ic m.length)=AC:=by simp[ic];omega
   rw[e]
   have:H3 l m=AD:=by
    cases hs:H3 l m with
    |false=>rfl
    |true=>exact absurd (Og hs) hlm
   rw[this];rfl
 .simp[R.get]at h
theorem zdN:D9 PR B0 25 dA:=by
 refine EJ [(92,c6)] [] dA [[.bool]] Tryz.func25 ol ⟨zdH,trivial⟩ ?_;intro vs r hwf h;unfold dA at h;split at h
 .rename_i k p a b c d t s k' p' a' b' c' d' t' s';rw[R.get_ok]at h;refine⟨0,?_⟩;rw[<-h];refine(xp 0 ⟨k,p,a,b,c,d,t,s⟩ ⟨k',p',a',b',c',d',t',s'⟩).trans ?_;simp only[jT,CJ];cases k==k'
  .rfl
  cases H3 p p'
  .rfl
  cases a==a'<;>cases b==b'<;>cases c==c'<;>cases d==d'<;>cases t==t'<;>rfl
 .simp[R.get]at h
open Go Go.Proofs
set_option maxRecDepth 100000
theorem zcn{s:BA}(hs:s.size<=2000)(a x:Int)(K:BA->DW):uZ s a x K=K (jR s a x):=by
 unfold uZ jR;by_cases h0:0<s.size
 .obtain⟨k,ek,hk⟩:=Ux s a hs h0;have e1:D6 (ic s.size-1)=ic s.size-1:=ER (by simp only[ic];omega) (by simp only[ic];omega);have hm0:MB 0 (D6 (ic s.size-1))≠0:=by
   unfold MB;rw[e1,show D6 (ic s.size-1-0)=ic s.size-1 by rw[Int.sub_zero];exact e1];rw[show D6 (ic s.size-1+1)=ic s.size from by rw[Int.sub_add_cancel];exact ER (by simp only[ic];omega) (by simp only[ic];omega)];simp only[ic];omega
  have e2:D6 ((k:Int)+1)=((k+1:Nat):Int):=GQ AG;have z1:(s.extract 0 k).size=k:=by rw[vaQ];omega
  have z2:(s.extract (k+1) s.size).size=s.size-(k+1):=by rw[vaQ];omega
  have c1:(AE (0<=(k:Int))&&AE ((k:Int)<=ic s.size))=AC:=by rw[AL AG,AL (by simp only[ic];omega)];rfl
  have c2:(AE (0<=((k+1:Nat):Int))&&AE (((k+1:Nat):Int)<=ic s.size))=AC:=by rw[AL AG,AL (by simp only[ic];omega)];rfl
  rw[AL (show ic s.size>0 by simp only[ic];omega),DS,AS hm0,DT,ek,AL h0,DS];unfold Mo;rw[e2,c1,c2];simp only[BH,A7,z1,z2,Ef,DS];rw[AL (show k+1<=strMax by unfold strMax;omega),AL (show k+1+(s.size-(k+1))<=strMax by unfold strMax;omega),DS,DS]
 .rw[AS (show¬ic s.size>0 by simp only[ic];omega),DT,AS h0,DT]
theorem zcl{m:Md}(hm:P0 m=AC){w:Int}(h0:0<=w)(h1:w<=65536)(a x:Int)(i:Nat)(y:IV)(K:BA->DW):
  uY ((i:Int)==a) (G0 ((JC (ZM y) m).bud w) m.d) a x K=K (YK m w a x i y):=by
 unfold uY YK;cases(i:Int)==a with
 |true=>exact zcn (y7 hm _ h0 h1) a x K
 |false=>rfl
theorem Mp(N:Nat)(m:Md)(hm:P0 m=AC)(l:LI)(z a x:Int):
  ∀(d i n:Nat) (O:LI),i+d=5->d<n->O.length=i->
   D7 (Y9 N) (DU ZX [1,1,0,1,0,0]) mE n (UC m l z a x O.length (i:Int) O) (kQ N)=
    AA (.list AD [.str] (O++QV m (D2 z 0 200) a x i ((l.take 5).drop i)),[])
 |d,i,n+1,O,hd,hn,hO=>by
  have hw:=T6 z 0 200 AG AG AG;have hdone:∀y,kQ N (.exit 0) (UC m l z a x O.length y O)=AA (.list AD [.str] (O++QV m (D2 z 0 200) a x i []),[]):=λy=>by
   rw[jr,CA,BW,QV,vad]
  rw[ED,ze2];by_cases hi:i<l.length
  .by_cases hk:i<5
   .obtain⟨d,rfl⟩:∃e,d=e+1:=⟨d-1,by omega⟩;rw[H0 hi,IG,IK hi,AL (show((i:Nat):Int)<5 by omega),hm,CJ,DS,DS,DS,DS,zcl hm hw.1 AG,show D6 ((i:Int)+1)=((i+1:Nat):Int)from GQ AG,zfk hi hk,QV];rw[AL (show(O.length+1)*16<=EM by unfold EM;omega),DS,BW];have ih:=Mp N m hm l z a x d (i+1) n (O++[.str (YK m (D2 z 0 200) a x i l[i])]) AG AG (by simp;omega);rw[A2,vax]at ih;exact ih
   .rw[H0 hi,AS (show¬((i:Nat):Int)<5 by omega),DS,DT,Ud AG];exact hdone _
  .rw[I6 AG,DT,Ud AG];exact hdone _
 |_,_,0,_,_,h,_=>by omega
theorem zdp:D9 PR B0 22 fP:=by
 refine EJ [(10,WK),(32,OI),(9,fN)] [(3,mE)] fP [[.list AD [.str]]] Tryz.func22 ot ⟨Pg,jF,zdn,trivial⟩ ?_;intro vs r hwf h;unfold fP at h;split at h
 .rename_i m l z a x;replace h:=IH h;obtain⟨m,rfl,h⟩:=h;cases hg:P0 m with
  |false=>rw[hg]at h;simp[R.get]at h
  |true=>
   rw[hg,R.get_br,DS,R.get_ok]at h;refine⟨6,(xw 6 m l z a x).trans ?_⟩;refine(Mp 6 m hg l z a x 5 0 6 [] rfl AG rfl).trans ?_;rw[CA,DK];exact h
 .simp[R.get]at h
theorem fh{m:Md}{l:BA}(h:HE m l=aA m l)(K:Vd->DW):qL m l K=K (HE m l):=by
 rw[h];unfold qL aA;cases MH l<;>cases NA l==m.d<;>rfl
theorem tj:KD 0=bU:=pM AF
theorem fj{m:Md}(hM:ET m=AC)(hW:jY m){l:BA}(hl:LnOK l)(ha:HE m l=aA m l){w:BA}{i:Nat}(hi:i<5)(hw:w.size<=4000028*i)(F:DW)(G H:BA->DW):
  lA m l w (i:Int) F G H=H (w++KD i++HU (HE m l)):=by
 obtain⟨t1,t2⟩:=Ue hM hW;have z1:=hl.sz;have hps:=Lv hM;have hv:=uO (o4 m l).2;have hh:=rK i AG;have ed:=fe (show i<10 by omega) w;have e1:IC.size=1:=rfl;have e6:K9.size=6:=rfl;have e8:bU.size=8:=rfl;have hone:HR l=[.str l]:=va hl.ne hl.no;have hrp:M1 (H2 m) l=bU++HU (HE m l):=by
  rw[vS t1,t2,hone];show KD 0++(HU (HE m l)++GM)=_;rw[show HU (HE m l)++GM=HU (HE m l)from ByteArray.append_empty,tj]
 have hrz:=Nw (H2 m) l (by rw[hone];show 1<=1000;omega);have hsz:(w++K9++QN (i:Int)++IC).size=w.size+(KD i).size:=by rw[ed,A7]
 have hsz2:w.size+K9.size+(QN (i:Int)).size+IC.size=w.size+(KD i).size:=by rw[<-hsz];simp only[A7]
 unfold lA;rw[AL (show l.size<4294967281 by omega),DS,fh ha,DS,zfL.2 (VSame.rfl' _),A9,DT];unfold Eg;rw[AL (show w.size+K9.size<=strMax by unfold strMax;omega),DS];rw[AL (show(w++K9).size+(QN (i:Int)).size<=strMax by rw[A7];unfold strMax;omega),DS];rw[AL (show(w++K9++QN (i:Int)).size+IC.size<=strMax by rw[A7,A7];unfold strMax;omega),DS];dsimp only;rw[AL (show(HU (HE m l)).size<=strMax by unfold strMax;omega),DS,AL (show(w++K9++QN (i:Int)++IC).size+(HU (HE m l)).size<=strMax by rw[hsz];unfold strMax;omega),DS];unfold Eh;rw[AL (show(H2 m).size<4294967281 by omega),AL (show l.size<4294967281 by omega),AL (show(M1 (H2 m) l).size<=strMax by unfold strMax;omega),AL (show(HU (HE m l)).size<=strMax by unfold strMax;omega),
  AL (show bU.size+(HU (HE m l)).size<=strMax by unfold strMax;omega),hrp,DA,ed]
 cases AE (ic l.size>0)<;>rfl
theorem Ei(N:Nat){m:Md}(hM:ET m=AC)(hW:jY m)(e:Bool)(L:List BA)(hn:L.length<=5)(hL:∀s∈L,LnOK s)(ha:∀l,HE m l=aA m l):
  ∀(d i n:Nat) (a w:BA),i+d=L.length->d<n->LnInv e L.length i (L.take i) a->a.size<=2001*i->w.size<=4000028*i->YW w i ((L.drop i).map (HE m))=QA 0 (L.map (HE m))->
   D7 (WG N) (DU XH nC) mD n (QE m e (L.map IV.str) a w (ic (L.map IV.str).length) (i:Int)) (aJ N)=AA (.bool AC,[])
 |0,i,n+1,a,w,hd,_,hi,hz,_,hw=>by
  obtain rfl:i=L.length:=by omega
  rw[C4,CN,YW]at hw;rw[BW]at hi;obtain⟨t1,t2⟩:=Ue hM hW;have hps:=Lv hM;have hls:=hi.lines;have hr:M1 (H2 m) a=w:=by
   rw[vS t1,t2,hls,hw];unfold UP;rw[List.map_map];rfl
  have hrz:=Nw (H2 m) a (by rw[hls,B8];omega);rw[ED,Sj,AS (show¬((L.length:Nat):Int)<ic (L.map IV.str).length by rw[B8];simp only[ic];omega),DT,jd];rw[AL (show(H2 m).size<4294967281 by omega),AL (show a.size<4294967281 by omega),AL (show(M1 (H2 m) a).size<=strMax by unfold strMax;omega),hr,hls,DA,Om];rfl
 |d+1,i,n+1,a,w,hd,hn2,hi,hz,hwz,hw=>by
  have hil:i<L.length:=by omega
  have hil2:i<(L.map IV.str).length:=by rw[B8];exact hil
  have hl:=hL _ (DC hil);have hv:=uO (o4 m L[i]).2;have hh:=rK i AG;have e1:IC.size=1:=rfl;have z1:=hl.sz;have et:L.take (i+1)=L.take i++[L[i]]:=by rw[List.take_succ_eq_append_getElem hil]
  rw[BD hil,A8,YW]at hw;have hgo:∀b:BA,b.size<=2001*(i+1)->LnInv e L.length (i+1) (L.take (i+1)) b->
    lA m L[i] w (i:Int) (aJ N .ret (QE m e (L.map IV.str) b w (ic (L.map IV.str).length) (i:Int))) (λw=>aJ N .ret (QE m e (L.map IV.str) b w (ic (L.map IV.str).length) (i:Int)))
     (λw=>D7 (WG N) (DU XH nC) mD n (QE m e (L.map IV.str) b w (ic (L.map IV.str).length) ((i+1:Nat):Int)) (aJ N))=AA (.bool AC,[]):=λb hb hinv=>by
   rw[fj hM hW hl (ha _) AG hwz];exact Ei N hM hW e L hn hL ha d (i+1) n b _ AG AG hinv AG (by rw[A7,A7];omega) hw
  rw[ED,Sj,H0 hil2,IG,IK hil2,show D6 ((i:Int)+1)=((i+1:Nat):Int)from GQ AG,List.getElem_map,CJ,DS,DS];rw[show(IV.str L[i]).toStr=L[i]from rfl,AL (show a.size+L[i].size<=strMax by unfold strMax;omega),DS];unfold Ee qK;rw[AL (show(a++L[i]).size+IC.size<=strMax by rw[A7];unfold strMax;omega),DS];have hsn:e=AC\/i+1<L.length->LnInv e L.length (i+1) (L.take (i+1)) (a++L[i]++IC):=λhc=>by
   rw[et];exact hi.snocE hil hl.no (λ_=>hl.ne) hc
  cases e with
  |true=>
   rw[DS];exact hgo _ (by rw[A7,A7];omega) (hsn (.inl rfl))
  |false=>
   rw[DT];by_cases hlast:i+1<L.length
   .rw[AL (show((i+1:Nat):Int)<ic (L.map IV.str).length by rw[B8];simp only[ic];omega),DS];exact hgo _ (by rw[A7,A7];omega) (hsn (.inr hlast))
   .rw[AS (show¬((i+1:Nat):Int)<ic (L.map IV.str).length by rw[B8];simp only[ic];omega),DT];refine hgo _ (by rw[A7];omega) ?_;rw[et];exact hi.snocL hil hl.no hl.ne AG
 |0,_,0,_,_,_,h,_,_,_,_=>by omega
 |_+1,_,0,_,_,_,h,_,_,_,_=>by omega
theorem fi(N:Nat)(hN:6<=N)(f:Ft)(e:Bool)(L:List BA)(hn:L.length<=5)(hL:∀s∈L,LnOK s):gK N f.M e (L.map IV.str)=AA (.bool AC,[]):=by
 unfold gK;rw[yL,DS];have hf:OZ f.M.ts<=99:=by have:=Fu f;omega
 refine Ei N (yM f) (vt _ _ _ _) e L hn hL (Zm hf) L.length 0 N GM GM AG AG ?_ (A5 _) (A5 _) (by rw[CA,zfN]);exact{len:=rfl,no:=λx hx=>(by cases hx),ne:=λ_ x hx=>(by cases hx),lf:=λ_=>rfl,fin:=λ_ h=>.inl ⟨rfl,rfl⟩}
theorem zdO:D9 PR B0 5 oZ:=by
 refine EJ [(23,WJ),(11,WP),(28,WQ),(25,dA),(30,dC),(22,fP),(24,dJ),(26,WW),(29,S0),(27,WX),(13,S1),(7,fO)] [(7,⟨[5,12,13,14,15,16,34,35,36],[13],[]⟩)] oZ [[.bool]] Tryz.func5 oo ⟨Pf,Pl,Pm,zdN,zdP,zdp,zdW,Ps,wL,Pu,wO,zdo,trivial⟩ ?_;intro vs r hwf h;unfold oZ at h;split at h
 .rename_i f l z a x e;replace h:=Vq h;obtain⟨f,rfl,h⟩:=h;rw[R.get_ok]at h;refine⟨6,(xt 6 f l z a x e).trans ?_⟩;rw[<-h];have hb:=(hwf (show K4 _ _ from trivial)).2.2.2.2.1;have hw:=T6 z 0 200 AG AG AG;have hgo:∀y:Int,0<=y->y<=255->y≠10->gK 6 f.M e (QV f.M (D2 z 0 200) a y 0 (AU 5 l))=AA (.bool AC,[]):=λy y0 y1 y2=>by
   obtain⟨L,eL,hn,hL⟩:=Mn f hw.1 AG a y0 y1 y2 (AU 5 l) 0;rw[eL];exact fi 6 AG f e L (by rw[hn,BJ];omega) hL
  cases hx:x==10 with
  |true=>rw[DS];exact hgo 120 AG AG AG
  |false=>
   rw[DT];have h0:vbb.min<=x/\x<=vbb.max:=hb;have e0:vbb.min=0:=rfl;have e1:vbb.max=255:=rfl;rw[e0,e1]at h0;exact hgo x h0.1 h0.2 (by simpa using hx)
 .simp[R.get]at h
open Go Go.Proofs Go.RowKit
theorem Gh{P:Program}{w:World}{name:String}{g:Nat}{cs:Array Value}(hn:P.globalNamed name=AA g)(hv:w.var? P name=AA cs):∃T fr,w.heap[g]?=AA (.cells cs T fr):=by
 unfold World.var? at hv;rw[hn]at hv;simp only[Option.bind_some]at hv;split at hv
 .rename_i c T fr hh;simp only[AK]at hv;subst hv;exact⟨T,fr,hh⟩
 .cases hv
theorem Ev{w:World}{name:String}{g t:Nat}{ms:Array (String×TypeId)}{tn:String}{d:DataW Unit}(h:Lib.VarReads Tryz.prog w name (.iface tn d))(hn:Tryz.prog.globalNamed name=AA g)
  (ht:(Tryz.prog.globals[g]?).map (·.type)=AA t) (hu:Tryz.prog.underlying t=AA (.interface ms)):∃c T fr te pe,w.heap[g]?=AA (.cells c T fr)/\c[0]?=AA (.iface te pe):=by
 obtain⟨g',t',cs,fuel,p,h1,h2,h3,h4⟩:=h;obtain rfl:=CI (hn.symm.trans h1);obtain rfl:=CI (ht.symm.trans h2);obtain⟨f',u,v,hcs,_,_⟩:=iface_of_trod hu h4;obtain⟨T,fr,hh⟩:=Gh hn h3;refine⟨cs,T,fr,u,v,hh,?_⟩
 have:cs= #[.iface u v]:=by
  apply Array.ext';rw[hcs]
 rw[this];rfl
theorem mh{W:World}{l:List (String×DataW Unit)}(hL:laidMet Tryz.prog l W)(hsh:W.ShapedOpen Tryz.prog)
  (hp:("internal/strconv.uint64pow10",Lib.tabData .u64 Lib.pow10Tab)∈l)
  {n1:String} {d1:DataW Unit} (h1:("strconv.ErrRange",.iface n1 d1)∈l)
  {n2:String} {d2:DataW Unit} (h2:("strconv.ErrSyntax",.iface n2 d2)∈l)
  :Glob B0 W:=by
 have hz:∀g,g<4->g<Tryz.prog.globals.size->g<W.heap.size:=λg _ hg=>by
  have hb:((vaA Tryz.prog.globals.size).all λg=>(((begin Tryz.prog (λ_ _=>0) default).world.heap[g]?).bind Obj.row?).isSome)=AC:=by kernel_rfl
  have:=CZ.1 hb g (vaF.2 hg)
  obtain⟨⟨z,t⟩,hz⟩:=Option.isSome_iff_exists.1 this;obtain⟨cs,hh,_⟩:=hsh.1 g z t hg hz;exact(DI.1 hh).1
 have hsize:4<=W.heap.size:=by
  first
  |exact CG _
  |(
    have:=hz (4-1) (by decide) (BB AF)
    omega)
 have low:∀{g:Nat},g<4->(λb=>if b<B0.ng then W.heap[b]? else AB) g=W.heap[g]?:=λh=>B3 (show _<B0.ng from h)
 refine⟨hsize,?_⟩;show GF _;constructor
 first|exact trivial|skip
 case gm=>
  obtain⟨m,hm⟩:=cell_of_shapedOpen_int (P:=Tryz.prog) (g:=0) (t:=3) (zero:=#[.int .i64 0]) hsh (BB AF) AF rfl AF AF Tryz.underlying3;simp only[vaH]at hm;split at hm
  .rename_i c T fr' hh;exact⟨c,T,fr',m,(low (by decide)).trans hh,hm⟩
  .cases hm
 case gp=>
  have gp:Tryz.prog.globalNamed "internal/strconv.uint64pow10" =AA 1:=by kernel_rfl
  obtain⟨g',t',cp,fuel,p,e1,e2,e3,e4⟩:=vbr hL hp;obtain rfl:=CI (gp.symm.trans e1);obtain⟨T,fr',hh⟩:=Gh gp e3;refine⟨T,fr',(low (by decide)).trans ?_⟩;rw[hh];have et:(Tryz.prog.globals[1]?).map (·.type)=AA 268:=by kernel_rfl
  obtain rfl:=CI (et.symm.trans e2)
  have:=Lib.cells_of_tab (e:=106) (n:=20) AF AF AF AF e4
  congr 1;congr 1;apply Array.ext';exact this
 case gs=>
  obtain⟨cs,Ts,fs,tes,pes,hs1,hs2⟩:=Ev (g:=2) (vbr hL h2) AF (show _=AA 149 by kernel_rfl) Tryz.underlying149;exact⟨cs,Ts,fs,tes,pes,(low (by decide)).trans hs1,hs2⟩
 case gr=>
  obtain⟨cr,Tr,fr,ter,per,hr1,hr2⟩:=Ev (g:=3) (vbr hL h1) AF (show _=AA 149 by kernel_rfl) Tryz.underlying149;exact⟨cr,Tr,fr,ter,per,(low (by decide)).trans hr1,hr2⟩
def X0:Zone:=⟨λ_=>False,λ_=>False⟩
def γ0:Nat->Value:=λ_=>.nilIface
abbrev O0:Nat->Prop:=DY X0 γ0 []
theorem yN(b:Nat):¬O0 b:=by
 rintro(⟨n,ob,h,_⟩|h)
 .simp[DX,FA]at h
 .exact h
theorem Nb(W:World):Rel B0.base 0 W X0 γ0 ⟨[],[]⟩ J5 W:=by
 have no:∀n ob,DX ([]:Store) n≠AA ob:=λn ob h=>by simp[DX,FA]at h
 refine⟨rfl,rfl,λi=>by simp only[St.get,FA,VRel],λn ob h=>absurd h (no n ob),λb h=>?_,λn m ob ob' b _ h=>absurd h (no n ob),Keep.refl _ _,λb h=>?_,λb h=>h.elim,λp _ ob h=>absurd h (no _ ob)⟩
 .obtain⟨n,ob,h,_⟩:=h;exact absurd h (no n ob)
 .obtain⟨n,ob,h,_⟩:=h;exact absurd h (no n ob)
theorem bv{f:Nat}{fn:Func}(hf:PR.funcs[f]?=AA fn)(hn:(fn.name== "runtime.NumGoroutine")=AD)(hb:fn.body.isNone=AD){xs:List Value}{w:World}{R:Ending->World->Prop}(h:Does PR f xs w R):Calls PR f xs.toArray w R:=by
 have:(callFunc f xs.toArray).run PR w=.ok (.enter f xs.toArray) w:=by
  unfold callFunc;have hn':¬fn.name= "runtime.NumGoroutine":=by simpa using hn
  have hb':¬fn.body=AB:=λh=>by rw[h]at hb;cases hb
  simp[hf,hn',hb']
 unfold Does at h;rw[this]at h;exact h
theorem bw{f:Nat}{fn:Func}{sp:D5}(hS:D9 PR B0 f sp)(hf:PR.funcs[f]?=AA fn)(hn:(fn.name== "runtime.NumGoroutine")=AD)(hb:fn.body.isNone=AD){vs:List V}{xs:List Value}{W:World}
  (hsp:(sp vs).get=AA (.bool AC,[])) (hbor:FX vs=AB) (hG:Glob B0 W) (hV:VRels γ0 [] W O0 (vs.map EW) xs):
  Calls PR f xs.toArray W λe w'=>e=.returned (.bool AC)/\Below W.heap.size W w':=by
 refine bv hf hn hb ?_;have em:I8 vs=[]:=by unfold I8;rw[hbor]
 refine Does.mono (hS W X0 γ0 vs xs (.bool AC) [] hsp hG (λb h=>h.elim) (by rw[em];exact Nb W) (by rw[em];exact hV)) ?_;rintro e w' ⟨x,rfl,γ',hR,hx,_⟩;simp only[MZ,EW,VRel]at hx;subst hx;exact⟨rfl,hR.keep.os,hR.keep.tape,hR.keep.output,hR.keep.size,λb hb=>hR.keep.block b hb (λh=>h)⟩
end Go.FM
