/-
  A small machine that reckons what a call comes to; the functions of the program, one by one. (NORMAL FORMS: what the functions' runs come to (written by a, NORMAL FORMS: what the functions' runs come to (written by a, copsekeep's FUNCTIONS COME TO WHAT IS SAID (1): picks, nodes, and so on.)
-/
import Derived.Test.YtihliihljmfhlaaGreatDb
set_option linter.all false
set_option maxRecDepth 100000
open Array renaming getElem?_toList→vaw,getElem?_eq_some_iff→vaY
open BitVec renaming ofInt→AU,toNat→B1
open Bool renaming and_eq_true→AG,not_true→BB,and_self→BK,true_and→BL,not_eq_true'→BO,not_false→BX,false_and→B5,or_eq_false_iff→CM,and_true→vay,and_false→vaM,eq_iff_iff→va5
open Go.Addr.mk renaming injEq→CP
open Go.IntKind renaming wrap→AA,i64→AC,u64→AI,bits→AK
open Go.Lib renaming compactUpTo→vbj
open Go.ResultVar renaming tmp→BH,cell→vbe
open Go.Sort renaming ahead→vbs
open Go.Value renaming ownBlock→CA
open Go.Value.slice renaming injEq→B4
open Int renaming toNat→AD,toNat_natCast→A0,fdiv→CH,le_refl→CQ
open List renaming length→AF,getD→AH,length_cons→AP,mem_append→AQ,mem_cons_self→AR,length_append→AS,mem_cons→AT,getElem?_eq_getElem→AV,mem_cons_of_mem→AW,take→AY,map_cons→A2,getElem?_eq_some_iff→A5,length_take→A7,drop_eq_getElem_cons→BD,getElem?_cons_zero→BE,getElem?_eq_none→BF,take_length→BG,mem_singleton→BJ,getD_eq_getElem?_getD→BY,length_nil→BZ,getElem?_map→B6,drop→CB,getElem?_cons_succ→CD,drop_zero→CG,drop_length→CI,getElem?_take→CJ,length_map→CL,length_singleton→CT,length_drop→vab,all_eq_true→vah,replicate→vak,cons_append→vap,flatMap_cons→vas,getElem_mem→vaA,length_set→vaF,filter_cons→vaU,nil_append→vaX,getElem?_set_ne→va2,map→va3,append_nil→va8,range'→vbb,append_assoc→vbf,getElem?_append_right→vbk,pairwise_cons→vbq,eraseIdx_eq_take_drop_succ→vbx
open List.Perm renaming refl→vbw
open Nat renaming le_of_ble_eq_true→AL,le_refl→AO,zero_add→A3,beq→A4,blt→A8,ble→BM,ble_eq_true_of_le→BW,zero_le→B7,lt_of_lt_of_le→CC,le_trans→CR,lt_or_ge→vae,min_eq_left→vaz,add_assoc→vaD,pow_le_pow_right→va0,beq_refl→vbd
open Option.some renaming injEq→AB,inj→B3
namespace Go.FM
open Go Go.Proofs
def vO (N:Nat):Env:=DJ [] [] 15 N
theorem Hp (N:Nat) (l:LI) (i:Int):DE (vO N) jO [.tmp 4] [[.z]] [.list false [.z] l,.i i]=(cond (ic (AF l)==0) (some ((.i 0),[])) (cond (decide (ic (AF l)=0)) none (cond (decide (0≤Int.tmod i (ic (AF l)))&&decide (Int.tmod i (ic (AF l)) < ic (AF l))) (some ((.i (IV.toInt (AH l (AD (Int.tmod i (ic (AF l)))) default))),[])) none))):=by kernel_rfl
def vT (N:Nat):Env:=DJ [] [] 27 N
theorem Hy (N:Nat) (n w:Int):DE (vT N) jT [.tmp 4] [[.bool]] [.i n,.i w]=(cond (decide (w < 1)) (some ((.bool false),[])) (cond (decide (w > 64)) (some ((.bool false),[])) (cond (w==64) (some ((.bool true),[])) (cond (decide (AA AC (w - 1) < 0)) none (cond (decide (n≥AA AC (0 - AA AC (1*2 ^ min (AD (AA AC (w - 1))) (AK AC))))) (some ((.bool (decide (n≤AA AC (AA AC (1*2 ^ min (AD (AA AC (w - 1))) (AK AC)) - 1)))),[])) (some ((.bool false),[]))))))):=by kernel_rfl
def vW (N:Nat):Env:=DJ [(42,NH)] [] 66 N
theorem Id (N:Nat) (u01:Bool) (u04 u00 n_At u02 u03:Int):DE (vW N) jW [.tmp 2] [[.bool]] [.agg [.bool u01,.i u04,.i u00,.i n_At,.i u02,.i u03]]=(cond u01 (cond (DZ u04) (cond (u00==0) (cond (n_At==0) (cond (u02==0) (some ((.bool (u03==0)),[])) (some ((.bool false),[]))) (some ((.bool false),[]))) (some ((.bool false),[]))) (some ((.bool false),[]))) (cond (u04==0) (cond (decide (u00≥0)) (cond (decide (u00 < 4)) (cond (DZ n_At) (cond (decide (u02≥1)) (cond (decide (u02 < 31)) (cond (decide (u03≥1)) (some ((.bool (decide (u03 < 31))),[])) (some ((.bool false),[]))) (some ((.bool false),[]))) (some ((.bool false),[]))) (some ((.bool false),[]))) (some ((.bool false),[]))) (some ((.bool false),[]))) (some ((.bool false),[])))):=by kernel_rfl
def vV (N:Nat):Env:=DJ [(66,P4)] [] 32 N
theorem Ib (N:Nat) (u01:Bool) (u04 u00 n_At u02 u03:Int):DE (vV N) jV [.tmp 2] [[.int .u64]] [.agg [.bool u01,.i u04,.i u00,.i n_At,.i u02,.i u03]]=(cond (!MC u01 u04 u00 n_At u02 u03) (some ((.int .u64 0),[])) (cond u01 (some ((.int .u64 (AA AI (ic (B1 (AU (AK AI) 9223372036854775808 ||| AU (AK AI) (AA AI (ic (B1 (AU (AK AI) (AA AI u04) &&& AU (AK AI) 4294967295))))))))),[])) (some ((.int .u64 (AA AI (ic (B1 (AU (AK AI) (AA AI (ic (B1 (AU (AK AI) (AA AI (ic (B1 (AU (AK AI) (AA AI (ic (B1 (AU (AK AI) (AA AI n_At) &&& AU (AK AI) 4294967295)))) ||| AU (AK AI) (AA AI (AA AI u00*2 ^ min (AD 32) (AK AI))))))) ||| AU (AK AI) (AA AI (AA AI u02*2 ^ min (AD 40) (AK AI))))))) ||| AU (AK AI) (AA AI (AA AI u03*2 ^ min (AD 48) (AK AI)))))))),[])))):=by kernel_rfl
def NB (N:Nat):Env:=DJ [(7,KF),(18,NG)] [(3,⟨[1,4,5,9,10],[4,5],[]⟩)] 32 N
abbrev M9 (l1:LI) (x9 x10 u00 u01 u02 u03 u04 u05 u06 u07 u08 u09 u0a u0b u0c u0d u0e u0f u0g u0h u0i u0j:Int):St:=⟨[(1,(.list false [.z] l1)),(4,(.ptr 4 0 0)),(5,(.ptr 5 0 0)),(9,(.i x9)),(10,(.i x10))],[(4,(some (.box [.i u00,.i u01,.i u02,.i u03,.i u04,.i u05,.i u06,.i u07,.i u08,.i u09]))),(5,(some (.box [.i u0a,.i u0b,.i u0c,.i u0d,.i u0e,.i u0f,.i u0g,.i u0h,.i u0i,.i u0j])))]⟩
theorem Hl (N:Nat) (u04 u03 u00 u01 u02:Int) (u05 l:LI):DE (NB N) OQ [.cell 4 31] [[.z,.z,.z,.z,.z,.z,.z,.z,.z,.z]] [.agg [.i u04,.i u03,.i u00,.i u01,.i u02,.list true [.z,.list false [.int .u64]] u05],.list false [.z] l]=(DC (NB N) (CX OQ [1,1,0,1,0,0]) ⟨[1,4,5,9,10],[4,5],[]⟩ N (M9 l u04 0 0 0 0 0 0 0 0 0 0 0 0 0 0 0 0 0 0 0 0 0) (C4 0 (C5 (NB N) (CX OQ [1,1,1]) (C8 (NB N) none [.cell 4 31] [[.z,.z,.z,.z,.z,.z,.z,.z,.z,.z]])))):=by kernel_rfl
theorem tE (N:Nat) (l1:LI) (x9 x10 u00 u01 u02 u03 u04 u05 u06 u07 u08 u09 u0a u0b u0c u0d u0e u0f u0g u0h u0i u0j:Int) (again:St→C0) (k:Out→St→C0):EK (NB N) (CX OQ [1,1,0,1,0,0]) (M9 l1 x9 x10 u00 u01 u02 u03 u04 u05 u06 u07 u08 u09 u0a u0b u0c u0d u0e u0f u0g u0h u0i u0j) (EF again ⟨[1,4,5,9,10],[4,5],[]⟩ k)=(cond (decide (x10 < x9)) (cond (decide (0≤AA AC (2*x10))) (cond (decide (0≤AA AC (AA AC (2*x10)+1))) (cond (decide (x10=ic 0)) (again (M9 l1 x9 (AA AC (x10+1)) u00 u01 u02 u03 u04 u05 u06 u07 u08 u09 (C2 (DS l1 (AA AC (2*x10))) (-2) 9) (AA AC (C2 (DS l1 (AA AC (2*x10))) (-2) 9+C2 (DS l1 (AA AC (AA AC (2*x10)+1))) 0 11)) u0c u0d u0e u0f u0g u0h u0i u0j)) (cond (decide (x10=ic 1)) (again (M9 l1 x9 (AA AC (x10+1)) u00 u01 u02 u03 u04 u05 u06 u07 u08 u09 u0a u0b (C2 (DS l1 (AA AC (2*x10))) (-2) 9) (AA AC (C2 (DS l1 (AA AC (2*x10))) (-2) 9+C2 (DS l1 (AA AC (AA AC (2*x10)+1))) 0 11)) u0e u0f u0g u0h u0i u0j)) (cond (decide (x10=ic 2)) (again (M9 l1 x9 (AA AC (x10+1)) u00 u01 u02 u03 u04 u05 u06 u07 u08 u09 u0a u0b u0c u0d (C2 (DS l1 (AA AC (2*x10))) (-2) 9) (AA AC (C2 (DS l1 (AA AC (2*x10))) (-2) 9+C2 (DS l1 (AA AC (AA AC (2*x10)+1))) 0 11)) u0g u0h u0i u0j)) (cond (decide (x10=ic 3)) (again (M9 l1 x9 (AA AC (x10+1)) u00 u01 u02 u03 u04 u05 u06 u07 u08 u09 u0a u0b u0c u0d u0e u0f (C2 (DS l1 (AA AC (2*x10))) (-2) 9) (AA AC (C2 (DS l1 (AA AC (2*x10))) (-2) 9+C2 (DS l1 (AA AC (AA AC (2*x10)+1))) 0 11)) u0i u0j)) (cond (decide (x10=ic 4)) (again (M9 l1 x9 (AA AC (x10+1)) u00 u01 u02 u03 u04 u05 u06 u07 u08 u09 u0a u0b u0c u0d u0e u0f u0g u0h (C2 (DS l1 (AA AC (2*x10))) (-2) 9) (AA AC (C2 (DS l1 (AA AC (2*x10))) (-2) 9+C2 (DS l1 (AA AC (AA AC (2*x10)+1))) 0 11)))) none))))) none) none) (k (.exit 0) (M9 l1 x9 x10 u00 u01 u02 u03 u04 u05 u06 u07 u08 u09 u0a u0b u0c u0d u0e u0f u0g u0h u0i u0j))):=by kernel_rfl
theorem zQ (N:Nat) (l1:LI) (x9 x10 u00 u01 u02 u03 u04 u05 u06 u07 u08 u09 u0a u0b u0c u0d u0e u0f u0g u0h u0i u0j:Int):(C4 0 (C5 (NB N) (CX OQ [1,1,1]) (C8 (NB N) none [.cell 4 31] [[.z,.z,.z,.z,.z,.z,.z,.z,.z,.z]]))) (.exit 0) (M9 l1 x9 x10 u00 u01 u02 u03 u04 u05 u06 u07 u08 u09 u0a u0b u0c u0d u0e u0f u0g u0h u0i u0j)=(some ((.agg [.i u0a,.i u0b,.i u0c,.i u0d,.i u0e,.i u0f,.i u0g,.i u0h,.i u0i,.i u0j]),[])):=by kernel_rfl
open Go Go.Proofs
def vL (N:Nat):Env:=DJ [(7,KF),(20,TG)] [] 58 N
theorem Hj (N:Nat) (u04 u01 a_Lo u05 u03 u00:Int) (u02:Bool) (u06:LI) (u0b u0a u07 u08 u09:Int) (u0c:LI):DE (vL N) jL [.cell 4 33] [[.z,.z,.z,.z,.z,.z,.z,.z,.z,.z,.z,.z,.z,.z,.z,.bool,.z]] [.agg [.i u04,.i u01,.i a_Lo,.i u05,.i u03,.i u00,.bool u02,.list false [.z] u06],.agg [.i u0b,.i u0a,.i u07,.i u08,.i u09,.list true [.z,.list false [.int .u64]] u0c]]=(cond (decide (IO 0 (AA AC (u0a - 1))=0)) none (cond (decide (0≤u0b)&&decide (u0b≤4)) (cond (C2 u04 1 3==2) (cond (decide (u0a < 2)) (some ((.agg [.i 1,.i (C2 u01 0 (AA AC (u0a - 1))),.i (ET u0b u06 0),.i (EU u0b u06 0),.i (ET u0b u06 1),.i (EU u0b u06 1),.i (ET u0b u06 2),.i (EU u0b u06 2),.i (ET u0b u06 3),.i (EU u0b u06 3),.i 0,.i 0,.i (C2 a_Lo (-9000) 9000),.i (AA AC (C2 a_Lo (-9000) 9000+C2 u05 0 18000)),.i 0,.bool false,.i (C2 u00 0 65536)]),[])) (cond (C2 u04 1 3==1) (some ((.agg [.i (C2 u04 1 3),.i (C2 u01 0 (AA AC (u0a - 1))),.i (ET u0b u06 0),.i (EU u0b u06 0),.i (ET u0b u06 1),.i (EU u0b u06 1),.i (ET u0b u06 2),.i (EU u0b u06 2),.i (ET u0b u06 3),.i (EU u0b u06 3),.i 0,.i 0,.i (C2 a_Lo (-9000) 9000),.i (AA AC (C2 a_Lo (-9000) 9000+C2 u05 0 18000)),.i 0,.bool false,.i (C2 u00 0 65536)]),[])) (some ((.agg [.i (C2 u04 1 3),.i (C2 u01 0 (AA AC (u0a - 1))),.i (ET u0b u06 0),.i (EU u0b u06 0),.i (ET u0b u06 1),.i (EU u0b u06 1),.i (ET u0b u06 2),.i (EU u0b u06 2),.i (ET u0b u06 3),.i (EU u0b u06 3),.i 0,.i 0,.i 0,.i 0,.i 0,.bool false,.i (C2 u00 0 65536)]),[])))) (cond (C2 u04 1 3==3) (cond (decide (IO 0 (AA AC (u0b - 1))=0)) none (cond (C2 u04 1 3==1) (some ((.agg [.i (C2 u04 1 3),.i (C2 u01 0 (AA AC (u0a - 1))),.i (ET u0b u06 0),.i (EU u0b u06 0),.i (ET u0b u06 1),.i (EU u0b u06 1),.i (ET u0b u06 2),.i (EU u0b u06 2),.i (ET u0b u06 3),.i (EU u0b u06 3),.i 0,.i 0,.i (C2 a_Lo (-9000) 9000),.i (AA AC (C2 a_Lo (-9000) 9000+C2 u05 0 18000)),.i (C2 u03 0 (AA AC (u0b - 1))),.bool u02,.i (C2 u00 0 65536)]),[])) (some ((.agg [.i (C2 u04 1 3),.i (C2 u01 0 (AA AC (u0a - 1))),.i (ET u0b u06 0),.i (EU u0b u06 0),.i (ET u0b u06 1),.i (EU u0b u06 1),.i (ET u0b u06 2),.i (EU u0b u06 2),.i (ET u0b u06 3),.i (EU u0b u06 3),.i 0,.i 0,.i 0,.i 0,.i (C2 u03 0 (AA AC (u0b - 1))),.bool u02,.i (C2 u00 0 65536)]),[])))) (cond (C2 u04 1 3==1) (some ((.agg [.i (C2 u04 1 3),.i (C2 u01 0 (AA AC (u0a - 1))),.i (ET u0b u06 0),.i (EU u0b u06 0),.i (ET u0b u06 1),.i (EU u0b u06 1),.i (ET u0b u06 2),.i (EU u0b u06 2),.i (ET u0b u06 3),.i (EU u0b u06 3),.i 0,.i 0,.i (C2 a_Lo (-9000) 9000),.i (AA AC (C2 a_Lo (-9000) 9000+C2 u05 0 18000)),.i 0,.bool false,.i (C2 u00 0 65536)]),[])) (some ((.agg [.i (C2 u04 1 3),.i (C2 u01 0 (AA AC (u0a - 1))),.i (ET u0b u06 0),.i (EU u0b u06 0),.i (ET u0b u06 1),.i (EU u0b u06 1),.i (ET u0b u06 2),.i (EU u0b u06 2),.i (ET u0b u06 3),.i (EU u0b u06 3),.i 0,.i 0,.i 0,.i 0,.i 0,.bool false,.i (C2 u00 0 65536)]),[]))))) none)):=by kernel_rfl
open Go Go.Proofs
theorem gB:DD PR B0 18 NG:=by
 refine DK [] [] NG [[.z]] Tryz.func18 Cs trivial ?_;intro vs r hwf h;unfold NG at h;split at h
 ·rename_i l i;cases hc:decide (0≤i) with
  | false=>rw [hc] at h; simp [R.get] at h
  | true=>
   rw [hc,R.get_br,CU,R.get_ok] at h;have hc:=BC hc;refine ⟨0,?_⟩;rw [← h];refine (Hp 0 l i).trans ?_;unfold DS;cases h0:(ic (AF l)==0) with
   | true=>rfl
   | false=>
    rw [aV] at h0;have h0':=A1 h0;have hl:0 < (l.length:Int):=by simp only [ic] at h0'; omega
    have t0:=Int.tmod_nonneg (l.length:Int) hc;have t1:=Int.tmod_lt_of_pos i hl;rw [CV,h0,CV,AE (show 0≤Int.tmod i (ic (AF l)) from t0),AE (show Int.tmod i (ic (AF l)) < ic (AF l) from t1),vay,CU,CV]
 ·simp [R.get] at h
theorem gC:DD PR B0 42 NH:=by
 refine DK [] [] NH [[.bool]] Tryz.func42 Dd trivial ?_;intro vs r hwf h;unfold NH at h;split at h
 ·rename_i n w;cases hc:decide (w=32) with
  | false=>rw [hc] at h; simp [R.get] at h
  | true=>
   rw [hc,R.get_br,CU,R.get_ok] at h;have hc:=BC hc;subst hc;refine ⟨0,?_⟩;rw [← h];refine (Hy 0 n 32).trans ?_;have e1:AA AC (0 - AA AC (1*2 ^ min (AD (AA AC ((32:Int) - 1))) (AK AC))) = -2147483648:=by kernel_rfl
   have e2:AA AC (AA AC (1*2 ^ min (AD (AA AC ((32:Int) - 1))) (AK AC)) - 1)=2147483647:=by kernel_rfl
   have e3:decide (AA AC ((32:Int) - 1) < 0)=false:=by kernel_rfl
   rw [e1,e2,e3];unfold DZ;have e4:decide (n ≥ -2147483648)=decide (-2147483648≤n):=rfl;rw [e4];cases decide (-2147483648≤n) <;> rfl
 ·simp [R.get] at h
theorem lP (a b:Bool):cond a (some (V.bool b,[])) (some (V.bool false,[]))=(some (V.bool (a&&b),[]):C0):=by cases a <;> rfl
theorem sI:DD PR B0 66 P4:=by
 refine DK [(42,NH)] [] P4 [[.bool]] Tryz.func66 Di ⟨gC,trivial⟩ ?_;intro vs r hwf h;unfold P4 at h;split at h
 ·rename_i lf v f a l r';refine ⟨0,?_⟩;rw [← h];refine (Id 0 lf v f a l r').trans ?_;simp only [R.get_ok,lP];unfold MC;cases lf with
  | true=>rfl
  | false=>rfl
 ·simp [R.get] at h
theorem gD:DD PR B0 40 NI:=by
 refine DK [(66,P4)] [] NI [[.int .u64]] Tryz.func40 Dg ⟨sI,trivial⟩ ?_;intro vs r hwf h;unfold NI at h;split at h
 ·rename_i lf v f a l r';refine ⟨0,?_⟩;rw [← h];refine (Ib 0 lf v f a l r').trans ?_;unfold FB;cases MC lf v f a l r' with
  | false=>rfl
  | true=>cases lf <;> rfl
 ·simp [R.get] at h
def I3 (l:LI) (j:Int):Int:=C2 (DS l (2*j)) (-2) 9
def IJ (l:LI) (j:Int):Int:=C2 (DS l (2*j)) (-2) 9+C2 (DS l (2*j+1)) 0 11
def Nh (l:LI) (i:Nat):List V:=[.int .i64 (cond (A8 0 i) (I3 l 0) 0),.int .i64 (cond (A8 0 i) (IJ l 0) 0),.int .i64 (cond (A8 1 i) (I3 l 1) 0),.int .i64 (cond (A8 1 i) (IJ l 1) 0),.int .i64 (cond (A8 2 i) (I3 l 2) 0),.int .i64 (cond (A8 2 i) (IJ l 2) 0),.int .i64 (cond (A8 3 i) (I3 l 3) 0),.int .i64 (cond (A8 3 i) (IJ l 3) 0),.int .i64 0,.int .i64 0]
abbrev ZX (l:LI) (D:Int) (i:Nat) (x:Int):St:=⟨[(1,(.list false [.z] l)),(4,(.ptr 4 0 0)),(5,(.ptr 5 0 0)),(9,(.int .i64 D)),(10,(.int .i64 x))],[(4,(some (.box [(.int .i64 0),(.int .i64 0),(.int .i64 0),(.int .i64 0),(.int .i64 0),(.int .i64 0),(.int .i64 0),(.int .i64 0),(.int .i64 0),(.int .i64 0)]))),(5,(some (.box (Nh l i))))]⟩
theorem Ry (l:LI) (j:Int):AA AC (C2 (DS l (2*j)) (-2) 9+C2 (DS l (2*j+1)) 0 11)=IJ l j:=by
 obtain ⟨_,a1,a2⟩:=H1 (n:=DS l (2*j)) (lo := -2) (hi:=9) (by omega) (by omega) (by omega);obtain ⟨_,b1,b2⟩:=H1 (n:=DS l (2*j+1)) (lo:=0) (hi:=11) (by omega) (by omega) (by omega);exact DX (by omega) (by omega)
theorem Nf (N:Nat) (l:LI) (D:Int) (i:Nat) (hi:(i:Int) < D) (h4:i < 4) (again:St→C0) (k:Out→St→C0) :
  EK (NB N) (CX OQ [1,1,0,1,0,0]) (ZX l D i (i:Int)) (EF again ⟨[1,4,5,9,10],[4,5],[]⟩ k)=again (ZX l D (i+1) ((i+1:Nat):Int)):=by
 refine (tE N l D i 0 0 0 0 0 0 0 0 0 0 (cond (A8 0 i) (I3 l 0) 0) (cond (A8 0 i) (IJ l 0) 0) (cond (A8 1 i) (I3 l 1) 0) (cond (A8 1 i) (IJ l 1) 0) (cond (A8 2 i) (I3 l 2) 0) (cond (A8 2 i) (IJ l 2) 0) (cond (A8 3 i) (I3 l 3) 0) (cond (A8 3 i) (IJ l 3) 0) 0 0 again k).trans ?_;have w2:AA AC (2*(i:Int))=2*(i:Int):=DX (by omega) (by omega);have w3:AA AC (2*(i:Int)+1)=2*(i:Int)+1:=DX (by omega) (by omega);rw [AE hi,CU,w2,w3,AE (show 0≤2*(i:Int) by omega),CU,AE (show 0≤2*(i:Int)+1 by omega),CU,Ry];have hi4:i=0∨i=1∨i=2∨i=3:=by omega
 rcases hi4 with rfl | rfl | rfl | rfl
 ·rw [show decide (((0:Nat):Int)=ic 0)=true from rfl,CU];rfl
 ·rw [show decide (((1:Nat):Int)=ic 0)=false from rfl,show decide (((1:Nat):Int)=ic 1)=true from rfl,CV,CU];rfl
 ·rw [show decide (((2:Nat):Int)=ic 0)=false from rfl,show decide (((2:Nat):Int)=ic 1)=false from rfl,show decide (((2:Nat):Int)=ic 2)=true from rfl,CV,CV,CU];rfl
 ·rw [show decide (((3:Nat):Int)=ic 0)=false from rfl,show decide (((3:Nat):Int)=ic 1)=false from rfl,show decide (((3:Nat):Int)=ic 2)=false from rfl,show decide (((3:Nat):Int)=ic 3)=true from rfl,CV,CV,CV,CU];rfl
theorem q5 (N:Nat) (l:LI) (D:Nat) (hD:D≤4) (K:Out→St→C0):∀ (d i n:Nat),i+d=D→d < n →
  DC (NB N) (CX OQ [1,1,0,1,0,0]) ⟨[1,4,5,9,10],[4,5],[]⟩ n (ZX l D i (i:Int)) K=K (.exit 0) (ZX l D D (D:Int))
 | 0,i,n+1,hd,hn=>by
  have hi:i=D:=by omega
  subst hi;rw [DI];refine (tE N l _ _ 0 0 0 0 0 0 0 0 0 0 (cond (A8 0 i) (I3 l 0) 0) (cond (A8 0 i) (IJ l 0) 0) (cond (A8 1 i) (I3 l 1) 0) (cond (A8 1 i) (IJ l 1) 0) (cond (A8 2 i) (I3 l 2) 0) (cond (A8 2 i) (IJ l 2) 0) (cond (A8 3 i) (I3 l 3) 0) (cond (A8 3 i) (IJ l 3) 0) 0 0 _ _).trans ?_;rw [AJ (show ¬ (i:Int) < (i:Int) by omega),CV];rfl
 | d+1,i,n+1,hd,hn=>by
  rw [DI,Nf N l D i (by omega) (by omega)];exact q5 N l D hD K d (i+1) n (by omega) (by omega)
 | _,_,0,_,h=>by omega
theorem Pc:DD PR B0 20 TG:=by
 refine DK [(7,KF),(18,NG)] [(3,⟨[1,4,5,9,10],[4,5],[]⟩)] TG [[.z,.z,.z,.z,.z,.z,.z,.z,.z,.z]] Tryz.func20 Co
  ⟨WK,gB,trivial⟩ ?_
 intro vs r hwf h;unfold TG at h;split at h
 ·rename_i d c b0 b1 b2 ts l;cases hc:(decide (0≤d)&&decide (d≤4)) with
  | false=>rw [hc] at h; simp [R.get] at h
  | true=>
   rw [hc,R.get_br,CU,R.get_ok] at h;simp only [AG,AN] at hc;refine ⟨10,?_⟩;rw [← h];refine (Hl 10 d c b0 b1 b2 ts l).trans ?_;obtain ⟨D,rfl⟩:∃ D:Nat,d=D:=⟨d.toNat,by omega⟩;refine (q5 10 l D (by omega) _ D 0 10 (by omega) (by omega)).trans ?_;refine (zQ 10 l D D 0 0 0 0 0 0 0 0 0 0 (cond (A8 0 D) (I3 l 0) 0) (cond (A8 0 D) (IJ l 0) 0) (cond (A8 1 D) (I3 l 1) 0) (cond (A8 1 D) (IJ l 1) 0) (cond (A8 2 D) (I3 l 2) 0) (cond (A8 2 D) (IJ l 2) 0) (cond (A8 3 D) (I3 l 3) 0) (cond (A8 3 D) (IJ l 3) 0) 0 0).trans ?_;have hD:D=0∨D=1∨D=2∨D=3∨D=4:=by omega
   rcases hD with rfl | rfl | rfl | rfl | rfl <;> rfl
 ·simp [R.get] at h
theorem Pa:DD PR B0 6 W2:=by
 refine DK [(7,KF),(20,TG)] [] W2 [[.z,.z,.z,.z,.z,.z,.z,.z,.z,.z,.z,.z,.z,.z,.z,.bool,.z]] Tryz.func6 Cm
  ⟨WK,Pc,trivial⟩ ?_
 intro vs r hwf h;unfold W2 at h;split at h
 ·rename_i k c lo size ft bu fl sp dim cls b0 b1 b2 ts;cases hc:((decide (1≤dim)&&decide (dim≤4))&&(decide (1≤cls)&&decide (cls≤3))) with
  | false=>rw [hc] at h; simp [R.get] at h
  | true=>
   rw [hc,R.get_br,CU,R.get_ok] at h;simp only [AG,AN] at hc;obtain ⟨⟨d1,d4⟩,c1,c3⟩:=hc;refine ⟨0,?_⟩;rw [← h];refine (Hj 0 k c lo size ft bu fl sp dim cls b0 b1 b2 ts).trans ?_;have w1:AA AC (cls - 1)=cls - 1:=DX (by omega) (by omega);have w2:AA AC (dim - 1)=dim - 1:=DX (by omega) (by omega);obtain ⟨m1,_,_⟩:=H1 (n:=c) (lo:=0) (hi:=cls - 1) (by omega) (by omega) (by omega);obtain ⟨m2,_,_⟩:=H1 (n:=ft) (lo:=0) (hi:=dim - 1) (by omega) (by omega) (by omega);obtain ⟨_,l1,l2⟩:=H1 (n:=lo) (lo := -9000) (hi:=9000) (by omega) (by omega) (by omega);obtain ⟨_,s1,s2⟩:=H1 (n:=size) (lo:=0) (hi:=18000) (by omega) (by omega) (by omega);have w3:AA AC (C2 lo (-9000) 9000+C2 size 0 18000)=C2 lo (-9000) 9000+C2 size 0 18000:=DX (by omega) (by omega);rw [w1,w2,w3,m1,m2,AJ (show ¬ (cls - 1 - 0+1=0) by omega),AJ (show ¬ (dim - 1 - 0+1=0) by omega),AE (show 0≤dim by omega),AE (show dim≤4 by omega)];unfold HZ GG L5;obtain ⟨_,k1,k2⟩:=H1 (n:=k) (lo:=1) (hi:=3) (by omega) (by omega) (by omega);generalize C2 k 1 3=K at k1 k2;have hK:K=1∨K=2∨K=3:=by omega
   simp only;generalize decide (cls < 2)=cl;rcases hK with rfl | rfl | rfl <;> cases cl <;> rfl
 ·simp [R.get] at h
open Go
def ND:DB
 | [.int .i64 n,.int .i64 w]=>.br (decide (w=32)) (.ok (.bool (DZ n)) []) .no
 | _=>.no
def P0:DB
 | [.int .i64 a,.int .i64 w]=>.br (decide (0≤a)&&decide (a < 64)) (.ok (.bool (decide (1≤w)&&decide (w≤64 - a))) []) .no
 | _=>.no
def KS (w:Int):Int:=(18446744073709551615:Int).fdiv (2 ^ (64 - w).toNat)
def P1:DB
 | [.int .i64 w]=>.br (decide (1≤w)&&decide (w≤64)) (.ok (.int .u64 (KS w)) []) .no
 | _=>.no
def UY (a b:Int):Int:=FE (ic (B1 (AU (AK AI) a &&& ~~~ (AU (AK AI) b))))
def HY (x a w y:Int):Int:=Q2 (UY x (J8 (KS w) a.toNat)) (EP (J8 y a.toNat) (J8 (KS w) a.toNat))
def E1 (x a w:Int):Int:=EP (x.fdiv (2 ^ a.toNat)) (KS w)
def S8:DB
 | [.int .u64 x,.int .i64 a,.int .i64 w,.int .u64 y]=>.br (decide (0≤a)&&(decide (a < 64)&&(decide (1≤w)&&decide (w≤64 - a)))) (.ok (.int .u64 (HY x a w y)) []) .no
 | _=>.no
def NE:DB
 | [.int .u64 x,.int .i64 a,.int .i64 w]=>.br (decide (0≤a)&&(decide (a < 64)&&(decide (1≤w)&&decide (w≤64 - a)))) (.ok (.int .u64 (E1 x a w)) []) .no
 | _=>.no
def HE (n:Int):Int:=(C6 (n*2 ^ 32)).fdiv (2 ^ 32)
def TA:DB
 | [.int .i64 n,.int .i64 w]=>.br (decide (w=32)) (.ok (.int .i64 (HE n)) []) .no
 | _=>.no
def IL (x:Int):Int:=HE (C6 (E1 x 0 32))
def S9:DB
 | [.int .u64 x,.int .i64 a,.int .i64 w]=>.br (decide (a=0)&&decide (w=32)) (.ok (.int .i64 (IL x)) []) .no
 | _=>.no
structure Nd where
 lf:Bool
 v:Int
 f:Int
 a:Int
 l:Int
 r:Int
def Nd.eq (x y:Nd):Bool:=(x.lf==y.lf)&&((x.v==y.v)&&((x.f==y.f)&&((x.a==y.a)&&((x.l==y.l)&&((x.r==y.r)&&true)))))
def Nd.zero:Nd:=⟨false,0,0,0,0,0⟩
def LX (n:Int):Bool:=decide (1≤n)&&decide (n < 31)
def UF:DB
 | [.int .i64 n]=>.ok (.bool (LX n)) []
 | _=>.no
def GZ (x:Nd):Bool:=
 cond x.lf (x.eq ⟨true,x.v,0,0,0,0⟩&&DZ x.v)
  ((x.v==0)&&(decide (0≤x.f)&&(decide (x.f < 4)&&(DZ x.a&&(LX x.l&&LX x.r)))))
def UD:DB
 | [.agg [.bool lf,.int .i64 v,.int .i64 f,.int .i64 a,.int .i64 l,.int .i64 r]]=>.ok (.bool (GZ ⟨lf,v,f,a,l,r⟩)) []
 | _=>.no
def GM (x:Nd):Int:=
 cond (GZ x)
  (cond x.lf (HY 9223372036854775808 0 32 (FE x.v))
   (HY (HY (HY (HY 0 0 32 (FE x.a)) 32 4 (FE x.f)) 40 8 (FE x.l)) 48 8 (FE x.r)))
  0
def UC:DB
 | [.agg [.bool lf,.int .i64 v,.int .i64 f,.int .i64 a,.int .i64 l,.int .i64 r]]=>.ok (.int .u64 (GM ⟨lf,v,f,a,l,r⟩)) []
 | _=>.no
def JM (w:Int):Nd:=
 cond (E1 w 63 1==0) ⟨false,0,C6 (E1 w 32 4),IL w,C6 (E1 w 40 8),C6 (E1 w 48 8)⟩ ⟨true,IL w,0,0,0,0⟩
def EQ (w:Int):Bool:=!(w==0)&&(GM (JM w)==w)
def CW (w:Int):Nd:=cond (EQ w) (JM w) Nd.zero
def LV:DB
 | [.int .u64 w]=>.ok (.tup [.agg [.bool (CW w).lf,.int .i64 (CW w).v,.int .i64 (CW w).f,.int .i64 (CW w).a,.int .i64 (CW w).l,.int .i64 (CW w).r],.bool (EQ w)]) []
 | _=>.no
def UE:DB
 | [.int .i64 a,.int .i64 w,.bor [.int .u64 x]]=>.br (decide (0≤a)&&(decide (a < 64)&&(decide (1≤w)&&decide (w≤64 - a)))) (.ok (.int .i64 (C6 (E1 x a w))) [[.int .u64 x]]) .no
 | _=>.no
def HM (x:Nd) (j:Nat):Nat:=cond x.lf 0 ((if x.l=(j:Int) then 1 else 0)+(if x.r=(j:Int) then 1 else 0))
def EY (l:LI) (j:Nat):Nat:=(l.map fun w=>HM (CW w.toInt) j).sum
def JV (dim n:Int) (i:Nat) (x:Nd):Bool:=
 cond x.lf true (!(decide (x.f≥dim))&&(!(x.l==x.r)&&(!(decide (min x.l x.r≤(i:Int)))&&!(decide (max x.l x.r≥n)))))
def HN (dim n:Int):Nat→LI→Bool
 | _,[]=>true
 | i,w :: r=>(EQ w.toInt&&JV dim n i (CW w.toInt))&&HN dim n (i+1) r
def O8 (l:LI):Bool:=(List.range (l.length - 1)).all fun j=>EY l (j+1)==1
def FQ (l:LI) (dim:Int):Bool:=(BM 1 l.length&&BM l.length 31)&&(HN dim (ic l.length) 0 l&&O8 l)
def QC:DB
 | [.list false [.int .u64] l,.int .i64 dim]=>.ok (.bool (FQ l dim)) []
 | _=>.no
structure Md where
 d:Int
 c:Int
 b0:Int
 b1:Int
 b2:Int
 ts:LI
def GN (d c:Int) (t:IV):Bool:=!(decide ((t.cell 0).toInt < 0))&&(!(decide ((t.cell 0).toInt≥c))&&FQ (t.cell 1).toList d)
def FR (c j b:Int):Bool:=DZ b&&!(decide (j≥c)&&!(b==0))
def DR (m:Md):Bool:=
 (!(decide (m.d < 1))&&(!(decide (m.d > 4))&&(!(decide (m.c < 1))&&(!(decide (m.c > 3))&&BM m.ts.length 8)))) &&
  ((FR m.c 0 m.b0&&(FR m.c 1 m.b1&&FR m.c 2 m.b2))&&m.ts.all (GN m.d m.c))
abbrev FA:List Kd:=[.z,.list false [.int .u64]]
def P6:DB
 | [.agg [.int .i64 k,.list false [.int .u64] l],.bor [.int .i64 d,.int .i64 c,.int .i64 b0,.int .i64 b1,.int .i64 b2,.list true [.z,.list false [.int .u64]] ts]]=>
  .ok (.bool (!(GN d c (.agg [.int k,.list l])))) [[.int .i64 d,.int .i64 c,.int .i64 b0,.int .i64 b1,.int .i64 b2,.list true FA ts]]
 | _=>.no
def QN (d c:Int):LI→Int→Int
 | [],_ => -1
 | t :: r,i=>cond (GN d c t) (QN d c r (i+1)) i
def UO:DB
 | [.list true [.z,.list false [.int .u64]] l,.clo 73 [.bor [.int .i64 d,.int .i64 c,.int .i64 b0,.int .i64 b1,.int .i64 b2,.list true [.z,.list false [.int .u64]] ts]]]=>
  .ok (.int .i64 (QN d c l 0)) [[.int .i64 d,.int .i64 c,.int .i64 b0,.int .i64 b1,.int .i64 b2,.list true FA ts]]
 | _=>.no
def UN:DB
 | [.list true [.z,.list false [.int .u64]] l,.clo 73 [.bor [.int .i64 d,.int .i64 c,.int .i64 b0,.int .i64 b1,.int .i64 b2,.list true [.z,.list false [.int .u64]] ts]]]=>
  .ok (.bool (!(l.all (GN d c)))) [[.int .i64 d,.int .i64 c,.int .i64 b0,.int .i64 b1,.int .i64 b2,.list true FA ts]]
 | _=>.no
def LU:DB
 | [.agg [.int .i64 d,.int .i64 c,.int .i64 b0,.int .i64 b1,.int .i64 b2,.list true [.z,.list false [.int .u64]] ts]]=>.ok (.bool (DR ⟨d,c,b0,b1,b2,ts⟩)) []
 | _=>.no
def Md.zero:Md:=⟨0,0,0,0,0,[]⟩
open Go Go.Proofs
def vB (N:Nat):Env:=DJ [] [] 25 N
theorem Gx (N:Nat) (n w:Int):DE (vB N) jB [.tmp 4] [[.bool]] [.i n,.i w]=(cond (decide (w < 1)) (some ((.bool false),[])) (cond (decide (w > 64)) (some ((.bool false),[])) (cond (decide (AA AI (AA AC (w - 1)) < 0)) none (cond (CH n (2 ^ min (AD (AA AI (AA AC (w - 1)))) (AK AC))==0) (some ((.bool true),[])) (cond (decide (AA AI (AA AC (w - 1)) < 0)) none (some ((.bool (CH n (2 ^ min (AD (AA AI (AA AC (w - 1)))) (AK AC)) == -1)),[]))))))):=by kernel_rfl
def vF (N:Nat):Env:=DJ [] [] 21 N
theorem Hb (N:Nat) (n w:Int):DE (vF N) jF [.tmp 4] [[.z]] [.i n,.i w]=(cond (decide (w < 1)) (some ((.i n),[])) (cond (decide (w≥64)) (some ((.i n),[])) (cond (decide (AA AI (AA AC (64 - w)) < 0)) none (cond (decide (AA AI (AA AC (64 - w)) < 0)) none (some ((.i (CH (AA AC (n*2 ^ min (AD (AA AI (AA AC (64 - w)))) (AK AC))) (2 ^ min (AD (AA AI (AA AC (64 - w)))) (AK AC)))),[])))))):=by kernel_rfl
def vG (N:Nat):Env:=DJ [] [] 21 N
theorem Hc (N:Nat) (atv w:Int):DE (vG N) jG [.tmp 4] [[.bool]] [.i atv,.i w]=(cond (decide (atv≥0)) (cond (decide (atv < 64)) (cond (decide (w≥1)) (some ((.bool (decide (w≤AA AC (64 - atv)))),[])) (some ((.bool false),[]))) (some ((.bool false),[]))) (some ((.bool false),[]))):=by kernel_rfl
def vH (N:Nat):Env:=DJ [] [] 7 N
theorem Hd (N:Nat) (w:Int):DE (vH N) jH [.tmp 2] [[.int .u64]] [.i w]=(cond (decide (AA AI (AA AC (64 - w)) < 0)) none (some ((.int .u64 (CH 18446744073709551615 (2 ^ min (AD (AA AI (AA AC (64 - w)))) (AK AI)))),[]))):=by kernel_rfl
def vD (N:Nat):Env:=DJ [(101,P0),(102,P1)] [] 30 N
theorem Gz (N:Nat) (x atv w y:Int):DE (vD N) jD [.tmp 8] [[.int .u64]] [.int .u64 x,.i atv,.i w,.int .u64 y]=(cond (decide (0≤atv)&&decide (atv < 64)) (cond (! (decide (1≤w)&&decide (w≤64 - atv))) (some ((.int .u64 x),[])) (cond (decide (1≤w)&&decide (w≤64)) (cond (decide (AA AI atv < 0)) none (cond (decide (AA AI atv < 0)) none (some ((.int .u64 (AA AI (ic (B1 (AU (AK AI) (AA AI (ic (B1 (AU (AK AI) x &&& ~~~AU (AK AI) (AA AI (KS w*2 ^ min (AD (AA AI atv)) (AK AI))))))) ||| AU (AK AI) (AA AI (ic (B1 (AU (AK AI) (AA AI (y*2 ^ min (AD (AA AI atv)) (AK AI))) &&& AU (AK AI) (AA AI (KS w*2 ^ min (AD (AA AI atv)) (AK AI)))))))))))),[])))) none)) none):=by kernel_rfl
def vC (N:Nat):Env:=DJ [(101,P0),(102,P1)] [] 18 N
theorem Gy (N:Nat) (x atv w:Int):DE (vC N) jC [.tmp 6] [[.int .u64]] [.int .u64 x,.i atv,.i w]=(cond (decide (0≤atv)&&decide (atv < 64)) (cond (! (decide (1≤w)&&decide (w≤64 - atv))) (some ((.int .u64 0),[])) (cond (decide (AA AI atv < 0)) none (cond (decide (1≤w)&&decide (w≤64)) (some ((.int .u64 (AA AI (ic (B1 (AU (AK AI) (CH x (2 ^ min (AD (AA AI atv)) (AK AI))) &&& AU (AK AI) (KS w)))))),[])) none))) none):=by kernel_rfl
def vE (N:Nat):Env:=DJ [(94,NE),(100,TA)] [] 14 N
theorem Ha (N:Nat) (x atv w:Int):DE (vE N) jE [.tmp 6] [[.z]] [.int .u64 x,.i atv,.i w]=(cond (decide (0≤atv)&&(decide (atv < 64)&&(decide (1≤w)&&decide (w≤64 - atv)))) (cond (decide (w=32)) (some ((.i (HE (AA AC (E1 x atv w)))),[])) none) none):=by kernel_rfl
def wI (N:Nat):Env:=DJ [] [] 9 N
theorem Jg (N:Nat) (n:Int):DE (wI N) kG [.tmp 2] [[.bool]] [.i n]=(cond (decide (n≥1)) (some ((.bool (decide (n < 31))),[])) (some ((.bool false),[]))):=by kernel_rfl
def wF (N:Nat):Env:=DJ [(71,ND),(116,UF)] [] 43 N
theorem Jd (N:Nat) (u01:Bool) (u04 u00 n_At u02 u03:Int):DE (wF N) kD [.tmp 2] [[.bool]] [.agg [.bool u01,.i u04,.i u00,.i n_At,.i u02,.i u03]]=(cond u01 (cond (u01==true&&(u04==u04&&(u00==0&&(n_At==0&&(u02==0&&(u03==0&&true)))))) (some ((.bool (DZ u04)),[])) (some ((.bool false),[]))) (cond (u04==0) (cond (decide (u00≥0)) (cond (decide (u00 < 4)) (cond (DZ n_At) (cond (LX u02) (some ((.bool (LX u03)),[])) (some ((.bool false),[]))) (some ((.bool false),[]))) (some ((.bool false),[]))) (some ((.bool false),[]))) (some ((.bool false),[])))):=by kernel_rfl
def wE (N:Nat):Env:=DJ [(104,S8),(103,UD)] [] 32 N
theorem Jc (N:Nat) (u01:Bool) (u04 u00 n_At u02 u03:Int):DE (wE N) kC [.tmp 2] [[.int .u64]] [.agg [.bool u01,.i u04,.i u00,.i n_At,.i u02,.i u03]]=(cond (!GZ {lf:=u01,v:=u04,f:=u00,a:=n_At,l:=u02,r:=u03}) (some ((.int .u64 0),[])) (cond u01 (some ((.int .u64 (HY 9223372036854775808 0 32 (AA AI u04))),[])) (some ((.int .u64 (HY (HY (HY (HY 0 0 32 (AA AI n_At)) 32 4 (AA AI u00)) 40 8 (AA AI u02)) 48 8 (AA AI u03))),[])))):=by kernel_rfl
def wH (N:Nat):Env:=DJ [(94,NE)] [] 11 N
theorem Jf (N:Nat) (a w x:Int):DE (wH N) kF [.tmp 5] [[.z]] [.i a,.i w,.bor [.int .u64 x]]=(cond (decide (0≤a)&&(decide (a < 64)&&(decide (1≤w)&&decide (w≤64 - a)))) (some ((.i (AA AC (E1 x a w))),[[.int .u64 x]])) none):=by kernel_rfl
def wG (N:Nat):Env:=DJ [(94,NE),(93,S9),(96,UC),(95,UE)] [] 33 N
theorem Je (N:Nat) (w:Int):DE (wG N) kE [.cell 2 89,.tmp 3] [[.bool,.z,.z,.z,.z,.z],[.bool]] [.int .u64 w]=(cond (E1 w 63 1==0) (cond (w==0) (some ((.tup [.agg [.bool false,.i 0,.i 0,.i 0,.i 0,.i 0],.bool false]),[])) (cond (GM {lf:=false,v:=0,f:=C6 (E1 w 32 4),a:=IL w,l:=C6 (E1 w 40 8),r:=C6 (E1 w 48 8)} != w) (some ((.tup [.agg [.bool false,.i 0,.i 0,.i 0,.i 0,.i 0],.bool false]),[])) (some ((.tup [.agg [.bool false,.i 0,.i (C6 (E1 w 32 4)),.i (IL w),.i (C6 (E1 w 40 8)),.i (C6 (E1 w 48 8))],.bool true]),[])))) (cond (w==0) (some ((.tup [.agg [.bool false,.i 0,.i 0,.i 0,.i 0,.i 0],.bool false]),[])) (cond (GM {lf:=true,v:=IL w,f:=0,a:=0,l:=0,r:=0} != w) (some ((.tup [.agg [.bool false,.i 0,.i 0,.i 0,.i 0,.i 0],.bool false]),[])) (some ((.tup [.agg [.bool true,.i (IL w),.i 0,.i 0,.i 0,.i 0],.bool true]),[]))))):=by kernel_rfl
open Go Go.Proofs
theorem gT {n:Int} (h0:0≤n) (h1:n < 18446744073709551616):AA AI n=n:=by
 rw [PJ];omega
theorem fZ:DD PR B0 71 ND:=by
 refine DK [] [] ND [[.bool]] Tryz.func71 Bv trivial ?_;intro vs r hwf h;unfold ND at h;split at h
 ·rename_i n w;cases hc:decide (w=32) with
  | false=>rw [hc] at h; simp [R.get] at h
  | true=>
   rw [hc,R.get_br,CU,R.get_ok] at h;have hc:=BC hc;subst hc;refine ⟨0,?_⟩;rw [← h];refine (Gx 0 n 32).trans ?_;have e3:decide (AA AI (AA AC ((32:Int) - 1)) < 0)=false:=by kernel_rfl
   have e4:(2:Int) ^ min (AD (AA AI (AA AC ((32:Int) - 1)))) (AK AC)=2147483648:=by kernel_rfl
   rw [e3,e4,AJ (show ¬ (32:Int) < 1 by omega),AJ (show ¬ (32:Int) > 64 by omega),CV,CV,CV,CV];have h0:=Int.fdiv_mul_add_fmod n 2147483648;have h1:=Int.fmod_nonneg_of_pos n (show (0:Int) < 2147483648 by omega);have h2:=Int.fmod_lt_of_pos n (show (0:Int) < 2147483648 by omega);generalize CH n 2147483648=q at h0 ⊢;generalize Int.fmod n 2147483648=m at h0 h1 h2;unfold DZ;rw [aV,aV];cases hq:decide (q=0) with
   | true=>
    have hq:=BC hq;rw [AE (show -2147483648≤n by omega),AE (show n≤2147483647 by omega)];rfl
   | false=>
    have hq:=A1 hq;cases hp:decide (q = -1) with
    | true=>
     have hp:=BC hp;rw [AE (show -2147483648≤n by omega),AE (show n≤2147483647 by omega)];rfl
    | false=>
     have hp:=A1 hp;rw [CV];congr 3
     symm
     rw [Bool.and_eq_false_iff,BI,BI];omega
 ·simp [R.get] at h
theorem Ov:DD PR B0 100 TA:=by
 refine DK [] [] TA [[.z]] Tryz.func100 Cb trivial ?_;intro vs r hwf h;unfold TA at h;split at h
 ·rename_i n w;cases hc:decide (w=32) with
  | false=>rw [hc] at h; simp [R.get] at h
  | true=>
   rw [hc,R.get_br,CU,R.get_ok] at h;have hc:=BC hc;subst hc;refine ⟨0,?_⟩;rw [← h];refine (Hb 0 n 32).trans ?_;have e3:decide (AA AI (AA AC ((64:Int) - 32)) < 0)=false:=by kernel_rfl
   have e4:min (AD (AA AI (AA AC ((64:Int) - 32)))) (AK AC)=32:=by kernel_rfl
   rw [e3,e4,AJ (show ¬ (32:Int) < 1 by omega),AJ (show ¬ (32:Int)≥64 by omega),CV,CV,CV,CV];rfl
 ·simp [R.get] at h
theorem sE:DD PR B0 101 P0:=by
 refine DK [] [] P0 [[.bool]] Tryz.func101 Cc trivial ?_;intro vs r hwf h;unfold P0 at h;split at h
 ·rename_i a w;cases hc:(decide (0≤a)&&decide (a < 64)) with
  | false=>rw [hc] at h; simp [R.get] at h
  | true=>
   rw [hc,R.get_br,CU,R.get_ok] at h;rw [AG,AN,AN] at hc;refine ⟨0,?_⟩;rw [← h];refine (Hc 0 a w).trans ?_;have e:AA AC (64 - a)=64 - a:=DX (by omega) (by omega);have e1:decide (w≥1)=decide (1≤w):=rfl;rw [AE (show a≥0 by omega),AE hc.2,CU,CU,e,e1];cases decide (1≤w) <;> rfl
 ·simp [R.get] at h
theorem sF:DD PR B0 102 P1:=by
 refine DK [] [] P1 [[.int .u64]] Tryz.func102 Cd trivial ?_;intro vs r hwf h;unfold P1 at h;split at h
 ·rename_i w;cases hc:(decide (1≤w)&&decide (w≤64)) with
  | false=>rw [hc] at h; simp [R.get] at h
  | true=>
   rw [hc,R.get_br,CU,R.get_ok] at h;rw [AG,AN,AN] at hc;refine ⟨0,?_⟩;rw [← h];refine (Hd 0 w).trans ?_;have e:AA AC (64 - w)=64 - w:=DX (by omega) (by omega);have e2:AA AI (64 - w)=64 - w:=gT (by omega) (by omega);have e3:min (64 - w).toNat (AK AI)=(64 - w).toNat:=by
    have:AK AI=64:=rfl
    omega
   rw [e,e2,e3,AJ (show ¬ (64 - w < 0) by omega),CV];rfl
 ·simp [R.get] at h
theorem mQ {a w:Int} (hc:(decide (0≤a)&&(decide (a < 64)&&(decide (1≤w)&&decide (w≤64 - a))))=true):0≤a∧a < 64∧1≤w∧w≤64 - a:=by
 simpa only [AG,AN] using hc
theorem Ot:DD PR B0 104 S8:=by
 refine DK [(101,P0),(102,P1)] [] S8 [[.int .u64]] Tryz.func104 Bz ⟨sE,sF,trivial⟩ ?_;intro vs r hwf h;unfold S8 at h;split at h
 ·rename_i x a w y;cases hc:(decide (0≤a)&&(decide (a < 64)&&(decide (1≤w)&&decide (w≤64 - a)))) with
  | false=>rw [hc] at h; simp [R.get] at h
  | true=>
   rw [hc,R.get_br,CU,R.get_ok] at h;obtain ⟨h1,h2,h3,h4⟩:=mQ hc;refine ⟨0,?_⟩;rw [← h];refine (Gz 0 x a w y).trans ?_;have e2:AA AI a=a:=gT (by omega) (by omega);have e3:min a.toNat (AK AI)=a.toNat:=by
    have:AK AI=64:=rfl
    omega
   rw [e2,e3,AE h1,AE h2,AE h3,AE h4,AE (show w≤64 by omega),AJ (show ¬ a < 0 by omega)];simp only [BK,BB,CU,CV];rfl
 ·simp [R.get] at h
theorem f8:DD PR B0 94 NE:=by
 refine DK [(101,P0),(102,P1)] [] NE [[.int .u64]] Tryz.func94 Bw ⟨sE,sF,trivial⟩ ?_;intro vs r hwf h;unfold NE at h;split at h
 ·rename_i x a w;cases hc:(decide (0≤a)&&(decide (a < 64)&&(decide (1≤w)&&decide (w≤64 - a)))) with
  | false=>rw [hc] at h; simp [R.get] at h
  | true=>
   rw [hc,R.get_br,CU,R.get_ok] at h;obtain ⟨h1,h2,h3,h4⟩:=mQ hc;refine ⟨0,?_⟩;rw [← h];refine (Gy 0 x a w).trans ?_;have e2:AA AI a=a:=gT (by omega) (by omega);have e3:min a.toNat (AK AI)=a.toNat:=by
    have:AK AI=64:=rfl
    omega
   rw [e2,e3,AE h1,AE h2,AE h3,AE h4,AE (show w≤64 by omega),AJ (show ¬ a < 0 by omega)];simp only [BK,BB,CU,CV];rfl
 ·simp [R.get] at h
theorem Ou:DD PR B0 93 S9:=by
 refine DK [(94,NE),(100,TA)] [] S9 [[.z]] Tryz.func93 Ca ⟨f8,Ov,trivial⟩ ?_;intro vs r hwf h;unfold S9 at h;split at h
 ·rename_i x a w;cases hc:(decide (a=0)&&decide (w=32)) with
  | false=>rw [hc] at h; simp [R.get] at h
  | true=>
   rw [hc,R.get_br,CU,R.get_ok] at h;rw [AG,AN,AN] at hc;obtain ⟨rfl,rfl⟩:=hc;refine ⟨0,?_⟩;rw [← h];refine (Ha 0 x 0 32).trans ?_;rfl
 ·simp [R.get] at h
theorem Qp:DD PR B0 116 UF:=by
 refine DK [] [] UF [[.bool]] Tryz.func116 El trivial ?_;intro vs r hwf h;unfold UF at h;split at h
 ·rename_i n;refine ⟨0,?_⟩;rw [R.get_ok] at h;rw [← h];refine (Jg 0 n).trans ?_;unfold LX;have e1:decide (n≥1)=decide (1≤n):=rfl;rw [e1];cases decide (1≤n) <;> rfl
 ·simp [R.get] at h
theorem Qn:DD PR B0 103 UD:=by
 refine DK [(71,ND),(116,UF)] [] UD [[.bool]] Tryz.func103 Ei ⟨fZ,Qp,trivial⟩ ?_;intro vs r hwf h;unfold UD at h;split at h
 ·rename_i lf v f a l r';refine ⟨0,?_⟩;rw [← h];refine (Jd 0 lf v f a l r').trans ?_;simp only [R.get_ok,lP];unfold GZ;cases lf with
  | true=>rfl
  | false=>rfl
 ·simp [R.get] at h
theorem Qm:DD PR B0 96 UC:=by
 refine DK [(104,S8),(103,UD)] [] UC [[.int .u64]] Tryz.func96 Eh ⟨Ot,Qn,trivial⟩ ?_;intro vs r hwf h;unfold UC at h;split at h
 ·rename_i lf v f a l r';refine ⟨0,?_⟩;rw [← h];refine (Jc 0 lf v f a l r').trans ?_;unfold GM;cases GZ ⟨lf,v,f,a,l,r'⟩ with
  | false=>rfl
  | true=>cases lf <;> rfl
 ·simp [R.get] at h
theorem Qo:DD PR B0 95 UE:=by
 refine DK [(94,NE)] [] UE [[.z]] Tryz.func95 Ek ⟨f8,trivial⟩ ?_;intro vs r hwf h;unfold UE at h;split at h
 ·rename_i a w x;cases hc:(decide (0≤a)&&(decide (a < 64)&&(decide (1≤w)&&decide (w≤64 - a)))) with
  | false=>rw [hc] at h; simp [R.get] at h
  | true=>
   rw [hc,R.get_br,CU,R.get_ok] at h;refine ⟨0,?_⟩;rw [← h];refine (Jf 0 a w x).trans ?_;rw [hc];rfl
 ·simp [R.get] at h
theorem ZT:DD PR B0 84 LV:=by
 refine DK [(94,NE),(93,S9),(96,UC),(95,UE)] [] LV [[.bool,.z,.z,.z,.z,.z],[.bool]] Tryz.func84 Ej ⟨f8,Ou,Qm,Qo,trivial⟩ ?_;intro vs r hwf h;unfold LV at h;split at h
 ·rename_i w;refine ⟨0,?_⟩;rw [← h];refine (Je 0 w).trans ?_;rw [R.get_ok];unfold CW EQ JM;cases (E1 w 63 1==0) with
  | true=>
   simp only [CF];cases hw:(w==0) with
   | true=>rfl
   | false=>
    simp only [BQ,BX,BL];have e:(GM ⟨false,0,C6 (E1 w 32 4),IL w,C6 (E1 w 40 8),C6 (E1 w 48 8)⟩ != w)=!(GM ⟨false,0,C6 (E1 w 32 4),IL w,C6 (E1 w 40 8),C6 (E1 w 48 8)⟩==w):=rfl;rw [e];cases (GM ⟨false,0,C6 (E1 w 32 4),IL w,C6 (E1 w 40 8),C6 (E1 w 48 8)⟩==w) <;> rfl
  | false=>
   simp only [BQ];cases hw:(w==0) with
   | true=>rfl
   | false=>
    simp only [BQ,BX,BL];have e:(GM ⟨true,IL w,0,0,0,0⟩ != w)=!(GM ⟨true,IL w,0,0,0,0⟩==w):=rfl;rw [e];cases (GM ⟨true,IL w,0,0,0,0⟩==w) <;> rfl
 ·simp [R.get] at h
open Go Go.Proofs
def F3 (N:Nat):Env:=DJ [(84,LV)] [(5,⟨[0,1,4,5,23,24,25],[22],[]⟩),(17,⟨[4,85,86,87],[22],[]⟩)] 94 N
abbrev K0 (l0:LI) (x1:Int) (b4:Bool) (n5:Nat) (l23:LI) (x24 x25:Int) (lo22:LI):St:=⟨[(0,(.list false [.int .u64] l0)),(1,(.i x1)),(4,(.bool b4)),(5,(.row 22 0 n5)),(23,(.list false [.int .u64] l23)),(24,(.i x24)),(25,(.i x25))],[(22,(some (.row true 3 false [.z] lo22)))]⟩
abbrev PZ (b4:Bool) (n85:Nat) (x86 x87:Int) (lo22:LI):St:=⟨[(4,(.bool b4)),(85,(.row 22 1 n85)),(86,(.i x86)),(87,(.i x87))],[(22,(some (.row true 3 false [.z] lo22)))]⟩
theorem Kc (N:Nat) (l:LI) (a1:Int):DE (F3 N) IT [.tmp 4] [[.bool]] [.list false [.int .u64] l,.i a1]=(cond (decide (ic (AF l) < 1)) (some ((.bool false),[])) (cond (decide (ic (AF l) > 31)) (some ((.bool false),[])) (cond (A8 0 (TI.size (Env.tyd (F3 N) 3))&&(A8 3 1000000&&decide (0≤ic (AF l)))&&(decide (ic (AF l)=ic (AF l))&&decide (ic (AF l)*ic (TI.bytes (Env.tyd (F3 N) 3))≤ic D5))) (DC (F3 N) (CX IT [1,1,1,0,1,0,0]) ⟨[0,1,4,5,23,24,25],[22],[]⟩ N (K0 l a1 false (AD (ic (AF l))) l (ic (AF l)) 0 (vak (AD (ic (AF l))) (IV.int 0))) (C4 0 (C5 (F3 N) (CX IT [1,1,1,1]) (C8 (F3 N) none [.tmp 4] [[.bool]])))) none))):=by kernel_rfl
theorem t9 (N:Nat) (l0:LI) (x1:Int) (b4:Bool) (n5:Nat) (l23:LI) (x24 x25:Int) (lo22:LI) (again:St→C0) (k:Out→St→C0):EK (F3 N) (CX IT [1,1,1,0,1,0,0]) (K0 l0 x1 b4 n5 l23 x24 x25 lo22) (EF again ⟨[0,1,4,5,23,24,25],[22],[]⟩ k)=(cond (decide (x25 < x24)) (cond (decide (0≤x25)&&decide (x25 < ic (AF l23))) (cond (!EQ (IV.toInt (AH l23 (AD x25) default))) (k .ret (K0 l0 x1 false n5 l23 x24 x25 lo22)) (cond (Nd.lf (CW (IV.toInt (AH l23 (AD x25) default)))) (again (K0 l0 x1 b4 n5 l23 x24 (AA AC (x25+1)) lo22)) (cond (decide (Nd.f (CW (IV.toInt (AH l23 (AD x25) default)))≥x1)) (k .ret (K0 l0 x1 false n5 l23 x24 x25 lo22)) (cond (Nd.l (CW (IV.toInt (AH l23 (AD x25) default)))==Nd.r (CW (IV.toInt (AH l23 (AD x25) default)))) (k .ret (K0 l0 x1 false n5 l23 x24 x25 lo22)) (cond (decide (min (Nd.l (CW (IV.toInt (AH l23 (AD x25) default)))) (Nd.r (CW (IV.toInt (AH l23 (AD x25) default))))≤x25)) (k .ret (K0 l0 x1 false n5 l23 x24 x25 lo22)) (cond (decide (max (Nd.l (CW (IV.toInt (AH l23 (AD x25) default)))) (Nd.r (CW (IV.toInt (AH l23 (AD x25) default))))≥ic (AF l0))) (k .ret (K0 l0 x1 false n5 l23 x24 x25 lo22)) (cond (decide (0≤Nd.l (CW (IV.toInt (AH l23 (AD x25) default))))&&decide (Nd.l (CW (IV.toInt (AH l23 (AD x25) default))) < ic (n5 - 0))) (cond (decide (0≤Nd.l (CW (IV.toInt (AH l23 (AD x25) default))))&&decide (Nd.l (CW (IV.toInt (AH l23 (AD x25) default))) < ic (n5 - 0))) (cond (decide (0≤Nd.r (CW (IV.toInt (AH l23 (AD x25) default))))&&decide (Nd.r (CW (IV.toInt (AH l23 (AD x25) default))) < ic (n5 - 0))) (cond (decide (0≤Nd.r (CW (IV.toInt (AH l23 (AD x25) default))))&&decide (Nd.r (CW (IV.toInt (AH l23 (AD x25) default))) < ic (n5 - 0))) (again (K0 l0 x1 b4 n5 l23 x24 (AA AC (x25+1)) (List.set (List.set lo22 (0+AD (Nd.l (CW (IV.toInt (AH l23 (AD x25) default))))) (KT false [Kd.int AC] (AH lo22 (0+AD (Nd.l (CW (IV.toInt (AH l23 (AD x25) default))))) default) 0 [IV.int (AA AC (IV.toInt (AH lo22 (0+AD (Nd.l (CW (IV.toInt (AH l23 (AD x25) default))))) default)+1))])) (0+AD (Nd.r (CW (IV.toInt (AH l23 (AD x25) default))))) (KT false [Kd.int AC] (AH (List.set lo22 (0+AD (Nd.l (CW (IV.toInt (AH l23 (AD x25) default))))) (KT false [Kd.int AC] (AH lo22 (0+AD (Nd.l (CW (IV.toInt (AH l23 (AD x25) default))))) default) 0 [IV.int (AA AC (IV.toInt (AH lo22 (0+AD (Nd.l (CW (IV.toInt (AH l23 (AD x25) default))))) default)+1))])) (0+AD (Nd.r (CW (IV.toInt (AH l23 (AD x25) default))))) default) 0 [IV.int (AA AC (IV.toInt (AH (List.set lo22 (0+AD (Nd.l (CW (IV.toInt (AH l23 (AD x25) default))))) (KT false [Kd.int AC] (AH lo22 (0+AD (Nd.l (CW (IV.toInt (AH l23 (AD x25) default))))) default) 0 [IV.int (AA AC (IV.toInt (AH lo22 (0+AD (Nd.l (CW (IV.toInt (AH l23 (AD x25) default))))) default)+1))])) (0+AD (Nd.r (CW (IV.toInt (AH l23 (AD x25) default))))) default)+1))])))) none) none) none) none))))))) none) (k (.exit 0) (K0 l0 x1 b4 n5 l23 x24 x25 lo22))):=by kernel_rfl
theorem Ba (N:Nat) (l0:LI) (x1:Int) (b4:Bool) (n5:Nat) (l23:LI) (x24 x25:Int) (lo22:LI):(C4 0 (C5 (F3 N) (CX IT [1,1,1,1]) (C8 (F3 N) none [.tmp 4] [[.bool]]))) (.exit 0) (K0 l0 x1 b4 n5 l23 x24 x25 lo22)=(cond (decide (0≤1)&&decide (1≤ic (n5 - 0))) (DC (F3 N) (CX IT [1,1,1,1,0,1,0,0]) ⟨[4,85,86,87],[22],[]⟩ N (PZ b4 (0+(n5 - 0)) (ic (0+(n5 - 0) - 1)) 0 lo22) (C4 2 (C5 (F3 N) (CX IT [1,1,1,1,1]) (C8 (F3 N) none [.tmp 4] [[.bool]])))) none):=by kernel_rfl
theorem Bb (N:Nat) (l0:LI) (x1:Int) (b4:Bool) (n5:Nat) (l23:LI) (x24 x25:Int) (lo22:LI):(C4 0 (C5 (F3 N) (CX IT [1,1,1,1]) (C8 (F3 N) none [.tmp 4] [[.bool]]))) .ret (K0 l0 x1 b4 n5 l23 x24 x25 lo22)=(some ((.bool b4),[])):=by kernel_rfl
theorem uA (N:Nat) (b4:Bool) (n85:Nat) (x86 x87:Int) (lo22:LI) (again:St→C0) (k:Out→St→C0):EK (F3 N) (CX IT [1,1,1,1,0,1,0,0]) (PZ b4 n85 x86 x87 lo22) (EF again ⟨[4,85,86,87],[22],[]⟩ k)=(cond (decide (x87 < x86)) (cond (decide (0≤x87)&&decide (x87 < ic (n85 - 1))) (cond (IV.toInt (AH lo22 (1+AD x87) default) != 1) (k .ret (PZ false n85 x86 x87 lo22)) (again (PZ b4 n85 x86 (AA AC (x87+1)) lo22))) none) (k (.exit 2) (PZ b4 n85 x86 x87 lo22))):=by kernel_rfl
theorem Bc (N:Nat) (b4:Bool) (n85:Nat) (x86 x87:Int) (lo22:LI):(C4 2 (C5 (F3 N) (CX IT [1,1,1,1,1]) (C8 (F3 N) none [.tmp 4] [[.bool]]))) (.exit 2) (PZ b4 n85 x86 x87 lo22)=(some ((.bool true),[])):=by kernel_rfl
theorem Bd (N:Nat) (b4:Bool) (n85:Nat) (x86 x87:Int) (lo22:LI):(C4 2 (C5 (F3 N) (CX IT [1,1,1,1,1]) (C8 (F3 N) none [.tmp 4] [[.bool]]))) .ret (PZ b4 n85 x86 x87 lo22)=(some ((.bool b4),[])):=by kernel_rfl
def wD (N:Nat):Env:=DJ [(74,QC)] [] 22 N
theorem Iz (N:Nat) (k:Int) (l:LI) (d c b0 b1 b2:Int) (ts:LI):DE (wD N) kB [.tmp 3] [[.bool]] [.agg [.i k,.list false [.int .u64] l],.bor [.i d,.i c,.i b0,.i b1,.i b2,.list true [.z,.list false [.int .u64]] ts]]=(cond (decide (k < 0)) (some ((.bool true),[[.i d,.i c,.i b0,.i b1,.i b2,.list true [.z,.list false [.int .u64]] ts]])) (cond (decide (k≥c)) (some ((.bool true),[[.i d,.i c,.i b0,.i b1,.i b2,.list true [.z,.list false [.int .u64]] ts]])) (some ((.bool (!FQ l d)),[[.i d,.i c,.i b0,.i b1,.i b2,.list true [.z,.list false [.int .u64]] ts]])))):=by kernel_rfl
def K4 (N:Nat):Env:=DJ [(73,P6)] [(2,⟨[0,1,4,7,8],[900000],[]⟩)] 19 N
abbrev PY (l0:LI) (x4 x7 x8 u01 u02 u03 u04 u05:Int) (u00:LI):St:=⟨[(0,(.list true [.z,.list false [.int .u64]] l0)),(1,(.clo 73 [.ptr 900000 0 0])),(4,(.i x4)),(7,(.i x7)),(8,(.i x8))],[(900000,(some (.box [.i u01,.i u02,.i u03,.i u04,.i u05,.list true [.z,.list false [.int .u64]] u00])))]⟩
theorem Jw (N:Nat) (l:LI) (d c b0 b1 b2:Int) (ts:LI):DE (K4 N) NQ [.tmp 4] [[.z]] [.list true [.z,.list false [.int .u64]] l,.clo 73 [.bor [.i d,.i c,.i b0,.i b1,.i b2,.list true [.z,.list false [.int .u64]] ts]]]=(DC (K4 N) (CX NQ [1,0,1,0,0]) ⟨[0,1,4,7,8],[900000],[]⟩ N (PY l 0 (ic (AF l)) 0 d c b0 b1 b2 ts) (C4 0 (C5 (K4 N) (CX NQ [1,1]) (C8 (K4 N) (some [.i d,.i c,.i b0,.i b1,.i b2,.list true [.z,.list false [.int .u64]] ts]) [.tmp 4] [[.z]])))):=by kernel_rfl
theorem t8 (N:Nat) (l0:LI) (x4 x7 x8 u01 u02 u03 u04 u05:Int) (u00:LI) (again:St→C0) (k:Out→St→C0):EK (K4 N) (CX NQ [1,0,1,0,0]) (PY l0 x4 x7 x8 u01 u02 u03 u04 u05 u00) (EF again ⟨[0,1,4,7,8],[900000],[]⟩ k)=(cond (decide (x8 < x7)) (cond (decide (0≤x8)&&decide (x8 < ic (AF l0))) (cond (!GN u01 u02 (IV.agg [IV.int (IV.toInt (IV.cell (AH l0 (AD x8) default) 0)),IV.list (IV.toList (IV.cell (AH l0 (AD x8) default) 1))])) (k .ret (PY l0 x8 x7 x8 u01 u02 u03 u04 u05 u00)) (again (PY l0 x4 x7 (AA AC (x8+1)) u01 u02 u03 u04 u05 u00))) none) (k (.exit 0) (PY l0 x4 x7 x8 u01 u02 u03 u04 u05 u00))):=by kernel_rfl
theorem Ay (N:Nat) (d c b0 b1 b2:Int) (ts l0:LI) (x4 x7 x8 u01 u02 u03 u04 u05:Int) (u00:LI):(C4 0 (C5 (K4 N) (CX NQ [1,1]) (C8 (K4 N) (some [.i d,.i c,.i b0,.i b1,.i b2,.list true [.z,.list false [.int .u64]] ts]) [.tmp 4] [[.z]]))) (.exit 0) (PY l0 x4 x7 x8 u01 u02 u03 u04 u05 u00)=(some ((.i (-1)),[[.i u01,.i u02,.i u03,.i u04,.i u05,.list true [.z,.list false [.int .u64]] u00]])):=by kernel_rfl
theorem Az (N:Nat) (d c b0 b1 b2:Int) (ts l0:LI) (x4 x7 x8 u01 u02 u03 u04 u05:Int) (u00:LI):(C4 0 (C5 (K4 N) (CX NQ [1,1]) (C8 (K4 N) (some [.i d,.i c,.i b0,.i b1,.i b2,.list true [.z,.list false [.int .u64]] ts]) [.tmp 4] [[.z]]))) .ret (PY l0 x4 x7 x8 u01 u02 u03 u04 u05 u00)=(some ((.i x4),[[.i u01,.i u02,.i u03,.i u04,.i u05,.list true [.z,.list false [.int .u64]] u00]])):=by kernel_rfl
def wQ (N:Nat):Env:=DJ [(90,UO)] [] 9 N
theorem Jv (N:Nat) (l:LI) (d c b0 b1 b2:Int) (ts:LI):DE (wQ N) kP [.tmp 4] [[.bool]] [.list true [.z,.list false [.int .u64]] l,.clo 73 [.bor [.i d,.i c,.i b0,.i b1,.i b2,.list true [.z,.list false [.int .u64]] ts]]]=(some ((.bool (decide (QN d c l 0≥0))),[[.i d,.i c,.i b0,.i b1,.i b2,.list true [.z,.list false [.int .u64]] ts]])):=by kernel_rfl
def KD (N:Nat):Env:=DJ [(71,ND),(73,P6),(72,UN)] [(4,⟨[1,2,30,31],[1,53005],[]⟩)] 54 N
abbrev IF (b2:Bool) (u01 u02 u03 x31 u04 u05 u06 u07 u08:Int) (u00:LI):St:=⟨[(1,(.ptr 1 0 0)),(2,(.bool b2)),(30,(.agg [.i u01,.i u02,.i u03])),(31,(.i x31))],[(1,(some (.box [.i u04,.i u05,.i u06,.i u07,.i u08,.list true [.z,.list false [.int .u64]] u00]))),(53005,none)]⟩
theorem Iy (N:Nat) (u04 u03 u00 u01 u02:Int) (u05:LI):DE (KD N) MO [.tmp 2] [[.bool]] [.agg [.i u04,.i u03,.i u00,.i u01,.i u02,.list true [.z,.list false [.int .u64]] u05]]=(cond (decide (u04 < 1)) (some ((.bool false),[])) (cond (decide (u04 > 4)) (some ((.bool false),[])) (cond (decide (u03 < 1)) (some ((.bool false),[])) (cond (decide (u03 > 3)) (some ((.bool false),[])) (cond (decide (ic (AF u05) > 8)) (some ((.bool false),[])) (DC (KD N) (CX MO [1,1,0,1,0,0]) ⟨[1,2,30,31],[1,53005],[]⟩ N (IF false u00 u01 u02 0 u04 u03 u00 u01 u02 u05) (C4 0 (C5 (KD N) (CX MO [1,1,1]) (C8 (KD N) none [.tmp 2] [[.bool]]))))))))):=by kernel_rfl
theorem tR (N:Nat) (b2:Bool) (u01 u02 u03 x31 u04 u05 u06 u07 u08:Int) (u00:LI) (again:St→C0) (k:Out→St→C0):EK (KD N) (CX MO [1,1,0,1,0,0]) (IF b2 u01 u02 u03 x31 u04 u05 u06 u07 u08 u00) (EF again ⟨[1,2,30,31],[1,53005],[]⟩ k)=(cond (decide (x31 < 3)) (cond (decide (x31=ic 0)) (cond (!DZ u01) (k .ret (IF false u01 u02 u03 x31 u04 u05 u06 u07 u08 u00)) (cond (decide (x31≥u05)) (cond (u01 != 0) (k .ret (IF false u01 u02 u03 x31 u04 u05 u06 u07 u08 u00)) (again (IF b2 u01 u02 u03 (AA AC (x31+1)) u04 u05 u06 u07 u08 u00))) (again (IF b2 u01 u02 u03 (AA AC (x31+1)) u04 u05 u06 u07 u08 u00)))) (cond (decide (x31=ic 1)) (cond (!DZ u02) (k .ret (IF false u01 u02 u03 x31 u04 u05 u06 u07 u08 u00)) (cond (decide (x31≥u05)) (cond (u02 != 0) (k .ret (IF false u01 u02 u03 x31 u04 u05 u06 u07 u08 u00)) (again (IF b2 u01 u02 u03 (AA AC (x31+1)) u04 u05 u06 u07 u08 u00))) (again (IF b2 u01 u02 u03 (AA AC (x31+1)) u04 u05 u06 u07 u08 u00)))) (cond (decide (x31=ic 2)) (cond (!DZ u03) (k .ret (IF false u01 u02 u03 x31 u04 u05 u06 u07 u08 u00)) (cond (decide (x31≥u05)) (cond (u03 != 0) (k .ret (IF false u01 u02 u03 x31 u04 u05 u06 u07 u08 u00)) (again (IF b2 u01 u02 u03 (AA AC (x31+1)) u04 u05 u06 u07 u08 u00))) (again (IF b2 u01 u02 u03 (AA AC (x31+1)) u04 u05 u06 u07 u08 u00)))) none))) (k (.exit 0) (IF b2 u01 u02 u03 x31 u04 u05 u06 u07 u08 u00))):=by kernel_rfl
theorem Ad (N:Nat) (b2:Bool) (u01 u02 u03 x31 u04 u05 u06 u07 u08:Int) (u00:LI):(C4 0 (C5 (KD N) (CX MO [1,1,1]) (C8 (KD N) none [.tmp 2] [[.bool]]))) (.exit 0) (IF b2 u01 u02 u03 x31 u04 u05 u06 u07 u08 u00)=(some ((.bool (!!List.all u00 (GN u04 u05))),[])):=by kernel_rfl
theorem Ae (N:Nat) (b2:Bool) (u01 u02 u03 x31 u04 u05 u06 u07 u08:Int) (u00:LI):(C4 0 (C5 (KD N) (CX MO [1,1,1]) (C8 (KD N) none [.tmp 2] [[.bool]]))) .ret (IF b2 u01 u02 u03 x31 u04 u05 u06 u07 u08 u00)=(some ((.bool b2),[])):=by kernel_rfl
open Go Go.Proofs
theorem Y1 {l:LI} {i:Nat} {w:IV} (h:l[i]?=some w) (j:Nat):EY (l.take (i+1)) j=EY (l.take i) j+HM (CW w.toInt) j:=by
 unfold EY;rw [List.take_add_one,h];simp
theorem Gu (x:Nd) (j:Nat):HM x j≤2:=by
 unfold HM;cases x.lf
 ·simp only [BQ];split <;> split <;> omega
 ·simp only [CF];omega
theorem dX:∀ (l:LI) (j:Nat),EY l j≤2*l.length
 | [],_=>AO _
 | w :: l,j=>by
  have:=dX l j
  have:=Gu (CW w.toInt) j
  unfold EY at *;simp only [A2,List.sum_cons,AP];omega
def NM (l:LI) (i:Nat):LI:=(List.range l.length).map fun j=>IV.int (EY (l.take i) j:Nat)
theorem S7 (l:LI) (i:Nat):(NM l i).length=l.length:=by simp [NM]
theorem RN (l:LI) (i:Nat) {j:Nat} (h:j < l.length):(NM l i)[j]?=some (IV.int (EY (l.take i) j:Nat)):=by
 unfold NM;rw [B6,List.getElem?_range h];rfl
theorem xA (l:LI):NM l 0=vak l.length (IV.int 0):=by
 apply List.ext_getElem?;intro j;by_cases h:j < l.length
 ·rw [RN l 0 h,List.getElem?_replicate,A6 h];simp [EY]
 ·rw [BF (by rw [S7]; omega),BF (by simp; omega)]
theorem w9 {l:LI} {i:Nat} {w:IV} (h:l[i]?=some w) (hl:(CW w.toInt).lf=true):NM l (i+1)=NM l i:=by
 unfold NM;congr 1
 funext j
 rw [Y1 h];unfold HM;rw [hl];rfl
theorem w8 {l:LI} {i:Nat} {w:IV} (h:l[i]?=some w) (hl:(CW w.toInt).lf=false) (hn:l.length≤31) {a b:Nat} (ha:(CW w.toInt).l=(a:Int)) (hb:(CW w.toInt).r=(b:Int)) (hab:a≠b) (al:a < l.length) (bl:b < l.length) :
  ((NM l i).set a (IV.int (AA AC (((NM l i).getD a default).toInt+1)))).set b (IV.int (AA AC ((((NM l i).set a (IV.int (AA AC (((NM l i).getD a default).toInt+1)))).getD b default).toInt+1)))=NM l (i+1):=by
 have hil:i < l.length:=(A5.1 h).1;have hsm:∀ j,EY (l.take i) j≤62:=fun j=>by
  have:=dX (l.take i) j
  rw [A7] at this;omega
 have ga:((NM l i).getD a default).toInt=(EY (l.take i) a:Nat):=by
  rw [BY,RN l i al];rfl
 have gb:(((NM l i).set a (IV.int (AA AC (((NM l i).getD a default).toInt+1)))).getD b default).toInt=(EY (l.take i) b:Nat):=by
  rw [BY,va2 hab,RN l i bl];rfl
 rw [gb,ga,DX (by omega) (by have:=hsm a; omega),DX (by omega) (by have:=hsm b; omega)];apply List.ext_getElem?;intro j;by_cases hj:j < l.length
 ·rw [RN l (i+1) hj,Y1 h];have e:HM (CW w.toInt) j=(if a=j then 1 else 0)+(if b=j then 1 else 0):=by
   unfold HM;rw [hl,ha,hb,BQ];have e1:((a:Int)=(j:Int))↔a=j:=by omega
   have e2:((b:Int)=(j:Int))↔b=j:=by omega
   simp only [e1,e2]
  rw [e];by_cases h1:b=j
  ·subst h1;rw [List.getElem?_set_self (by rw [vaF,S7]; exact bl),AX hab,A6 rfl];congr 2
  ·rw [va2 h1];by_cases h2:a=j
   ·subst h2;rw [List.getElem?_set_self (by rw [S7]; exact al),A6 rfl,AX h1];congr 2
   ·rw [va2 h2,RN l i hj,AX h1,AX h2];congr 2
 ·rw [BF (by rw [vaF,vaF,S7]; omega),BF (by rw [S7]; omega)]
abbrev aG (l:LI) (dim:Int) (b:Bool) (i:Int) (nm:LI):St:=
 ⟨[(0,(.list false [(.int .u64)] l)),(1,(.int .i64 dim)),(4,(.bool b)),(5,(.row 22 0 l.length)),(23,(.list false [(.int .u64)] l)),(24,(.int .i64 (ic l.length))),(25,(.int .i64 i))],[(22,(some (.row true 3 false [.z] nm)))]⟩
theorem gS (N:Nat) (l:LI) (dim:Int) (hl:l.length≤31) (K:Out→St→C0) (hK:∀ i nm,K .ret (aG l dim false i nm)=some (.bool false,[])):∀ (d i n:Nat),i+d=l.length→d < n →
  DC (F3 N) (CX IT [1,1,1,0,1,0,0]) ⟨[0,1,4,5,23,24,25],[22],[]⟩ n (aG l dim false (i:Int) (NM l i)) K =
   cond (HN dim (ic l.length) i (l.drop i)) (K (.exit 0) (aG l dim false (ic l.length) (NM l l.length))) (some (.bool false,[]))
 | d,i,0,_,h=>absurd h (by omega)
 | 0,i,n+1,hd,_=>by
  have hi:i=l.length:=by omega
  subst hi;rw [DI,t9];rw [AJ (show ¬ ((l.length:Nat):Int) < ic l.length by simp only [ic]; omega),CV,CI];rfl
 | d+1,i,n+1,hd,hn=>by
  have hil:i < l.length:=by omega
  have hw:l[i]?=some l[i]:=AV hil;rw [DI,t9,BD hil];have hg:l.getD (AD (i:Int)) default=l[i]:=by
   rw [A0,BY,hw];rfl
  rw [hg];generalize l[i]=w at hw ⊢;have ei:AA AC ((i:Int)+1)=((i+1:Nat):Int):=by
   rw [DX (by omega) (by omega)];omega
  rw [ei,AE (show (i:Int) < ic l.length by simp only [ic]; omega),CU,AE (show (0:Int)≤(i:Int) by omega),BK,CU];unfold HN;cases hb:EQ w.toInt with
  | false=>
   simp only [BX,CU,B5,CV];exact hK (i:Int) (NM l i)
  | true=>
   simp only [BB,CV,BL];unfold JV;cases hlf:(CW w.toInt).lf with
   | true=>
    simp only [CU,BL];rw [← w9 hw hlf];exact gS N l dim hl K hK d (i+1) n (by omega) (by omega)
   | false=>
    simp only [CV];cases h1:decide ((CW w.toInt).f≥dim) with
    | true=>
     simp only [CU,BB,B5,CV];exact hK (i:Int) (NM l i)
    | false=>
    cases h2:((CW w.toInt).l==(CW w.toInt).r) with
    | true=>
     simp only [CU,CV,BB,BX,B5,vaM];exact hK (i:Int) (NM l i)
    | false=>
    cases h3:decide (min (CW w.toInt).l (CW w.toInt).r≤(i:Int)) with
    | true=>
     simp only [CU,CV,BB,BX,B5,vaM];exact hK (i:Int) (NM l i)
    | false=>
    cases h4:decide (max (CW w.toInt).l (CW w.toInt).r≥ic l.length) with
    | true=>
     simp only [CU,CV,BB,BX,B5,vaM];exact hK (i:Int) (NM l i)
    | false=>
     have g2:(CW w.toInt).l≠(CW w.toInt).r:=BN.1 h2;have g3:=A1 h3;have g4:=A1 h4;simp only [ic] at g4;obtain ⟨a,ha⟩:∃ a:Nat,(CW w.toInt).l=(a:Int):=⟨(CW w.toInt).l.toNat,by omega⟩;obtain ⟨b,hb'⟩:∃ b:Nat,(CW w.toInt).r=(b:Int):=⟨(CW w.toInt).r.toNat,by omega⟩;have hab:a≠b:=fun e=>g2 (by rw [ha,hb',e])
     have al:a < l.length:=by omega
     have bl:b < l.length:=by omega
     have hN:=w8 hw hlf hl ha hb' hab al bl;rw [ha,hb'];rw [AE (show (0:Int)≤(a:Int) by omega),AE (show (0:Int)≤(b:Int) by omega),AE (show (a:Int) < ic (l.length - 0) by simp only [ic]; omega),AE (show (b:Int) < ic (l.length - 0) by simp only [ic]; omega)];simp only [CU,CV,BX,BK,BL,A0,A3];refine Eq.trans ?_ (gS N l dim hl K hK d (i+1) n (by omega) (by omega));rw [← hN];rfl
abbrev Tr (l:LI) (b:Bool) (j:Int):St:=
 ⟨[(4,(.bool b)),(85,(.row 22 1 (0+(l.length - 0)))),(86,(.int .i64 (ic (0+(l.length - 0) - 1)))),(87,(.int .i64 j))],[(22,(some (.row true 3 false [.z] (NM l l.length))))]⟩
theorem pD (N:Nat) (l:LI) (hl:l.length≤31):∀ (d j n:Nat),j+d=l.length - 1→d < n →
  DC (F3 N) (CX IT [1,1,1,1,0,1,0,0]) ⟨[4,85,86,87],[22],[]⟩ n (Tr l false (j:Int)) (C4 2 (C5 (F3 N) (CX IT [1,1,1,1,1]) (C8 (F3 N) none [(BH 4)] [[.bool]]))) =
   some (.bool ((vbb j d).all fun j=>EY l (j+1)==1),[])
 | d,j,0,_,h=>absurd h (by omega)
 | 0,j,n+1,hd,_=>by
  rw [DI,uA,AJ (show ¬ (j:Int) < ic (0+(l.length - 0) - 1) by simp only [ic]; omega),CV];exact Bc N false _ _ _ _
 | d+1,j,n+1,hd,hn=>by
  have ej:AA AC ((j:Int)+1)=((j+1:Nat):Int):=by
   rw [DX (by omega) (by omega)];omega
  rw [DI,uA,ej,AE (show (j:Int) < ic (0+(l.length - 0) - 1) by simp only [ic]; omega),CU,AE (show (0:Int)≤(j:Int) by omega),BK,CU];have hg:((NM l l.length).getD (1+AD (j:Int)) default).toInt=(EY l (j+1):Nat):=by
   rw [A0,Nat.add_comm 1 j,BY,RN l l.length (by omega),BG];rfl
  rw [hg,List.range'_succ,List.all_cons];have e:(((EY l (j+1):Nat):Int) != 1)=!(EY l (j+1)==1):=by
   show (!(((EY l (j+1):Nat):Int)==1))=_;congr 1;rw [va5,BP,BP];omega
  rw [e];cases (EY l (j+1)==1) with
  | false=>
   rw [BX,CU];exact Bd N false _ _ _ _
  | true=>
   rw [BB,CV,BL];exact pD N l hl d (j+1) n (by omega) (by omega)
theorem Sm (N:Nat) (l:LI) (dim:Int) (hl:l.length≤31) (h1:1≤l.length) (hN:40≤N) (i:Int) :
  (C4 0 (C5 (F3 N) (CX IT [1,1,1,1]) (C8 (F3 N) none [(BH 4)] [[.bool]]))) (.exit 0) (aG l dim false i (NM l l.length))=some (.bool (O8 l),[]):=by
 refine (Ba N l dim false l.length l (ic l.length) i (NM l l.length)).trans ?_;rw [AE (show (0:Nat)≤1 by omega),AE (show (1:Int)≤ic (l.length - 0) by simp only [ic]; omega),BK,CU]
 have:=pD N l hl (l.length - 1) 0 N (by omega) (by omega)
 refine this.trans ?_;unfold O8;rw [List.range_eq_range']
theorem sS:DD PR B0 74 QC:=by
 refine DK [(84,LV)] [(5,⟨[0,1,4,5,23,24,25],[22],[]⟩),(17,⟨[4,85,86,87],[22],[]⟩)] QC [[.bool]] Tryz.func74 Fg ⟨ZT,trivial⟩ ?_;intro vs r hwf h;unfold QC at h;split at h
 ·rename_i l dim;refine ⟨40,?_⟩;rw [R.get_ok] at h;rw [← h];refine (Kc 40 l dim).trans ?_;unfold FQ;by_cases h1:1≤l.length
  ·by_cases h2:l.length≤31
   ·have eb:ic (TI.bytes (Env.tyd (F3 40) 3))=8:=rfl;rw [AJ (show ¬ ic l.length < 1 by simp only [ic]; omega),AJ (show ¬ ic l.length > 31 by simp only [ic]; omega),CV,CV,eb,
     AE (show (0:Int)≤ic l.length by simp only [ic]; omega),AE (show ic l.length=ic l.length from rfl),AE (show ic l.length*8≤ic D5 by unfold D5; simp only [ic]; omega)]
    have e0:(A8 0 (TI.size (Env.tyd (F3 40) 3))&&(A8 3 1000000&&true)&&(true&&true))=true:=rfl;have e1:AD (ic l.length)=l.length:=by simp only [ic]; omega
    rw [e0,CU,e1,← xA,BW h1,BW h2];refine (gS 40 l dim h2 _ (fun i nm=>?_) l.length 0 40 (by omega) (by omega)).trans ?_
    ·exact Bb 40 l dim false l.length l (ic l.length) i nm
    ·rw [CG,Sm 40 l dim h2 h1 (by omega)];cases HN dim (ic l.length) 0 l <;> rfl
   ·have e:BM l.length 31=false:=by
     cases hb:BM l.length 31 with
     | false=>rfl
     | true=>exact absurd (AL hb) h2
    rw [AJ (show ¬ ic l.length < 1 by simp only [ic]; omega),AE (show ic l.length > 31 by simp only [ic]; omega),CV,CU,e,vaM,B5]
  ·have e:BM 1 l.length=false:=by
    cases hb:BM 1 l.length with
    | false=>rfl
    | true=>exact absurd (AL hb) h1
   rw [AE (show ic l.length < 1 by simp only [ic]; omega),CU,e,B5,B5]
 ·simp [R.get] at h
theorem sM:DD PR B0 73 P6:=by
 refine DK [(74,QC)] [] P6 [[.bool]] Tryz.func73 Ee ⟨sS,trivial⟩ ?_;intro vs r hwf h;unfold P6 at h;split at h
 ·rename_i k l d c b0 b1 b2 ts;refine ⟨0,?_⟩;rw [R.get_ok] at h;rw [← h];refine (Iz 0 k l d c b0 b1 b2 ts).trans ?_;have e:GN d c (.agg [.int k,.list l])=(!(decide (k < 0))&&(!(decide (k≥c))&&FQ l d)):=rfl;rw [e];cases decide (k < 0) with
  | true=>rfl
  | false=>
   cases decide (k≥c) with
   | true=>rfl
   | false=>rfl
 ·simp [R.get] at h
abbrev Th (l:LI) (d c b0 b1 b2:Int) (ts:LI) (r i:Int):St:=
 ⟨[(0,(.list true [.z,(.list false [(.int .u64)])] l)),(1,(.clo 73 [(.ptr 900000 0 0)])),(4,(.int .i64 r)),(7,(.int .i64 (ic l.length))),(8,(.int .i64 i))],[(900000,(some (.box [(.int .i64 d),(.int .i64 c),(.int .i64 b0),(.int .i64 b1),(.int .i64 b2),(.list true [.z,(.list false [(.int .u64)])] ts)])))]⟩
theorem Sk (d c:Int) (t:IV):GN d c (.agg [.int (IV.toInt (IV.cell t 0)),.list (IV.toList (IV.cell t 1))])=GN d c t:=rfl
theorem nH (N:Nat) (l:LI) (hl:l.length≤strMax) (d c b0 b1 b2:Int) (ts:LI):∀ (m i n:Nat),i+m=l.length→m < n →
  DC (K4 N) (CX NQ [1,0,1,0,0]) ⟨[0,1,4,7,8],[900000],[]⟩ n (Th l d c b0 b1 b2 ts 0 (i:Int)) (C4 0 (C5 (K4 N) (CX NQ [1,1]) (C8 (K4 N) (some [(.int .i64 d),(.int .i64 c),(.int .i64 b0),(.int .i64 b1),(.int .i64 b2),(.list true [.z,(.list false [(.int .u64)])] ts)]) [(BH 4)] [[.z]]))) =
   some (.int .i64 (QN d c (l.drop i) (i:Int)),[[(.int .i64 d),(.int .i64 c),(.int .i64 b0),(.int .i64 b1),(.int .i64 b2),(.list true FA ts)]])
 | m,i,0,_,h=>absurd h (by omega)
 | 0,i,n+1,hd,_=>by
  have hi:i=l.length:=by omega
  subst hi;rw [DI,t8,AJ (show ¬ ((l.length:Nat):Int) < ic l.length by simp only [ic]; omega),CV,CI];exact Ay N d c b0 b1 b2 ts l 0 (ic l.length) (l.length:Int) d c b0 b1 b2 ts
 | m+1,i,n+1,hd,hn=>by
  have hil:i < l.length:=by omega
  have m':strMax=140737488355327:=rfl;have ei:AA AC ((i:Int)+1)=((i+1:Nat):Int):=by
   rw [DX (by omega) (by omega)];omega
  have hg:l.getD (AD (i:Int)) default=l[i]:=by
   rw [A0,BY,AV hil];rfl
  rw [DI,t8,ei,hg,Sk,AE (show (i:Int) < ic l.length by simp only [ic]; omega),CU,AE (show (0:Int)≤(i:Int) by omega),BK,CU,BD hil,QN];cases GN d c l[i] with
  | true=>
   rw [BB,CV,CU];exact nH N l hl d c b0 b1 b2 ts m (i+1) n (by omega) (by omega)
  | false=>
   rw [BX,CU,CV];exact Az N d c b0 b1 b2 ts l (i:Int) (ic l.length) (i:Int) d c b0 b1 b2 ts
theorem Ra:DD PR B0 90 UO:=by
 refine DK [(73,P6)] [(2,⟨[0,1,4,7,8],[900000],[]⟩)] UO [[.z]] Tryz.func90 Fa ⟨sM,trivial⟩ ?_;intro vs r hwf h;unfold UO at h;split at h
 ·rename_i l d c b0 b1 b2 ts;refine ⟨l.length+1,?_⟩;rw [R.get_ok] at h;rw [← h];refine (Jw (l.length+1) l d c b0 b1 b2 ts).trans ?_;have hl:l.length≤strMax:=by
   have hb:=hwf (by simp [L7])
   have:=hb.1
   simp only [RI,wfL] at this;exact this.1
  exact nH (l.length+1) l hl d c b0 b1 b2 ts l.length 0 (l.length+1) (by omega) (by omega)
 ·simp [R.get] at h
theorem nF (d c:Int):∀ (l:LI) (i:Nat),decide (QN d c l (i:Int)≥0)=!(l.all (GN d c))
 | [],i=>rfl
 | t :: l,i=>by
  unfold QN;rw [List.all_cons];cases GN d c t with
  | true=>
   rw [CU,BL];exact nF d c l (i+1)
  | false=>
   rw [CV,B5,AE (show (i:Int)≥0 by omega)];rfl
theorem Qz:DD PR B0 72 UN:=by
 refine DK [(90,UO)] [] UN [[.bool]] Tryz.func72 Ez ⟨Ra,trivial⟩ ?_;intro vs r hwf h;unfold UN at h;split at h
 ·rename_i l d c b0 b1 b2 ts;refine ⟨0,?_⟩;rw [R.get_ok] at h;rw [← h];refine (Jv 0 l d c b0 b1 b2 ts).trans ?_
  have:=nF d c l 0
  rw [show ((0:Nat):Int)=0 from rfl] at this;rw [this]
 ·simp [R.get] at h
abbrev S1 (d c b0 b1 b2:Int) (ts:LI) (b:Bool) (i:Int):St:=
 ⟨[(1,(.ptr 1 0 0)),(2,(.bool b)),(30,(.agg [(.int .i64 b0),(.int .i64 b1),(.int .i64 b2)])),(31,(.int .i64 i))],[(1,(some (.box [(.int .i64 d),(.int .i64 c),(.int .i64 b0),(.int .i64 b1),(.int .i64 b2),(.list true [.z,(.list false [(.int .u64)])] ts)]))),(53005,none)]⟩
theorem xQ (c j b:Int) {α:Type _} (x y:α):cond (!DZ b) y (cond (decide (j≥c)) (cond (b != 0) y x) x)=cond (FR c j b) x y:=by
 unfold FR;have e:(b != 0)=!(b==0):=rfl;rw [e];cases DZ b <;> cases decide (j≥c) <;> cases (b==0) <;> rfl
theorem aX (N:Nat) (d c b0 b1 b2:Int) (ts:LI) (j:Nat) (b:Int) (h:(j=0∧b=b0)∨(j=1∧b=b1)∨(j=2∧b=b2)) (again:St→C0) (k:Out→St→C0) :
  EK (KD N) (CX MO [1,1,0,1,0,0]) (S1 d c b0 b1 b2 ts false (j:Int)) (EF again ⟨[1,2,30,31],[1,53005],[]⟩ k) =
   cond (FR c (j:Int) b) (again (S1 d c b0 b1 b2 ts false ((j+1:Nat):Int))) (k .ret (S1 d c b0 b1 b2 ts false (j:Int))):=by
 rw [tR];have ej:AA AC ((j:Int)+1)=((j+1:Nat):Int):=by
  rw [DX (by omega) (by omega)];omega
 rw [ej,← xQ,AE (show (j:Int) < 3 by omega),CU];rcases h with ⟨rfl,rfl⟩ | ⟨rfl,rfl⟩ | ⟨rfl,rfl⟩ <;> rfl
theorem ZS:DD PR B0 49 LU:=by
 refine DK [(71,ND),(73,P6),(72,UN)] [(4,⟨[1,2,30,31],[1,53005],[]⟩)] LU [[.bool]] Tryz.func49 Ed ⟨fZ,sM,Qz,trivial⟩ ?_;intro vs r hwf h;unfold LU at h;split at h
 ·rename_i d c b0 b1 b2 ts;refine ⟨6,?_⟩;rw [R.get_ok] at h;rw [← h];refine (Iy 6 d c b0 b1 b2 ts).trans ?_;have run:DC (KD 6) (CX MO [1,1,0,1,0,0]) ⟨[1,2,30,31],[1,53005],[]⟩ 6 (S1 d c b0 b1 b2 ts false 0) (C4 0 (C5 (KD 6) (CX MO [1,1,1]) (C8 (KD 6) none [(BH 2)] [[.bool]]))) =
    some (.bool ((FR c 0 b0&&(FR c 1 b1&&FR c 2 b2))&&ts.all (GN d c)),[]):=by
   have e0:S1 d c b0 b1 b2 ts false 0=S1 d c b0 b1 b2 ts false ((0:Nat):Int):=rfl;have R2:=fun j=>Ae 6 false b0 b1 b2 j d c b0 b1 b2 ts
   have R1:=fun j=>Ad 6 false b0 b1 b2 j d c b0 b1 b2 ts
   rw [e0,DI,aX 6 d c b0 b1 b2 ts 0 b0 (by simp),R2];cases h0:FR c ((0:Nat):Int) b0 with
   | false=>rfl
   | true=>
    rw [CU,DI,aX 6 d c b0 b1 b2 ts 1 b1 (by simp),R2];cases h1:FR c ((1:Nat):Int) b1 with
    | false=>rfl
    | true=>
     rw [CU,DI,aX 6 d c b0 b1 b2 ts 2 b2 (by simp),R2];cases h2:FR c ((2:Nat):Int) b2 with
     | false=>rfl
     | true=>
      rw [CU,DI,tR,AJ (show ¬ ((2+1:Nat):Int) < 3 by omega),CV,R1,Bool.not_not];rfl
  unfold DR;cases decide (d < 1) with
  | true=>rfl
  | false=>
  cases decide (d > 4) with
  | true=>rfl
  | false=>
  cases decide (c < 1) with
  | true=>rfl
  | false=>
  cases decide (c > 3) with
  | true=>rfl
  | false=>
   simp only [CV,BX,BL];by_cases h8:ts.length≤8
   ·rw [AJ (show ¬ ic ts.length > 8 by simp only [ic]; omega),CV,BW h8,BL];exact run
   ·have e:BM ts.length 8=false:=by
     cases hb:BM ts.length 8 with
     | false=>rfl
     | true=>exact absurd (AL hb) h8
    rw [AE (show ic ts.length > 8 by simp only [ic]; omega),CU,e,B5]
 ·simp [R.get] at h
open Go
def MR (x:IV):Prop:=∃ v,-3000≤v∧v≤3000∧x=I0 v
def O2 (dim n:Int) (i:Nat) (x:IV):Prop:=∃ f a l,0≤f∧f < dim∧0≤a∧a≤9∧(i:Int) < l∧l+1 < n∧x=N0 false 0 f a l (l+1)
def nm (x:IV) (j:Nat):Nat:=cond (x.cell 0).toBool 0 ((if (x.cell 4).toInt=(j:Int) then 1 else 0)+(if (x.cell 5).toInt=(j:Int) then 1 else 0))
def J1 (l:LI) (j:Nat):Nat:=(l.map (nm · j)).sum
theorem Y2 {x:IV} (h:MR x) (j:Nat):nm x j=0:=by
 obtain ⟨v,_,_,rfl⟩:=h;rfl
theorem Kh (f a:Int) (n j:Nat):nm (N0 false 0 f a (n:Int) ((n:Int)+1)) j=(if j=n then 1 else 0)+(if j=n+1 then 1 else 0):=by
 show (if (n:Int)=(j:Int) then 1 else 0)+(if (n:Int)+1=(j:Int) then 1 else 0)=_;have e1:((n:Int)=(j:Int))↔(j=n):=by omega
 have e2:((n:Int)+1=(j:Int))↔(j=n+1):=by omega
 simp only [e1,e2]
theorem Kg (l m:LI) (j:Nat):J1 (l++m) j=J1 l j+J1 m j:=by simp [J1]
theorem oZ:∀ {l:LI} {p:Nat} {x:IV} (y:IV) (j:Nat),l[p]?=some x→J1 (l.set p y) j+nm x j=J1 l j+nm y j
 | [],p,x,y,j,h=>by simp at h
 | z :: l,0,x,y,j,h=>by
  simp only [BE,AB] at h;subst h;simp only [List.set_cons_zero,J1,A2,List.sum_cons];omega
 | z :: l,p+1,x,y,j,h=>by
  have:=oZ (l:=l) y j (by simpa using h)
  simp only [List.set_cons_succ,J1,A2,List.sum_cons] at this ⊢;omega
structure NsOK (dim:Int) (i:Nat) (s:Ns):Prop where
 len:s.nodes.length=2*i+1
 ll:s.leaves.length=i+1
 node:∀ (k:Nat) x,s.nodes[k]?=some x→MR x∨O2 dim (2*(i:Int)+1) k x
 leaf:∀ y∈s.leaves,∃ p:Nat,y = .int (p:Int)∧∃ x,s.nodes[p]?=some x∧MR x
 dist:s.leaves.Nodup
 cnt:∀ j,J1 s.nodes j=if 1≤j∧j < 2*i+1 then 1 else 0
theorem ZC (l:LI) (i lo hi:Int) (h:lo≤hi) (h0 : -2000000000000000000≤lo) (h1:hi≤2000000000000000000):lo≤C2 (DS l i) lo hi∧C2 (DS l i) lo hi≤hi:=
 (H1 h h0 h1).2
theorem VQ (l:LI) (i:Int):MR (I0 (C2 (DS l i) (-3000) 3000)):=
 ⟨_,(ZC l i (-3000) 3000 (by omega) (by omega) (by omega)).1,(ZC l i (-3000) 3000 (by omega) (by omega) (by omega)).2,rfl⟩
theorem Kr (val:LI) (dim:Int):NsOK dim 0 ⟨[I0 (C2 (DS val 0) (-3000) 3000)],[.int 0]⟩ where
 len:=rfl
 ll:=rfl
 node k x h:=by
  cases k with
  | zero=>
   simp only [BE,AB] at h;subst h;exact .inl (VQ val 0)
  | succ k=>simp at h
 leaf y hy:=by
  simp only [AT,List.not_mem_nil,or_false] at hy;exact ⟨0,hy,_,rfl,VQ val 0⟩
 dist:=by simp
 cnt j:=by
  have:¬ (1≤j∧j < 2*0+1):=by omega
  rw [AX this];show nm _ j+0=0;rw [Y2 (VQ val 0)]
theorem Kl {l:LI} (h:l.Nodup) {k:Nat} {y:IV} (hk:l[k]?=some y):y ∉ l.take k++l.drop (k+1):=by
 intro hy;rw [← vbx,List.mem_eraseIdx_iff_getElem?] at hy;obtain ⟨i,hne,hi⟩:=hy;have h1:i < l.length:=(A5.1 hi).1;have h2:k < l.length:=(A5.1 hk).1
 have:l[i]=l[k]:=by
  rw [(A5.1 hi).2,(A5.1 hk).2]
 have hp:=List.pairwise_iff_getElem.1 h;rcases Nat.lt_trichotomy i k with hlt | heq | hlt
 ·exact hp i k h1 h2 hlt this
 ·exact hne heq
 ·exact hp k i h2 h1 hlt this.symm
theorem Kq {part byl atl val:LI} {dim:Int} (hd:1≤dim∧dim≤4) {i:Nat} (hi:i < 7) {s:Ns} (h:NsOK dim i s):NsOK dim (i+1) (HX part byl atl val dim i s):=by
 obtain ⟨k0,k1⟩:=(H1 (n:=(part.getD i default).toInt) (lo:=0) (hi:=ic s.leaves.length - 1) (by simp only [ic]; have:=h.ll; omega) (by omega) (by simp only [ic]; have:=h.ll; omega)).2;have hk0:0≤F7 part i s:=k0;have hk1:F7 part i s≤ic s.leaves.length - 1:=k1;obtain ⟨k,hk⟩:∃ k:Nat,F7 part i s=k:=⟨(F7 part i s).toNat,by omega⟩;have hkl:k < s.leaves.length:=by simp only [ic] at hk1; omega
 have hky:s.leaves[k]?=some s.leaves[k]:=AV hkl;obtain ⟨p,hp,x,hx,hlf⟩:=h.leaf _ (vaA hkl);have hat:(MY part i s).toNat=p:=by
  unfold MY;rw [hk,A0,BY,hky,hp];show ((p:Int)).toNat=p;omega
 have hpl:p < 2*i+1:=by rw [← h.len]; exact (A5.1 hx).1
 have f1:=ZC byl (i:Int) 0 (dim - 1) (by omega) (by omega) (by omega);have a1:=ZC atl (i:Int) 0 9 (by omega) (by omega) (by omega);generalize hf:C2 (DS byl (i:Int)) 0 (dim - 1)=f at f1;generalize ha:C2 (DS atl (i:Int)) 0 9=a at a1;have el:ic s.nodes.length=2*(i:Int)+1:=by simp only [ic]; have:=h.len; omega
 have hs:HX part byl atl val dim i s=⟨s.nodes.set p (N0 false 0 f a (2*(i:Int)+1) (2*(i:Int)+1+1))++[I0 (C2 (DS val (2*(i:Int)+1)) (-3000) 3000),I0 (C2 (DS val (2*(i:Int)+2)) (-3000) 3000)],
   s.leaves.take k++s.leaves.drop (k+1)++[.int (2*(i:Int)+1),.int (2*(i:Int)+1+1)]⟩:=by
  unfold HX;rw [hat,hk,A0,hf,ha,el]
 rw [hs];have L1:=VQ val (2*(i:Int)+1);have L2:=VQ val (2*(i:Int)+2);have hgrow:∀ (q:Nat) z,O2 dim (2*(i:Int)+1) q z→O2 dim (2*((i+1:Nat):Int)+1) q z:=fun q z hz=>by
  obtain ⟨f,a,l,h1,h2,h3,h4,h5,h6,h7⟩:=hz;exact ⟨f,a,l,h1,h2,h3,h4,h5,by omega,h7⟩
 have hlen:(s.nodes.set p (N0 false 0 f a (2*(i:Int)+1) (2*(i:Int)+1+1))).length=2*i+1:=by rw [vaF,h.len]
 have hnew:∀ (q:Nat) z,(s.nodes.set p (N0 false 0 f a (2*(i:Int)+1) (2*(i:Int)+1+1))++[I0 (C2 (DS val (2*(i:Int)+1)) (-3000) 3000),I0 (C2 (DS val (2*(i:Int)+2)) (-3000) 3000)])[q]?=some z →
   (q≠p∧s.nodes[q]?=some z)∨(q=p∧z=N0 false 0 f a (2*(i:Int)+1) (2*(i:Int)+1+1))∨MR z:=fun q z hz=>by
  by_cases hq:q < 2*i+1
  ·rw [List.getElem?_append_left (by rw [hlen]; exact hq)] at hz;by_cases e:p=q
   ·subst e;rw [List.getElem?_set_self (by rw [h.len]; exact hpl)] at hz;exact .inr (.inl ⟨rfl,(B3 hz).symm⟩)
   ·rw [va2 e] at hz;exact .inl ⟨fun e'=>e e'.symm,hz⟩
  ·rw [vbk (by rw [hlen]; omega),hlen] at hz;obtain ⟨r,hr⟩:∃ r,q - (2*i+1)=r:=⟨_,rfl⟩;rw [hr] at hz
   match r,hz with
   | 0,hz=>exact .inr (.inr (by simp at hz; subst hz; exact L1))
   | 1,hz=>exact .inr (.inr (by simp at hz; subst hz; exact L2))
   | r+2,hz=>simp at hz
 refine ⟨?_,?_,?_,?_,?_,?_⟩
 ·show (s.nodes.set p _++[_,_]).length=_;rw [AS,hlen];simp only [AP,BZ];omega
 ·show (s.leaves.take k++s.leaves.drop (k+1)++[_,_]).length=_;simp only [AS,A7,vab,AP,BZ]
  have:=h.ll
  omega
 ·intro q z hz;rcases hnew q z hz with ⟨_,hz⟩ | ⟨rfl,rfl⟩ | hz
  ·rcases h.node q z hz with h1 | h1
   ·exact .inl h1
   ·exact .inr (hgrow q z h1)
  ·exact .inr ⟨f,a,2*(i:Int)+1,f1.1,by omega,a1.1,a1.2,by omega,by omega,rfl⟩
  ·exact .inl hz
 ·intro y hy;rcases AQ.1 hy with hy | hy
  ·have hne:y≠.int (p:Int):=fun e=>by
    have:=Kl h.dist hky
    rw [hp] at this;exact this (e ▸ hy)
   have hyl:y∈s.leaves:=by
    rcases AQ.1 hy with hy | hy
    ·exact List.mem_of_mem_take hy
    ·exact List.mem_of_mem_drop hy
   obtain ⟨q,hq,x',hx',hl'⟩:=h.leaf y hyl;have hqp:p≠q:=fun e=>by subst e; exact hne hq
   refine ⟨q,hq,x',?_,hl'⟩;have hql:q < 2*i+1:=by rw [← h.len]; exact (A5.1 hx').1
   show (s.nodes.set p _++[_,_])[q]?=_;rw [List.getElem?_append_left (by rw [hlen]; exact hql),va2 hqp,hx']
  ·simp only [AT,List.not_mem_nil,or_false] at hy;rcases hy with rfl | rfl
   ·refine ⟨2*i+1,by simp,I0 (C2 (DS val (2*(i:Int)+1)) (-3000) 3000),?_,L1⟩;show (s.nodes.set p _++[_,_])[2*i+1]?=_;rw [vbk (by rw [hlen]; omega),hlen]
    have:2*i+1 - (2*i+1)=0:=by omega
    rw [this];rfl
   ·refine ⟨2*i+1+1,by simp,I0 (C2 (DS val (2*(i:Int)+2)) (-3000) 3000),?_,L2⟩;show (s.nodes.set p _++[_,_])[2*i+1+1]?=_;rw [vbk (by rw [hlen]; omega),hlen]
    have:2*i+1+1 - (2*i+1)=1:=by omega
    rw [this];rfl
 ·show (s.leaves.take k++s.leaves.drop (k+1)++[_,_]).Nodup;have big:∀ y∈s.leaves,∀ n:Int,2*(i:Int)+1≤n→y≠.int n:=fun y hy n hn e=>by
   obtain ⟨q,hq,x',hx',_⟩:=h.leaf y hy;have hql:q < 2*i+1:=by rw [← h.len]; exact (A5.1 hx').1
   rw [hq] at e;injection e with e
   omega
  have hsub:∀ y∈s.leaves.take k++s.leaves.drop (k+1),y∈s.leaves:=fun y hy=>by
   rcases AQ.1 hy with hy | hy
   ·exact List.mem_of_mem_take hy
   ·exact List.mem_of_mem_drop hy
  rw [List.nodup_append];refine ⟨?_,?_,?_⟩
  ·rw [← vbx];exact List.Nodup.sublist (List.eraseIdx_sublist ..) h.dist
  ·rw [List.nodup_cons];refine ⟨fun hm=>?_,by simp⟩;simp only [AT,List.not_mem_nil,or_false] at hm;injection hm with hm
   omega
  ·intro y hy z hz e;subst e;simp only [AT,List.not_mem_nil,or_false] at hz;rcases hz with hz | hz
   ·exact big y (hsub y hy) _ (by omega) hz
   ·exact big y (hsub y hy) _ (by omega) hz
 ·intro j;show J1 (s.nodes.set p _++[_,_]) j=_;rw [Kg];have h1:=oZ (N0 false 0 f a (2*(i:Int)+1) (2*(i:Int)+1+1)) j hx;rw [Y2 hlf,h.cnt j] at h1;have h2:J1 [I0 (C2 (DS val (2*(i:Int)+1)) (-3000) 3000),I0 (C2 (DS val (2*(i:Int)+2)) (-3000) 3000)] j=0:=by
   show nm _ j+(nm _ j+0)=0;rw [Y2 L1,Y2 L2]
  have h3:=Kh f a (2*i+1) j;have e:((2*i+1:Nat):Int)=2*(i:Int)+1:=by omega
  rw [e] at h3;rw [h3] at h1;rw [h2];by_cases c1:1≤j∧j < 2*i+1
  ·rw [A6 c1,AX (by omega),AX (by omega)] at h1;rw [A6 (by omega)];omega
  ·rw [AX c1] at h1;by_cases c2:j=2*i+1
   ·rw [A6 c2,AX (by omega)] at h1;rw [A6 (by omega)];omega
   ·by_cases c3:j=2*i+1+1
    ·rw [AX c2,A6 c3] at h1;rw [A6 (by omega)];omega
    ·rw [AX c2,AX c3] at h1;rw [AX (by omega)];omega
theorem o9 {part byl atl val:LI} {dim:Int} (hd:1≤dim∧dim≤4):∀ (d i:Nat) (s:Ns),i+d≤7→NsOK dim i s→NsOK dim (i+d) (SI part byl atl val dim d i s)
 | 0,i,s,_,h=>h
 | d+1,i,s,hi,h=>by
  have:=o9 (part:=part) (byl:=byl) (atl:=atl) (val:=val) hd d (i+1) _ (by omega) (Kq (part:=part) (byl:=byl) (atl:=atl) (val:=val) hd (by omega) h)
  rw [vaD,Nat.add_comm 1 d] at this;exact this
theorem pA (part byl atl val:LI) {dim:Int} (hd:1≤dim∧dim≤4):∃ i,i≤7∧NsOK dim i (LM part byl atl val dim):=by
 refine ⟨min part.length 7,by omega,?_⟩
 have:=o9 (part:=part) (byl:=byl) (atl:=atl) (val:=val) hd (min part.length 7) 0 _ (by omega) (Kr val dim)
 rw [A3] at this;exact this
open Go
theorem Nd.eq_of {x y:Nd} (h:x.eq y=true):x=y:=by
 obtain ⟨a1,a2,a3,a4,a5,a6⟩:=x;obtain ⟨b1,b2,b3,b4,b5,b6⟩:=y;simp only [Nd.eq,AG,BP,CE] at h;obtain ⟨rfl,rfl,rfl,rfl,rfl,rfl⟩:=h;rfl
theorem dZ {w:Int} (h:EQ w=true):GM (CW w)=w∧GZ (CW w)=true:=by
 have hn:CW w=JM w:=by unfold CW; rw [h]; rfl
 unfold EQ at h;simp only [AG,BO,BP,BN] at h;rw [hn];refine ⟨h.2,?_⟩;cases hr:GZ (JM w) with
 | true=>rfl
 | false=>
  have:=h.2
  unfold GM at this;rw [hr] at this;exact absurd this.symm h.1
def dJ (i:Nat):Bool:=EQ (FB true ((i:Int) - 3000) 0 0 0 0)&&(CW (FB true ((i:Int) - 3000) 0 0 0 0)).eq ⟨true,(i:Int) - 3000,0,0,0,0⟩
def YR:Nat→Bool
 | 0=>true
 | n+1=>dJ n&&YR n
theorem oC:∀ {n i:Nat},YR n=true→i < n→dJ i=true
 | n+1,i,h,hi=>by
  rw [YR,AG] at h;by_cases e:i=n
  ·subst e; exact h.1
  ·exact oC h.2 (by omega)
def cL (i:Nat):Bool:=EQ (FB false 0 ((i % 4:Nat):Int) ((i / 4 % 10:Nat):Int) ((i / 40:Nat):Int) (((i / 40:Nat):Int)+1)) &&
 (CW (FB false 0 ((i % 4:Nat):Int) ((i / 4 % 10:Nat):Int) ((i / 40:Nat):Int) (((i / 40:Nat):Int)+1))).eq ⟨false,0,((i % 4:Nat):Int),((i / 4 % 10:Nat):Int),((i / 40:Nat):Int),((i / 40:Nat):Int)+1⟩
def X3:Nat→Bool
 | 0=>true
 | n+1=>(A8 n 40||cL n)&&X3 n
theorem mZ:∀ {n i:Nat},X3 n=true→i < n→40≤i→cL i=true
 | n+1,i,h,hi,h40=>by
  rw [X3,AG] at h;by_cases e:i=n
  ·subst e
   have:=h.1
   rw [Bool.or_eq_true] at this;rcases this with h1 | h1
   ·have:i < 40:=AL h1
    omega
   ·exact h1
  ·exact mZ h.2 (by omega) h40
theorem Gk:YR 6001=true:=by kernel_rfl
theorem Bn:X3 1200=true:=by kernel_rfl
theorem dG {v:Int} (h0 : -3000≤v) (h1:v≤3000):EQ (FB true v 0 0 0 0)=true∧CW (FB true v 0 0 0 0)=⟨true,v,0,0,0,0⟩:=by
 have h:=oC Gk (show (v+3000).toNat < 6001 by omega);have e:(((v+3000).toNat:Nat):Int) - 3000=v:=by omega
 unfold dJ at h;rw [e,AG] at h;exact ⟨h.1,Nd.eq_of h.2⟩
theorem m7 {f a l:Int} (hf:0≤f∧f < 4) (ha:0≤a∧a≤9) (hl:1≤l∧l≤28):EQ (FB false 0 f a l (l+1))=true∧CW (FB false 0 f a l (l+1))=⟨false,0,f,a,l,l+1⟩:=by
 have h:=mZ Bn (show l.toNat*40+a.toNat*4+f.toNat < 1200 by omega) (by omega);have e1:(((l.toNat*40+a.toNat*4+f.toNat) % 4:Nat):Int)=f:=by omega
 have e2:(((l.toNat*40+a.toNat*4+f.toNat) / 4 % 10:Nat):Int)=a:=by omega
 have e3:(((l.toNat*40+a.toNat*4+f.toNat) / 40:Nat):Int)=l:=by omega
 unfold cL at h;rw [e1,e2,e3,AG] at h;exact ⟨h.1,Nd.eq_of h.2⟩
theorem Tc {dim n:Int} (hd:dim≤4) (hn:n≤29) {i:Nat} {x:IV} (h:MR x∨O2 dim n i x) (j:Nat):HM (CW (N5 x).toInt) j=nm x j:=by
 rcases h with ⟨v,h0,h1,rfl⟩ | ⟨f,a,l,h0,h1,h2,h3,h4,h5,rfl⟩
 ·show HM (CW (FB true v 0 0 0 0)) j=_;rw [(dG h0 h1).2];rfl
 ·show HM (CW (FB false 0 f a l (l+1))) j=_;rw [(m7 ⟨h0,by omega⟩ ⟨h2,h3⟩ ⟨by omega,by omega⟩).2];rfl
theorem Td {dim n:Int} (hd:dim≤4) (hn:n≤29) {i:Nat} {x:IV} (h:MR x∨O2 dim n i x):(EQ (N5 x).toInt&&JV dim n i (CW (N5 x).toInt))=true:=by
 rcases h with ⟨v,h0,h1,rfl⟩ | ⟨f,a,l,h0,h1,h2,h3,h4,h5,rfl⟩
 ·show (EQ (FB true v 0 0 0 0)&&JV dim n i (CW (FB true v 0 0 0 0)))=true;rw [(dG h0 h1).1,(dG h0 h1).2];rfl
 ·show (EQ (FB false 0 f a l (l+1))&&JV dim n i (CW (FB false 0 f a l (l+1))))=true;have hw:=m7 ⟨h0,by omega⟩ ⟨h2,h3⟩ (show 1≤l∧l≤28 by omega);rw [hw.1,hw.2];unfold JV;simp only [BQ,AJ (show ¬ f≥dim by omega),BN.2 (show l≠l+1 by omega),AJ (show ¬ min l (l+1)≤(i:Int) by omega),AJ (show ¬ max l (l+1)≥n by omega)];rfl
theorem o6 {dim n:Int} (hd:dim≤4) (hn:n≤29):∀ {l:LI} {i:Nat},(∀ (k:Nat) x,l[k]?=some x→MR x∨O2 dim n (i+k) x)→HN dim n i (l.map N5)=true
 | [],_,_=>rfl
 | x :: l,i,h=>by
  rw [A2,HN,AG];refine ⟨Td hd hn (h 0 x rfl),o6 hd hn (i:=i+1) fun k y hk=>?_⟩
  have:=h (k+1) y (by simpa using hk)
  rwa [show i+(k+1)=i+1+k by omega] at this
theorem oW {dim n:Int} (hd:dim≤4) (hn:n≤29) (j:Nat):∀ {l:LI} {i:Nat},(∀ (k:Nat) x,l[k]?=some x→MR x∨O2 dim n (i+k) x)→EY (l.map N5) j=J1 l j
 | [],_,_=>rfl
 | x :: l,i,h=>by
  have ih:=oW hd hn j (l:=l) (i:=i+1) fun k y hk=>by
   have:=h (k+1) y (by simpa using hk)
   rwa [show i+(k+1)=i+1+k by omega] at this
  have h0:=Tc hd hn (h 0 x rfl) j;unfold EY J1 at ih ⊢;simp only [A2,List.sum_cons];rw [h0,ih]
theorem Kk (part byl atl val:LI) {dim:Int} (hd:1≤dim∧dim≤4):FQ (J2 part byl atl val dim) dim=true:=by
 obtain ⟨i,hi,h⟩:=pA part byl atl val hd;have hlen:(J2 part byl atl val dim).length=2*i+1:=by
  unfold J2;rw [CL,h.len]
 have hn:∀ (k:Nat) x,(LM part byl atl val dim).nodes[k]?=some x→MR x∨O2 dim (ic (J2 part byl atl val dim).length) (0+k) x:=fun k x hk=>by
  have e:ic (J2 part byl atl val dim).length=2*(i:Int)+1:=by simp only [ic]; omega
  rw [e,A3];exact h.node k x hk
 have hb:ic (J2 part byl atl val dim).length≤29:=by simp only [ic]; omega
 unfold FQ;rw [AG,AG,AG];refine ⟨⟨BW (by omega),BW (by omega)⟩,o6 hd.2 hb hn,?_⟩;unfold O8;rw [vah];intro j hj;have hj:=List.mem_range.1 hj;rw [BP]
 have:=oW hd.2 hb (j+1) hn
 have e:EY (J2 part byl atl val dim) (j+1)=J1 (LM part byl atl val dim).nodes (j+1):=this;rw [e,h.cnt,A6 (by omega)]
theorem VA (d:Int):1≤KM d∧KM d≤3:=(H1 (n:=d) (lo:=1) (hi:=3) (by omega) (by omega) (by omega)).2
theorem XI (d:Int):1≤H6 d∧H6 d≤3:=(H1 (n:=d) (lo:=1) (hi:=3) (by omega) (by omega) (by omega)).2
def dV (d c:Int) (bias ts:LI):Md:=⟨KM d,H6 c,NN c bias 0,NN c bias 1,NN c bias 2,PI d c ts⟩
theorem aW (c:Int) (bias:LI) (j:Int):FR (H6 c) j (NN c bias j)=true:=by
 unfold FR NN
 have:=(H1 (n:=DS bias j) (lo := -500) (hi:=500) (by omega) (by omega) (by omega)).2
 rcases Int.lt_or_le j (H6 c) with h | h
 ·rw [AE h,AJ (show ¬ j≥H6 c by omega)];simp only [CF,B5,BX,vay];unfold DZ;rw [AE (by omega),AE (by omega)];rfl
 ·rw [AJ (show ¬ j < H6 c by omega),AE (show j≥H6 c from h)];rfl
theorem So (d c:Int) (t:IV):GN (KM d) (H6 c) (SZ d c t)=true:=by
 have hd:=VA d;have hc:=XI c;have hk:=(H1 (n:=(t.cell 0).toInt) (lo:=0) (hi:=H6 c - 1) (by omega) (by omega) (by omega)).2;show (!(decide (C2 (t.cell 0).toInt 0 (H6 c - 1) < 0))&&(!(decide (C2 (t.cell 0).toInt 0 (H6 c - 1)≥H6 c))&&FQ (J2 (t.cell 1).toList (t.cell 2).toList (t.cell 3).toList (t.cell 4).toList (KM d)) (KM d)))=true;rw [AJ (by omega),AJ (by omega),Kk _ _ _ _ ⟨hd.1,by omega⟩];rfl
theorem Ss (d c:Int) (ts:LI):(PI d c ts).all (GN (KM d) (H6 c))=true:=by
 rw [vah];intro t ht;unfold PI at ht;obtain ⟨u,_,rfl⟩:=List.mem_map.1 ht;exact So d c u
theorem Sq (d c:Int) (ts:LI):(PI d c ts).length≤4:=by
 unfold PI;rw [CL,A7];omega
theorem Gs {m:Md} (hd:1≤m.d∧m.d≤4) (hc:1≤m.c∧m.c≤3) (hl:m.ts.length≤8) (h0:FR m.c 0 m.b0=true) (h1:FR m.c 1 m.b1=true) (h2:FR m.c 2 m.b2=true) (ht:m.ts.all (GN m.d m.c)=true):DR m=true:=by
 unfold DR;rw [AJ (show ¬ m.d < 1 by omega),AJ (show ¬ m.d > 4 by omega),AJ (show ¬ m.c < 1 by omega),AJ (show ¬ m.c > 3 by omega),BW hl,h0,h1,h2,ht];rfl
theorem Gt (d c:Int) (bias ts:LI):DR (dV d c bias ts)=true:=by
 have hd:=VA d;have hc:=XI c;exact Gs (m:=dV d c bias ts) ⟨hd.1,by show KM d≤4; omega⟩ hc (by have:=Sq d c ts; show (PI d c ts).length≤8; omega) (aW c bias 0) (aW c bias 1) (aW c bias 2) (Ss d c ts)
open Go
abbrev D8:List Kd:=[.bool,.z,.z]
def KV (x:IV):Bool:=(x.cell 0).toBool
def FI (x:IV):Int:=(x.cell 1).toInt
def HP (x:IV):Int:=(x.cell 2).toInt
def ZW (x y:IV):Bool:=KV x==KV y&&(FI x==FI y&&HP x==HP y)
def Rr (x:IV):Bool:=!(KV x&&!(FI x==0&&HP x==0))&&(decide (0≤FI x)&&decide (FI x≤4))
def Ru (l:LI):Bool:=decide (1≤l.length)&&(decide (l.length≤65536)&&l.all Rr)
def IK:LI→LI→Bool
 | [],[]=>true
 | x :: l,y :: m=>ZW x y&&IK l m
 | _,_=>false
def TF:DB
 | [.list true [.bool,.z,.z] l,.list true [.bool,.z,.z] m]=>.ok (.bool (IK l m)) []
 | _=>.no
structure Vd where
 kind:Int
 proof:LI
 w0:Int
 w1:Int
 w2:Int
 w3:Int
 twin:Int
 spent:Int
def Vd.none:Vd:=⟨0,[],0,0,0,0,0,0⟩
def Vd.V (v:Vd):V:=.agg [.int .i64 v.kind,.list true D8 v.proof,.int .i64 v.w0,.int .i64 v.w1,.int .i64 v.w2,.int .i64 v.w3,.int .i64 v.twin,.int .i64 v.spent]
def Vd.bare (v:Vd):Bool:=v.w0==0&&(v.w1==0&&(v.w2==0&&(v.w3==0&&v.twin==0)))
def Vd.right (v:Vd):Bool:=
 decide (0≤v.spent)&&(decide (v.spent≤65536) &&
  (v.kind==1&&(v.bare&&Ru v.proof)||(v.kind==2&&v.proof.isEmpty||(v.kind==3||v.kind==4)&&(v.bare&&v.proof.isEmpty))))
def WV (a b:Vd):Bool:=a.kind==b.kind&&(IK a.proof b.proof&&(a.w0==b.w0&&(a.w1==b.w1&&(a.w2==b.w2&&(a.w3==b.w3&&(a.twin==b.twin&&a.spent==b.spent))))))
def TK:DB
 | [.agg [.int .i64 k,.list true [.bool,.z,.z] p,.int .i64 a,.int .i64 b,.int .i64 c,.int .i64 d,.int .i64 t,.int .i64 s],
  .agg [.int .i64 k',.list true [.bool,.z,.z] p',.int .i64 a',.int .i64 b',.int .i64 c',.int .i64 d',.int .i64 t',.int .i64 s']]=>.ok (.bool (WV ⟨k,p,a,b,c,d,t,s⟩ ⟨k',p',a',b',c',d',t',s'⟩)) []
 | _=>.no
open Go
def Nd.cs (x:Nd):List FM.V:=[.bool x.lf,.int .i64 x.v,.int .i64 x.f,.int .i64 x.a,.int .i64 x.l,.int .i64 x.r]
def Nd.V (x:Nd):FM.V:=.agg x.cs
def Md.cs (m:Md):List FM.V:=[.int .i64 m.d,.int .i64 m.c,.int .i64 m.b0,.int .i64 m.b1,.int .i64 m.b2,.list true [.z,.list false [.int .u64]] m.ts]
def Md.V (m:Md):FM.V:=.agg m.cs
def Qy.cs (q:Qy):List FM.V:=[.int .i64 q.k,.int .i64 q.c,.int .i64 q.a0,.int .i64 q.b0,.int .i64 q.a1,.int .i64 q.b1,.int .i64 q.a2,.int .i64 q.b2,.int .i64 q.a3,.int .i64 q.b3,.int .i64 q.a4,.int .i64 q.b4,.int .i64 q.lo,.int .i64 q.hi,.int .i64 q.ft,.bool q.fl,.int .i64 q.bu]
def Vd.cs (v:Vd):List FM.V:=[.int .i64 v.kind,.list true [.bool,.z,.z] v.proof,.int .i64 v.w0,.int .i64 v.w1,.int .i64 v.w2,.int .i64 v.w3,.int .i64 v.twin,.int .i64 v.spent]
def Ak.cs (a:Ak):List FM.V:=[.int .i64 a.k,.int .i64 a.c,.int .i64 a.lo,.int .i64 a.size,.int .i64 a.ft,.int .i64 a.bu,.bool a.fl,.list false [.z] a.sp]
def Ak.V (a:Ak):FM.V:=.agg a.cs
structure Sp where
 lo:Int
 hi:Int
def Sp.cs (s:Sp):List FM.V:=[.int .i64 s.lo,.int .i64 s.hi]
def Sp.V (s:Sp):FM.V:=.agg s.cs
structure Bx where
 s0:Sp
 s1:Sp
 s2:Sp
 s3:Sp
 s4:Sp
def Bx.g (b:Bx):Nat→Sp
 | 0=>b.s0
 | 1=>b.s1
 | 2=>b.s2
 | 3=>b.s3
 | _=>b.s4
def Bx.p (b:Bx) (s:Sp):Nat→Bx
 | 0=>⟨s,b.s1,b.s2,b.s3,b.s4⟩
 | 1=>⟨b.s0,s,b.s2,b.s3,b.s4⟩
 | 2=>⟨b.s0,b.s1,s,b.s3,b.s4⟩
 | 3=>⟨b.s0,b.s1,b.s2,s,b.s4⟩
 | _=>⟨b.s0,b.s1,b.s2,b.s3,s⟩
def Bx.cs (b:Bx):List FM.V:=[.int .i64 b.s0.lo,.int .i64 b.s0.hi,.int .i64 b.s1.lo,.int .i64 b.s1.hi,.int .i64 b.s2.lo,.int .i64 b.s2.hi,.int .i64 b.s3.lo,.int .i64 b.s3.hi,.int .i64 b.s4.lo,.int .i64 b.s4.hi]
def Bx.V (b:Bx):FM.V:=.agg b.cs
structure Pt where
 p0:Int
 p1:Int
 p2:Int
 p3:Int
def Pt.cs (p:Pt):List FM.V:=[.int .i64 p.p0,.int .i64 p.p1,.int .i64 p.p2,.int .i64 p.p3]
def Pt.V (p:Pt):FM.V:=.agg p.cs
def Pt.g (p:Pt):Nat→Int
 | 0=>p.p0
 | 1=>p.p1
 | 2=>p.p2
 | _=>p.p3
def spOf?:List FM.V→Option Sp
 | [.int .i64 a,.int .i64 b]=>some ⟨a,b⟩
 | _=>none
def ptOf?:List FM.V→Option Pt
 | [.int .i64 a,.int .i64 b,.int .i64 c,.int .i64 d]=>some ⟨a,b,c,d⟩
 | _=>none
def bxOf?:List FM.V→Option Bx
 | [.int .i64 a0,.int .i64 b0,.int .i64 a1,.int .i64 b1,.int .i64 a2,.int .i64 b2,.int .i64 a3,.int .i64 b3,.int .i64 a4,.int .i64 b4]=>some ⟨⟨a0,b0⟩,⟨a1,b1⟩,⟨a2,b2⟩,⟨a3,b3⟩,⟨a4,b4⟩⟩
 | _=>none
def mdOf?:List FM.V→Option Md
 | [.int .i64 d,.int .i64 c,.int .i64 b0,.int .i64 b1,.int .i64 b2,.list true [.z,.list false [.int .u64]] ts]=>some ⟨d,c,b0,b1,b2,ts⟩
 | _=>none
def qyOf?:List FM.V→Option Qy
 | [.int .i64 k,.int .i64 c,.int .i64 a0,.int .i64 b0,.int .i64 a1,.int .i64 b1,.int .i64 a2,.int .i64 b2,.int .i64 a3,.int .i64 b3,.int .i64 a4,.int .i64 b4,.int .i64 lo,.int .i64 hi,.int .i64 ft,.bool fl,.int .i64 bu]=>
  some ⟨k,c,a0,b0,a1,b1,a2,b2,a3,b3,a4,b4,lo,hi,ft,fl,bu⟩
 | _=>none
def OC {α:Type} (of:List FM.V→Option α) (v:FM.V) (k:α→R):R:=
 match v with
 | .agg l=>match of l with | some x=>k x | none=>.no
 | _=>.no
abbrev aE (v:FM.V) (k:Sp→R):R:=OC spOf? v k
abbrev MI (v:FM.V) (k:Pt→R):R:=OC ptOf? v k
abbrev HD (v:FM.V) (k:Bx→R):R:=OC bxOf? v k
abbrev GO (v:FM.V) (k:Md→R):R:=OC mdOf? v k
abbrev GI (v:FM.V) (k:Qy→R):R:=OC qyOf? v k
theorem RJ {α:Type} {of:List FM.V→Option α} {v:FM.V} {k:α→R} {z:FM.V × List (List FM.V)} (h:(OC of v k).get=some z):∃ l x,v = .agg l∧of l=some x∧(k x).get=some z:=by
 unfold OC at h;split at h
 ·rename_i l;split at h
  ·rename_i x hx;exact ⟨l,x,rfl,hx,h⟩
  ·simp [R.get] at h
 ·simp [R.get] at h
theorem hU {v:FM.V} {k:Sp→R} {z:FM.V × List (List FM.V)} (h:(aE v k).get=some z):∃ x:Sp,v=x.V∧(k x).get=some z:=by
 obtain ⟨l,x,rfl,hx,h⟩:=RJ h;unfold spOf? at hx;split at hx
 ·simp only [AB] at hx;subst hx;exact ⟨_,rfl,h⟩
 ·cases hx
theorem M8 {v:FM.V} {k:Pt→R} {z:FM.V × List (List FM.V)} (h:(MI v k).get=some z):∃ x:Pt,v=x.V∧(k x).get=some z:=by
 obtain ⟨l,x,rfl,hx,h⟩:=RJ h;unfold ptOf? at hx;split at hx
 ·simp only [AB] at hx;subst hx;exact ⟨_,rfl,h⟩
 ·cases hx
theorem HQ {v:FM.V} {k:Bx→R} {z:FM.V × List (List FM.V)} (h:(HD v k).get=some z):∃ x:Bx,v=x.V∧(k x).get=some z:=by
 obtain ⟨l,x,rfl,hx,h⟩:=RJ h;unfold bxOf? at hx;split at hx
 ·simp only [AB] at hx;subst hx;exact ⟨_,rfl,h⟩
 ·cases hx
theorem GU {v:FM.V} {k:Md→R} {z:FM.V × List (List FM.V)} (h:(GO v k).get=some z):∃ x:Md,v=x.V∧(k x).get=some z:=by
 obtain ⟨l,x,rfl,hx,h⟩:=RJ h;unfold mdOf? at hx;split at hx
 ·simp only [AB] at hx;subst hx;exact ⟨_,rfl,h⟩
 ·cases hx
theorem GP {v:FM.V} {k:Qy→R} {z:FM.V × List (List FM.V)} (h:(GI v k).get=some z):∃ x:Qy,v=x.V∧(k x).get=some z:=by
 obtain ⟨l,x,rfl,hx,h⟩:=RJ h;unfold qyOf? at hx;split at hx
 ·simp only [AB] at hx;subst hx;exact ⟨_,rfl,h⟩
 ·cases hx
def Sp.emp (s:Sp):Bool:=decide (s.lo > s.hi)
def Sp.has (s:Sp) (n:Int):Bool:=decide (s.lo≤n)&&decide (n≤s.hi)
def HB (lo hi:Int):Sp:=cond (decide (lo > hi)) ⟨1,0⟩ ⟨lo,hi⟩
def Sp.cutL (s:Sp) (a:Int):Sp:=HB s.lo (min s.hi a)
def Sp.cutH (s:Sp) (a:Int):Sp:=cond (decide (a≥s.hi)) ⟨1,0⟩ (HB (max s.lo (C6 (a+1))) s.hi)
def QB:DB
 | []=>.ok (.agg [.int .i64 1,.int .i64 0]) []
 | _=>.no
def UQ:DB
 | [.int .i64 lo,.int .i64 hi]=>.ok (HB lo hi).V []
 | _=>.no
def QA:DB
 | [s]=>aE s fun s=>.ok (.bool (s.emp)) []
 | _=>.no
def UP:DB
 | [s,.int .i64 n]=>aE s fun s=>.ok (.bool (s.has n)) []
 | _=>.no
def W5:DB
 | [s,.int .i64 n]=>aE s fun s=>.ok (.tup [(s.cutL n).V,(s.cutH n).V]) []
 | _=>.no
def Bx.I (b:Bx):IV:=.agg [.int b.s0.lo,.int b.s0.hi,.int b.s1.lo,.int b.s1.hi,.int b.s2.lo,.int b.s2.hi,.int b.s3.lo,.int b.s3.hi,.int b.s4.lo,.int b.s4.hi]
abbrev cI (x:IV) (j:Nat):Int:=(x.cell j).toInt
def C9 (x:IV):Bx:=⟨⟨cI x 0,cI x 1⟩,⟨cI x 2,cI x 3⟩,⟨cI x 4,cI x 5⟩,⟨cI x 6,cI x 7⟩,⟨cI x 8,cI x 9⟩⟩
abbrev D0:List Kd:=[.z,.z,.z,.z,.z,.z,.z,.z,.z,.z]
def Bx.emp (b:Bx):Bool:=b.s0.emp||(b.s1.emp||(b.s2.emp||(b.s3.emp||b.s4.emp)))
def RT:Bx:=⟨⟨0,0⟩,⟨0,0⟩,⟨0,0⟩,⟨0,0⟩,⟨0,0⟩⟩
def FS (i:Int):Bool:=decide (0≤i)&&decide (i < 5)
def Bx.cutL (b:Bx) (i a:Int):Bx:=b.p ((b.g i.toNat).cutL a) i.toNat
def Bx.cutH (b:Bx) (i a:Int):Bx:=b.p ((b.g i.toNat).cutH a) i.toNat
def Pt.p (p:Pt) (x:Int):Nat→Pt
 | 0=>⟨x,p.p1,p.p2,p.p3⟩
 | 1=>⟨p.p0,x,p.p2,p.p3⟩
 | 2=>⟨p.p0,p.p1,x,p.p3⟩
 | _=>⟨p.p0,p.p1,p.p2,x⟩
def Bx.low (b:Bx):Pt:=⟨b.s0.lo,b.s1.lo,b.s2.lo,b.s3.lo⟩
def Bx.has (b:Bx) (p:Pt) (t:Int):Bool:=b.s0.has p.p0&&(b.s1.has p.p1&&(b.s2.has p.p2&&(b.s3.has p.p3&&b.s4.has t)))
def LR:DB
 | [b]=>HD b fun b=>.ok (.bool (b.emp)) []
 | _=>.no
def TE:DB
 | [b]=>HD b fun b=>.ok b.low.V []
 | _=>.no
def P2:DB
 | [b,.int .i64 i,.int .i64 a]=>HD b fun b=>.br (FS i) (.ok (.tup [(b.cutL i a).V,(b.cutH i a).V]) []) .no
 | _=>.no
def E0 (l:LI) (p:Pt):Nat→Int→Int × Nd
 | 0,_=>(-1,Nd.zero)
 | n+1,a=>
  cond (decide (a≥ic l.length)) (-1,Nd.zero)
   (cond (!(EQ (l.getD a.toNat default).toInt)) (-1,Nd.zero)
    (cond (CW (l.getD a.toNat default).toInt).lf (a,CW (l.getD a.toNat default).toInt)
     (cond (decide (p.g (CW (l.getD a.toNat default).toInt).f.toNat≤(CW (l.getD a.toNat default).toInt).a)) (E0 l p n (CW (l.getD a.toNat default).toInt).l) (E0 l p n (CW (l.getD a.toNat default).toInt).r))))
def QK (l:LI) (p:Pt):Int:=(E0 l p 31 0).1
def VC (l:LI) (p:Pt):Nd:=(E0 l p 31 0).2
def US:DB
 | [.list false [.int .u64] l,p]=>MI p fun p=>.ok (.tup [.int .i64 (QK l p),(VC l p).V]) []
 | _=>.no
def FF (l:LI) (p:Pt):Int:=(VC l p).v
def UR:DB
 | [.list false [.int .u64] l,p]=>MI p fun p=>.ok (.int .i64 (FF l p)) []
 | _=>.no
def I9 (m:Md) (c:Int):Int:=cond (c==0) m.b0 (cond (c==1) m.b1 m.b2)
abbrev PH (t:IV):Int:=cI t 0
abbrev EA (t:IV):LI:=(t.cell 1).toList
def KN (c:Int) (p:Pt):LI→Int→Int
 | [],s=>s
 | t :: r,s=>KN c p r (cond (PH t==c) (s+FF (EA t) p) s)
def GA (m:Md) (c:Int):Bool:=decide (0≤c)&&decide (c < m.c)
def UB:DB
 | [m,.int .i64 k,p]=>GO m fun m=>MI p fun p=>.br (DR m&&GA m k) (.ok (.int .i64 (KN k p m.ts (I9 m k))) []) .no
 | _=>.no
def C1 (m:Md) (k:Int) (p:Pt):Int:=cond (DR m&&GA m k) (KN k p m.ts (I9 m k)) 0
def T9:DB
 | [m,.int .i64 k,p]=>GO m fun m=>MI p fun p=>.ok (.int .i64 (C1 m k p)) []
 | _=>.no
def QO (x:Int):List Int→List Int
 | []=>[x]
 | y :: r=>cond (decide (x≤y)) (x :: y :: r) (y :: QO x r)
def IE:List Int→List Int
 | []=>[]
 | x :: r=>QO x (IE r)
def HT:Int→List Int→List Int
 | _,[]=>[]
 | p,x :: r=>cond (x==p) (HT x r) (x :: HT x r)
def GY:List Int→List Int
 | []=>[]
 | x :: r=>x :: HT x r
def GS (f:Int) (w:IV):List Int:=cond (!(CW w.toInt).lf&&(CW w.toInt).f==f) [(CW w.toInt).a] []
def GH (ts:LI) (f:Int):List Int:=ts.flatMap fun t=>(EA t).flatMap (GS f)
def G0 (ts:LI) (f:Int):List Int:=GY (IE (GH ts f))
def iZ (l:List Int):LI:=l.map IV.int
def UA:DB
 | [m,.int .i64 f]=>GO m fun m=>.br (DR m) (.ok (.vec 3 false [.z] (iZ (G0 m.ts f))) []) .no
 | _=>.no
def YA:Ip:=⟨3,false,fun rs l=>match rs with
 | []=>some (iZ (IE (l.map IV.toInt)))
 | _=>none⟩
def X8:Ip:=⟨3,true,fun rs l=>match rs with
 | []=>some (iZ (GY (l.map IV.toInt)))
 | _=>none⟩
def HJ (a b:Int) (l:List Int):List Int:=l.filter fun t=>!(decide (t < a)||decide (t≥b))
def X9:Ip:=⟨3,true,fun rs l=>match rs with
 | [.clo f [.bor [.int .i64 a,.int .i64 b]]]=>cond (A4 f 65) (some (iZ (HJ a b (l.map IV.toInt)))) none
 | _=>none⟩
def Qy.bx (q:Qy):Bx:=⟨⟨q.a0,q.b0⟩,⟨q.a1,q.b1⟩,⟨q.a2,q.b2⟩,⟨q.a3,q.b3⟩,⟨q.a4,q.b4⟩⟩
def FP (d i:Int) (s:Sp):Bool:=!(decide (i≥d)&&!((s.lo==0)&&(s.hi==0)))&&(!s.emp&&(DZ s.lo&&DZ s.hi))
def MA (b:Bx) (d:Int):Bool:=FP d 0 b.s0&&(FP d 1 b.s1&&(FP d 2 b.s2&&(FP d 3 b.s3&&FP d 4 b.s4)))
def UJ:DB
 | [b,.int .i64 d]=>HD b fun b=>.ok (.bool (MA b d)) []
 | _=>.no
def JZ (m:Md) (q:Qy):Bool:=
 cond (q.k==1) (decide (q.lo≤q.hi)&&((q.ft==0)&&!q.fl))
  (cond (q.k==2) (decide (m.c≥2)&&((q.lo==0)&&((q.hi==0)&&((q.ft==0)&&!q.fl))))
   (cond (q.k==3) (decide (q.ft≥0)&&(decide (q.ft < m.d)&&((q.lo==0)&&(q.hi==0)))) false))
def DQ (m:Md) (q:Qy):Bool:=DR m&&(decide (q.c≥0)&&(decide (q.c < m.c)&&(decide (q.bu≥0)&&(decide (q.bu≤65536)&&(MA q.bx m.d&&JZ m q)))))
def EZ (q:Qy):Bool:=(q.k==3)&&(decide (q.ft≥0)&&decide (q.ft < 4))
def DL (q:Qy):Bx:=q.bx.p (cond (EZ q) (q.bx.g q.ft.toNat) ⟨0,0⟩) 4
def FO (q:Qy) (p:Pt) (t:Int):Pt:=cond (EZ q) (p.p t q.ft.toNat) p
def Q4 (m:Md) (q:Qy) (p:Pt) (own:Int):Bool:=(List.range m.c.toNat).any fun c=>!((c:Int)==q.c)&&decide (C1 m (c:Int) p≥own)
def EJ (m:Md) (q:Qy) (p:Pt) (t:Int):Bool:=
 DQ m q &&
  cond (q.k==1) (!(Sp.has ⟨q.lo,q.hi⟩ (C1 m q.c p)))
   (cond (q.k==2) (Q4 m q p (C1 m q.c p))
    (cond (decide (p.g q.ft.toNat≥t)) false
     (cond q.fl (decide (C1 m q.c (FO q p t) > C1 m q.c p)) (decide (C1 m q.c (FO q p t) < C1 m q.c p)))))
def LG (n:Nd) (i:Nat) (own:LI):LI:=
 cond n.lf own ((own.set n.l.toNat ((C9 (own.getD i default)).cutL n.f n.a).I).set n.r.toNat ((C9 (own.getD i default)).cutH n.f n.a).I)
def V8 (b:Bx) (v:Int):IV:=.agg [.int b.s0.lo,.int b.s0.hi,.int b.s1.lo,.int b.s1.hi,.int b.s2.lo,.int b.s2.hi,.int b.s3.lo,.int b.s3.hi,.int b.s4.lo,.int b.s4.hi,.int v]
abbrev FU (x:IV):Int:=cI x 10
abbrev JJ:List Kd:=[.z,.z,.z,.z,.z,.z,.z,.z,.z,.z,.z]
def KQ:LI→Nat→LI→LI→LI
 | [],_,_,out=>out
 | w :: r,i,own,out=>KQ r (i+1) (LG (CW w.toInt) i own) (cond ((CW w.toInt).lf&&!(C9 (own.getD i default)).emp) (out++[V8 (C9 (own.getD i default)) (CW w.toInt).v]) out)
def GK (l:LI) (b:Bx):LI:=cond (FQ l 4&&!b.emp) (KQ l 0 ((vak l.length RT.I).set 0 b.I) []) []
def T8:DB
 | [.list false [.int .u64] l,b]=>HD b fun b=>.ok (.list true JJ (GK l b)) []
 | _=>.no
def LK:LI→Int→Int
 | [],a=>a
 | x :: r,a=>LK r (min a (FU x))
def LH:LI→Int→Int
 | [],a=>a
 | x :: r,a=>LH r (max a (FU x))
def WB (ps:LI):Int:=LK ps (FU (ps.getD 0 default))
def WA (ps:LI):Int:=LH ps (FU (ps.getD 0 default))
def RB (l:LI) (b:Bx):Bool:=!((GK l b).isEmpty)
def KC (l:LI) (b:Bx):Int:=cond (RB l b) (WB (GK l b)) 0
def KB (l:LI) (b:Bx):Int:=cond (RB l b) (WA (GK l b)) 0
def TC:DB
 | [.list false [.int .u64] l,b]=>HD b fun b=>.ok (.tup [.int .i64 (KC l b),.int .i64 (KB l b),.bool (RB l b)]) []
 | _=>.no
def JP (h:LI→Int) (c:Int):LI→Int→Int
 | [],s=>s
 | t :: r,s=>JP h c r (cond (PH t==c) (s+h (EA t)) s)
def FZ (m:Md) (c:Int) (b:Bx):Bool:=DR m&&(GA m c&&!b.emp)
def F8 (m:Md) (c:Int) (b:Bx):Int:=cond (FZ m c b) (JP (fun l=>KC l b) c m.ts (I9 m c)) 0
def E7 (m:Md) (c:Int) (b:Bx):Int:=cond (FZ m c b) (JP (fun l=>KB l b) c m.ts (I9 m c)) 0
def NF:DB
 | [m,.int .i64 k,b]=>GO m fun m=>HD b fun b=>.ok (.tup [.int .i64 (F8 m k b),.int .i64 (E7 m k b),.bool (FZ m k b)]) []
 | _=>.no
def MX (m:Md) (c lo:Int) (b:Bx):Nat→Int→Int→Bool→Int
 | 0,_,a,_=>a
 | n+1,i,a,z=>cond (i==c) (MX m c lo b n (i+1) a z)
  (cond (!z||decide (lo - E7 m i b < a)) (MX m c lo b n (i+1) (lo - E7 m i b) true) (MX m c lo b n (i+1) a z))
def LJ (m:Md) (c:Int) (b:Bx):Bool:=FZ m c b&&decide (m.c≥2)
def O4 (m:Md) (c:Int) (b:Bx):Int:=cond (LJ m c b) (MX m c (F8 m c b) b m.c.toNat 0 0 false) 0
def TB:DB
 | [m,.int .i64 k,b]=>GO m fun m=>HD b fun b=>.ok (.tup [.int .i64 (O4 m k b),.bool (LJ m k b)]) []
 | _=>.no
def H8 (q:Qy) (b:Bx):Bx:=cond (EZ q) (b.p ⟨0,0⟩ 4) b
def ID (q:Qy) (b:Bx):Bx:=cond (EZ q) ((b.p b.s4 q.ft.toNat).p ⟨0,0⟩ 4) b
def L8 (q:Qy) (b:Bx):Bool:=EZ q&&(!b.emp&&decide ((b.g q.ft.toNat).lo < b.s4.hi))
def JE (m:Md) (q:Qy) (b:Bx):Bool:=EZ q&&(FZ m q.c (H8 q b)&&FZ m q.c (ID q b))
def OX (m:Md) (q:Qy) (b:Bx):Int:=cond (JE m q b) (F8 m q.c (ID q b) - E7 m q.c (H8 q b)) 0
def OW (m:Md) (q:Qy) (b:Bx):Int:=cond (JE m q b) (E7 m q.c (ID q b) - F8 m q.c (H8 q b)) 0
def EX (m:Md) (q:Qy) (b:Bx):Bool:=
 DQ m q &&
  cond b.emp true
   (cond (q.k==1) (FZ m q.c b&&(decide (q.lo≤F8 m q.c b)&&decide (E7 m q.c b≤q.hi)))
    (cond (q.k==2) (LJ m q.c b&&decide (O4 m q.c b > 0))
     (cond (!(L8 q b)) true
      (cond q.fl (JE m q b&&decide (OW m q b≤0)) (JE m q b&&decide (OX m q b≥0))))))
def FW (q:Qy) (i:Int):Int:=cond (decide (i≥0)&&decide (i < 4)) i (cond ((i==4)&&(q.k==3)) q.ft (-1))
def C7 (m:Md) (q:Qy) (b:Bx) (i:Nat):List Int:=
 cond (decide (FW q (i:Int) < 0)) [] (HJ (b.g i).lo (b.g i).hi (G0 m.ts (FW q (i:Int))))
def IM (m:Md) (q:Qy) (b:Bx):Nat→Nat→Option (Int × Int)
 | 0,_=>none
 | n+1,i=>cond (decide ((C7 m q b i).length > 0)) (some ((i:Int),(C7 m q b i).getD (((C7 m q b i).length - 1) / 2) 0)) (IM m q b n (i+1))
def DV (m:Md) (q:Qy) (b:Bx):Option (Int × Int):=IM m q b 5 0
def UI:DB
 | [m,q]=>GO m fun m=>GI q fun q=>.ok (.bool (JZ m q)) []
 | _=>.no
def NJ:DB
 | [m,q]=>GO m fun m=>GI q fun q=>.ok (.bool (DQ m q)) []
 | _=>.no
def P8:DB
 | [q]=>GI q fun q=>.ok (.bool (EZ q)) []
 | _=>.no
def LT:DB
 | [q]=>GI q fun q=>.ok (.bool (EZ q)) []
 | _=>.no
def P7:DB
 | [q]=>GI q fun q=>.ok (DL q).V []
 | _=>.no
def UH:DB
 | [q,p,.int .i64 t]=>GI q fun q=>MI p fun p=>.ok (FO q p t).V []
 | _=>.no
def UG:DB
 | [m,q,p,.int .i64 t]=>GO m fun m=>GI q fun q=>MI p fun p=>.ok (.bool (EJ m q p t)) []
 | _=>.no
def TZ:DB
 | [q,b]=>GI q fun q=>HD b fun b=>.ok (H8 q b).V []
 | _=>.no
def T2:DB
 | [q,b]=>GI q fun q=>HD b fun b=>.ok (ID q b).V []
 | _=>.no
def T1:DB
 | [q,b]=>GI q fun q=>HD b fun b=>.ok (.bool (L8 q b)) []
 | _=>.no
def TY:DB
 | [m,q,b]=>GO m fun m=>GI q fun q=>HD b fun b=>.ok (.tup [.int .i64 (OX m q b),.int .i64 (OW m q b),.bool (JE m q b)]) []
 | _=>.no
def T3:DB
 | [m,q,b]=>GO m fun m=>GI q fun q=>HD b fun b=>.ok (.bool (EX m q b)) []
 | _=>.no
def T4:DB
 | [b]=>HD b fun b=>.ok (.tup [b.low.V,.int .i64 b.s4.hi]) []
 | _=>.no
def T7:DB
 | [q,.int .i64 i]=>GI q fun q=>.ok (.int .i64 (FW q i)) []
 | _=>.no
def P5:DB
 | [m,q,b,.int .i64 i]=>GO m fun m=>GI q fun q=>HD b fun b=>.br (DR m&&FS i) (.ok (.list false [.z] (iZ (C7 m q b i.toNat))) []) .no
 | _=>.no
def HO (o:Option (Int × Int)):Int:=match o with | none=>0 | some (i,_)=>i
def GC (o:Option (Int × Int)):Int:=match o with | none=>0 | some (_,a)=>a
def T5:DB
 | [m,q,b]=>GO m fun m=>GI q fun q=>HD b fun b=>.br (DR m) (.ok (.tup [.int .i64 (HO (DV m q b)),.int .i64 (GC (DV m q b)),.bool (DV m q b).isSome]) []) .no
 | _=>.no
structure Sr where
 left:LI
 proof:LI
 v:Vd
 spent:Int
def MF (s:Bool) (p a:Int):IV:=.agg [.bool s,.int p,.int a]
def C3 (l:LI):Bx:=C9 (l.getD (l.length - 1) default)
def E5 (l:LI):LI:=l.take (l.length - 1)
def EB (m:Md) (q:Qy) (s:Sr):Sr:=
 cond (EX m q (C3 s.left)) ⟨E5 s.left,s.proof++[MF true 0 0],cond (ic (s.left.length - 1)==0) ⟨1,s.proof++[MF true 0 0],0,0,0,0,0,0⟩ s.v,s.spent+1⟩
  (cond (EJ m q (C3 s.left).low (C3 s.left).s4.hi) ⟨E5 s.left,s.proof,⟨2,[],(C3 s.left).s0.lo,(C3 s.left).s1.lo,(C3 s.left).s2.lo,(C3 s.left).s3.lo,(C3 s.left).s4.hi,0⟩,s.spent+1⟩
   (cond (DV m q (C3 s.left)).isSome
    ⟨E5 s.left++[((C3 s.left).cutH (HO (DV m q (C3 s.left))) (GC (DV m q (C3 s.left)))).I,((C3 s.left).cutL (HO (DV m q (C3 s.left))) (GC (DV m q (C3 s.left)))).I],
     s.proof++[MF false (HO (DV m q (C3 s.left))) (GC (DV m q (C3 s.left)))],s.v,s.spent+1⟩
    ⟨E5 s.left,s.proof,⟨3,[],0,0,0,0,0,0⟩,s.spent+1⟩))
def E4 (q:Qy) (s:Sr):Bool:=!(s.v.kind==0)||decide (s.spent≥q.bu)
def FH (m:Md) (q:Qy):Nat→Sr→Sr
 | 0,s=>s
 | n+1,s=>cond (E4 q s) s (FH m q n (EB m q s))
def QX (m:Md) (q:Qy):Sr:=cond (DQ m q) ⟨[(DL q).I],[],Vd.none,0⟩ ⟨[],[],⟨4,[],0,0,0,0,0,0⟩,0⟩
def GT (s:Sr):Vd:=⟨cond (s.v.kind==0) 3 s.v.kind,s.v.proof,s.v.w0,s.v.w1,s.v.w2,s.v.w3,s.v.twin,s.spent⟩
def D2 (m:Md) (q:Qy):Vd:=GT (FH m q (q.bu.toNat+1) (QX m q))
def EO (m:Md) (q:Qy) (r:List FM.V):List FM.V:=m.cs++(q.cs++r)
def seOf? (l:List FM.V):Option (Md × Qy × List FM.V):=
 match mdOf? (l.take 6),qyOf? ((l.drop 6).take 17) with
 | some m,some q=>some (m,q,(l.drop 6).drop 17)
 | _,_=>none
abbrev dF (l:LI):FM.V:=.vec 31 true D0 l
abbrev Gb (l:LI):FM.V:=.vec 71 true D8 l
abbrev X1 (l:LI):FM.V:=.list true D8 l
def S0 (v:Vd) (vp:FM.V) (sp:Int):List FM.V:=[.int .i64 v.kind,vp,.int .i64 v.w0,.int .i64 v.w1,.int .i64 v.w2,.int .i64 v.w3,.int .i64 v.twin,.int .i64 v.spent,.int .i64 sp]
def LO (t:Nat) (m:Md) (q:Qy) (s:Sr):List FM.V:=
 EO m q (match t with
  | 0=>dF s.left :: Gb s.proof :: S0 s.v .zs s.spent
  | 1=>dF s.left :: .zs :: S0 s.v .zs s.spent
  | 2=>dF s.left :: X1 s.proof :: S0 s.v (X1 s.v.proof) s.spent
  | _=>.zs :: .zs :: S0 s.v .zs s.spent)
def srT?:List FM.V→Option (Nat × Sr)
 | [.vec 31 true [.z,.z,.z,.z,.z,.z,.z,.z,.z,.z] l,.vec 71 true [.bool,.z,.z] p,.int .i64 k,.zs,.int .i64 a,.int .i64 b,.int .i64 c,.int .i64 d,.int .i64 t,.int .i64 vs,.int .i64 sp]=>some (0,⟨l,p,⟨k,[],a,b,c,d,t,vs⟩,sp⟩)
 | [.vec 31 true [.z,.z,.z,.z,.z,.z,.z,.z,.z,.z] l,.zs,.int .i64 k,.zs,.int .i64 a,.int .i64 b,.int .i64 c,.int .i64 d,.int .i64 t,.int .i64 vs,.int .i64 sp]=>some (1,⟨l,[],⟨k,[],a,b,c,d,t,vs⟩,sp⟩)
 | [.vec 31 true [.z,.z,.z,.z,.z,.z,.z,.z,.z,.z] l,.list true [.bool,.z,.z] p,.int .i64 k,.list true [.bool,.z,.z] vp,.int .i64 a,.int .i64 b,.int .i64 c,.int .i64 d,.int .i64 t,.int .i64 vs,.int .i64 sp]=>some (2,⟨l,p,⟨k,vp,a,b,c,d,t,vs⟩,sp⟩)
 | [.zs,.zs,.int .i64 k,.zs,.int .i64 a,.int .i64 b,.int .i64 c,.int .i64 d,.int .i64 t,.int .i64 vs,.int .i64 sp]=>some (3,⟨[],[],⟨k,[],a,b,c,d,t,vs⟩,sp⟩)
 | _=>none
def aF (v:FM.V) (k:Nat→Md→Qy→Sr→R):R:=
 match v with
 | .bor l=>match seOf? l with
  | some (m,q,r)=>match srT? r with
   | some (t,s)=>k t m q s
   | none=>.no
  | none=>.no
 | _=>.no
def ZZ (m:Md) (q:Qy) (t:Nat) (s:Sr):Nat:=
 cond (EX m q (C3 s.left)) (cond (ic (s.left.length - 1)==0) 2 0)
  (cond (EJ m q (C3 s.left).low (C3 s.left).s4.hi) t (cond (DV m q (C3 s.left)).isSome 0 t))
def UK:DB
 | [m,q]=>GO m fun m=>GI q fun q=>.br (DQ m q) (.ok (.bor (LO 1 m q ⟨[(DL q).I],[],Vd.none,0⟩)) []) (.ok (.bor (LO 3 m q ⟨[],[],⟨4,[],0,0,0,0,0,0⟩,0⟩)) [])
 | _=>.no
def UL:DB
 | [x]=>aF x fun t m q s=>
  .br (E4 q s) (.ok (.bool false) [LO t m q s])
   (.br (BM t 1&&(DQ m q&&(decide (0≤s.spent)&&(A8 0 s.left.length&&(BM s.left.length 100000&&BM s.proof.length 100000)))))
    (.br (EX m q (C3 s.left)) (.br (ic (s.left.length - 1)==0) (.ok (.bool true) [LO 2 m q (EB m q s)]) (.ok (.bool true) [LO 0 m q (EB m q s)]))
     (.br (EJ m q (C3 s.left).low (C3 s.left).s4.hi) (.ok (.bool true) [LO t m q (EB m q s)])
      (.br (DV m q (C3 s.left)).isSome (.ok (.bool true) [LO 0 m q (EB m q s)]) (.ok (.bool true) [LO t m q (EB m q s)])))) .no)
 | _=>.no
def UM:DB
 | [x]=>aF x fun t m q s=>.br (BM s.v.proof.length 100000) (.ok (GT s).V [LO t m q s]) .no
 | _=>.no
def P9:DB
 | [m,q]=>GO m fun m=>GI q fun q=>.ok (D2 m q).V []
 | _=>.no
def W4:DB
 | [.list true [.bool,.z,.z] l]=>.br (BM l.length 100000) (.ok (.vec 71 true D8 l) []) .no
 | _=>.no
open Go Go.Proofs
def wU (N:Nat):Env:=DJ [] [] 2 N
theorem Ka (N:Nat):DE (wU N) kT [.cell 0 29] [[.z,.z]] []=(some ((.agg [.i 1,.i 0]),[])):=by kernel_rfl
def wV (N:Nat):Env:=DJ [(82,QB)] [] 12 N
theorem Kb (N:Nat) (lo hi:Int):DE (wV N) kU [.cell 4 29] [[.z,.z]] [.i lo,.i hi]=(cond (decide (lo > hi)) (some ((.agg [.i 1,.i 0]),[])) (some ((.agg [.i lo,.i hi]),[]))):=by kernel_rfl
def wS (N:Nat):Env:=DJ [] [] 8 N
theorem Jy (N:Nat) (s:Sp):DE (wS N) kR [.tmp 2] [[.bool]] [(Sp.V s)]=(some ((.bool (decide (Sp.lo s > Sp.hi s))),[])):=by kernel_rfl
def wT (N:Nat):Env:=DJ [] [] 15 N
theorem Jz (N:Nat) (s:Sp) (n:Int):DE (wT N) kS [.tmp 4] [[.bool]] [(Sp.V s),.i n]=(cond (decide (Sp.lo s≤n)) (some ((.bool (decide (n≤Sp.hi s))),[])) (some ((.bool false),[]))):=by kernel_rfl
def wR (N:Nat):Env:=DJ [(82,QB),(81,UQ)] [] 29 N
theorem Jx (N:Nat) (s:Sp) (atv:Int):DE (wR N) kQ [.cell 4 29,.cell 5 29] [[.z,.z],[.z,.z]] [(Sp.V s),.i atv]=(cond (decide (atv≥Sp.hi s)) (some ((.tup [(Sp.V (HB (Sp.lo s) (min (Sp.hi s) atv))),.agg [.i 1,.i 0]]),[])) (some ((.tup [(Sp.V (HB (Sp.lo s) (min (Sp.hi s) atv))),(Sp.V (HB (max (Sp.lo s) (AA AC (atv+1))) (Sp.hi s)))]),[]))):=by kernel_rfl
def H3 (N:Nat):Env:=DJ [(84,LV)] [(3,⟨[0,3,4,5,6,9],[3,5],[]⟩)] 46 N
abbrev I7 (p:Pt) (l0:LI) (x4 x6 x9:Int) (u00:Bool) (u01 u02 u03 u04 u05:Int):St:=⟨[(0,(.list false [.int .u64] l0)),(3,(.ptr 3 0 0)),(4,(.i x4)),(5,(.ptr 5 0 0)),(6,(.i x6)),(9,(.i x9))],[(3,(some (.box (Pt.cs p)))),(5,(some (.box [.bool u00,.i u01,.i u02,.i u03,.i u04,.i u05])))]⟩
theorem Kf (N:Nat) (l:LI) (p:Pt):DE (H3 N) KL [.tmp 4,.cell 5 89] [[.z],[.bool,.z,.z,.z,.z,.z]] [.list false [.int .u64] l,(Pt.V p)]=(DC (H3 N) (CX KL [1,1,0,1,0,0]) ⟨[0,3,4,5,6,9],[3,5],[]⟩ N (I7 p l 0 0 0 false 0 0 0 0 0) (C4 0 (C5 (H3 N) (CX KL [1,1,1]) (C8 (H3 N) none [.tmp 4,.cell 5 89] [[.z],[.bool,.z,.z,.z,.z,.z]])))):=by kernel_rfl
theorem uB (N:Nat) (p:Pt) (l0:LI) (x4 x6 x9:Int) (u00:Bool) (u01 u02 u03 u04 u05:Int) (again:St→C0) (k:Out→St→C0):EK (H3 N) (CX KL [1,1,0,1,0,0]) (I7 p l0 x4 x6 x9 u00 u01 u02 u03 u04 u05) (EF again ⟨[0,3,4,5,6,9],[3,5],[]⟩ k)=(cond (decide (x9 < 31)) (cond (decide (x6≥ic (AF l0))) (k (.exit 0) (I7 p l0 x4 x6 x9 u00 u01 u02 u03 u04 u05)) (cond (decide (0≤x6)&&decide (x6 < ic (AF l0))) (cond (!EQ (IV.toInt (AH l0 (AD x6) default))) (k .ret (I7 p l0 (-1) x6 x9 false 0 0 0 0 0)) (cond (Nd.lf (CW (IV.toInt (AH l0 (AD x6) default)))) (k .ret ⟨[(0,(.list false [.int .u64] l0)),(3,(.ptr 3 0 0)),(4,(.i x6)),(5,(.ptr 5 0 0)),(6,(.i x6)),(9,(.i x9))],[(3,(some (.box (Pt.cs p)))),(5,(some (.box (Nd.cs (CW (IV.toInt (AH l0 (AD x6) default)))))))]⟩) (cond (decide (Nd.f (CW (IV.toInt (AH l0 (AD x6) default)))=ic 0)) (cond (decide (Pt.p0 p≤Nd.a (CW (IV.toInt (AH l0 (AD x6) default))))) (again (I7 p l0 x4 (Nd.l (CW (IV.toInt (AH l0 (AD x6) default)))) (AA AC (x9+1)) u00 u01 u02 u03 u04 u05)) (again (I7 p l0 x4 (Nd.r (CW (IV.toInt (AH l0 (AD x6) default)))) (AA AC (x9+1)) u00 u01 u02 u03 u04 u05))) (cond (decide (Nd.f (CW (IV.toInt (AH l0 (AD x6) default)))=ic 1)) (cond (decide (Pt.p1 p≤Nd.a (CW (IV.toInt (AH l0 (AD x6) default))))) (again (I7 p l0 x4 (Nd.l (CW (IV.toInt (AH l0 (AD x6) default)))) (AA AC (x9+1)) u00 u01 u02 u03 u04 u05)) (again (I7 p l0 x4 (Nd.r (CW (IV.toInt (AH l0 (AD x6) default)))) (AA AC (x9+1)) u00 u01 u02 u03 u04 u05))) (cond (decide (Nd.f (CW (IV.toInt (AH l0 (AD x6) default)))=ic 2)) (cond (decide (Pt.p2 p≤Nd.a (CW (IV.toInt (AH l0 (AD x6) default))))) (again (I7 p l0 x4 (Nd.l (CW (IV.toInt (AH l0 (AD x6) default)))) (AA AC (x9+1)) u00 u01 u02 u03 u04 u05)) (again (I7 p l0 x4 (Nd.r (CW (IV.toInt (AH l0 (AD x6) default)))) (AA AC (x9+1)) u00 u01 u02 u03 u04 u05))) (cond (decide (Nd.f (CW (IV.toInt (AH l0 (AD x6) default)))=ic 3)) (cond (decide (Pt.p3 p≤Nd.a (CW (IV.toInt (AH l0 (AD x6) default))))) (again (I7 p l0 x4 (Nd.l (CW (IV.toInt (AH l0 (AD x6) default)))) (AA AC (x9+1)) u00 u01 u02 u03 u04 u05)) (again (I7 p l0 x4 (Nd.r (CW (IV.toInt (AH l0 (AD x6) default)))) (AA AC (x9+1)) u00 u01 u02 u03 u04 u05))) none)))))) none)) (k (.exit 0) (I7 p l0 x4 x6 x9 u00 u01 u02 u03 u04 u05))):=by kernel_rfl
theorem mP (N:Nat) (p:Pt) (l0:LI) (x4 x6 x9:Int) (u00:Bool) (u01 u02 u03 u04 u05:Int):(C4 0 (C5 (H3 N) (CX KL [1,1,1]) (C8 (H3 N) none [.tmp 4,.cell 5 89] [[.z],[.bool,.z,.z,.z,.z,.z]]))) (.exit 0) (I7 p l0 x4 x6 x9 u00 u01 u02 u03 u04 u05)=(some ((.tup [.i (-1),.agg [.bool false,.i 0,.i 0,.i 0,.i 0,.i 0]]),[])):=by kernel_rfl
theorem Be (N:Nat) (p:Pt) (l0:LI) (x4 x6 x9:Int) (u00:Bool) (u01 u02 u03 u04 u05:Int):(C4 0 (C5 (H3 N) (CX KL [1,1,1]) (C8 (H3 N) none [.tmp 4,.cell 5 89] [[.z],[.bool,.z,.z,.z,.z,.z]]))) .ret (I7 p l0 x4 x6 x9 u00 u01 u02 u03 u04 u05)=(some ((.tup [.i x4,.agg [.bool u00,.i u01,.i u02,.i u03,.i u04,.i u05]]),[])):=by kernel_rfl
def wW (N:Nat):Env:=DJ [(99,US)] [] 15 N
theorem Ke (N:Nat) (l:LI) (p:Pt):DE (wW N) kV [.tmp 4] [[.z]] [.list false [.int .u64] l,(Pt.V p)]=(some ((.i (Nd.v (VC l p))),[])):=by kernel_rfl
def IR (N:Nat):Env:=DJ [(92,UR)] [(3,⟨[1,5,6,7,15,16,17],[5],[]⟩)] 33 N
abbrev OF (p:Pt) (x1 x6 x7:Int) (l15:LI) (x16 x17:Int):St:=⟨[(1,(.i x1)),(5,(.ptr 5 0 0)),(6,(.i x6)),(7,(.i x7)),(15,(.list true FA l15)),(16,(.i x16)),(17,(.i x17))],[(5,(some (.box (Pt.cs p))))]⟩
theorem Jb (N:Nat) (m:Md) (u00:Int) (p:Pt):DE (IR N) K8 [.tmp 6] [[.z]] [(Md.V m),.i u00,(Pt.V p)]=(cond (decide (u00=ic 0)) (DC (IR N) (CX K8 [1,1,0,1,0,0]) ⟨[1,5,6,7,15,16,17],[5],[]⟩ N (OF p u00 0 (Md.b0 m) (Md.ts m) (ic (AF (Md.ts m))) 0) (C4 0 (C5 (IR N) (CX K8 [1,1,1]) (C8 (IR N) none [.tmp 6] [[.z]])))) (cond (decide (u00=ic 1)) (DC (IR N) (CX K8 [1,1,0,1,0,0]) ⟨[1,5,6,7,15,16,17],[5],[]⟩ N (OF p u00 0 (Md.b1 m) (Md.ts m) (ic (AF (Md.ts m))) 0) (C4 0 (C5 (IR N) (CX K8 [1,1,1]) (C8 (IR N) none [.tmp 6] [[.z]])))) (cond (decide (u00=ic 2)) (DC (IR N) (CX K8 [1,1,0,1,0,0]) ⟨[1,5,6,7,15,16,17],[5],[]⟩ N (OF p u00 0 (Md.b2 m) (Md.ts m) (ic (AF (Md.ts m))) 0) (C4 0 (C5 (IR N) (CX K8 [1,1,1]) (C8 (IR N) none [.tmp 6] [[.z]])))) none))):=by kernel_rfl
theorem tU (N:Nat) (p:Pt) (x1 x6 x7:Int) (l15:LI) (x16 x17:Int) (again:St→C0) (k:Out→St→C0):EK (IR N) (CX K8 [1,1,0,1,0,0]) (OF p x1 x6 x7 l15 x16 x17) (EF again ⟨[1,5,6,7,15,16,17],[5],[]⟩ k)=(cond (decide (x17 < x16)) (cond (decide (0≤x17)&&decide (x17 < ic (AF l15))) (cond (IV.toInt (IV.cell (AH l15 (AD x17) default) 0)==x1) (again (OF p x1 x6 (AA AC (x7+FF (IV.toList (IV.cell (AH l15 (AD x17) default) 1)) p)) l15 x16 (AA AC (x17+1)))) (again (OF p x1 x6 x7 l15 x16 (AA AC (x17+1))))) none) (k (.exit 0) (OF p x1 x6 x7 l15 x16 x17))):=by kernel_rfl
theorem Ah (N:Nat) (p:Pt) (x1 x6 x7:Int) (l15:LI) (x16 x17:Int):(C4 0 (C5 (IR N) (CX K8 [1,1,1]) (C8 (IR N) none [.tmp 6] [[.z]]))) (.exit 0) (OF p x1 x6 x7 l15 x16 x17)=(some ((.i x7),[])):=by kernel_rfl
def wC (N:Nat):Env:=DJ [(49,LU),(80,UB)] [] 24 N
theorem Ix (N:Nat) (m:Md) (u00:Int) (p:Pt):DE (wC N) kA [.tmp 6] [[.z]] [(Md.V m),.i u00,(Pt.V p)]=(cond (!DR m) (some ((.i 0),[])) (cond (decide (u00 < 0)) (some ((.i 0),[])) (cond (decide (u00≥Md.c m)) (some ((.i 0),[])) (cond (DR m&&GA m u00) (some ((.i (KN u00 p (Md.ts m) (I9 m u00))),[])) none)))):=by kernel_rfl
def vI (N:Nat):Env:=DJ [(75,QA)] [(2,⟨[2,5,6],[],[]⟩)] 12 N
def vJ (N:Nat):Env:=DJ [] [(3,⟨[1,2,3,5],[1,2,3],[]⟩)] 16 N
open Go Go.Proofs
def KE (N:Nat):Env:=YZ [(49,LU),(84,LV)] [(86,X8),(85,YA)] [(5,⟨[1,4,5,16,17,18],[500],[⟨.tmp 5,500,3,false,[.z]⟩]⟩),(8,⟨[1,4,5,16,17,18,23,24,25],[500],[⟨.tmp 5,500,3,false,[.z]⟩]⟩)] 54 N
abbrev S6 (x1:Int) (n5:Nat) (l16:LI) (x17 x18:Int) (u00:LI):St:=⟨[(1,(.i x1)),(4,.zs),(5,(.row 500 0 n5)),(16,(.list true FA l16)),(17,(.i x17)),(18,(.i x18))],[(500,(some (.row true 3 false [.z] u00)))]⟩
abbrev PU (x1:Int) (n5:Nat) (l16:LI) (x17 x18:Int) (l23:LI) (x24 x25:Int) (u00:LI):St:=⟨[(1,(.i x1)),(4,.zs),(5,(.row 500 0 n5)),(16,(.list true FA l16)),(17,(.i x17)),(18,(.i x18)),(23,(.list false [.int .u64] l23)),(24,(.i x24)),(25,(.i x25))],[(500,(some (.row true 3 false [.z] u00)))]⟩
theorem Ja (N:Nat) (m:Md) (u00:Int):DE (KE N) K7 [.tmp 4] [] [(Md.V m),.i u00]=(cond (!DR m) (some (.any,[])) (DC (KE N) (CX K7 [1,1,1,0,1,0,0]) ⟨[1,4,5,16,17,18],[500],[⟨(.tmp 5),500,3,false,[.z]⟩]⟩ N (S6 u00 0 (Md.ts m) (ic (AF (Md.ts m))) 0 []) (C4 0 (C5 (KE N) (CX K7 [1,1,1,1]) (C8 (KE N) none [.tmp 4] []))))):=by kernel_rfl
theorem tS (N:Nat) (x1:Int) (n5:Nat) (l16:LI) (x17 x18:Int) (u00:LI) (again:St→C0) (k:Out→St→C0):EK (KE N) (CX K7 [1,1,1,0,1,0,0]) (S6 x1 n5 l16 x17 x18 u00) (EF again ⟨[1,4,5,16,17,18],[500],[⟨(.tmp 5),500,3,false,[.z]⟩]⟩ k)=(cond (decide (x18 < x17)) (cond (decide (0≤x18)&&decide (x18 < ic (AF l16))) (DC (KE N) (CX K7 [1,1,1,0,1,0,0,1,1,0,0,1,1,0,0]) ⟨[1,4,5,16,17,18,23,24,25],[500],[⟨(.tmp 5),500,3,false,[.z]⟩]⟩ N (PU x1 n5 l16 x17 x18 (IV.toList (IV.cell (AH l16 (AD x18) default) 1)) (ic (AF (IV.toList (IV.cell (AH l16 (AD x18) default) 1)))) 0 u00) (C4 2 (C4 1 (C5 (KE N) (CX K7 [1,1,1,0,1,0,0,1,1,1]) (EF again ⟨[1,4,5,16,17,18],[500],[⟨(.tmp 5),500,3,false,[.z]⟩]⟩ k))))) none) (k (.exit 0) (S6 x1 n5 l16 x17 x18 u00))):=by kernel_rfl
theorem tT (N:Nat) (x1:Int) (n5:Nat) (l16:LI) (x17 x18:Int) (l23:LI) (x24 x25:Int) (u00:LI) (again:St→C0) (k:Out→St→C0):EK (KE N) (CX K7 [1,1,1,0,1,0,0,1,1,0,0,1,1,0,0]) (PU x1 n5 l16 x17 x18 l23 x24 x25 u00) (EF again ⟨[1,4,5,16,17,18,23,24,25],[500],[⟨(.tmp 5),500,3,false,[.z]⟩]⟩ k)=(cond (decide (x25 < x24)) (cond (decide (0≤x25)&&decide (x25 < ic (AF l23))) (cond (!Nd.lf (CW (IV.toInt (AH l23 (AD x25) default)))) (cond (Nd.f (CW (IV.toInt (AH l23 (AD x25) default)))==x1) (cond (decide ((n5+1)*8≤D5)) (again (PU x1 (n5+1) l16 x17 x18 l23 x24 (AA AC (x25+1)) (AY n5 u00++[IV.int (Nd.a (CW (IV.toInt (AH l23 (AD x25) default))))]))) none) (again (PU x1 n5 l16 x17 x18 l23 x24 (AA AC (x25+1)) u00))) (again (PU x1 n5 l16 x17 x18 l23 x24 (AA AC (x25+1)) u00))) none) (k (.exit 2) (PU x1 n5 l16 x17 x18 l23 x24 x25 u00))):=by kernel_rfl
theorem Af (N:Nat) (x1:Int) (n5:Nat) (l16:LI) (x17 x18:Int) (u00:LI):(C4 0 (C5 (KE N) (CX K7 [1,1,1,1]) (C8 (KE N) none [.tmp 4] []))) (.exit 0) (S6 x1 n5 l16 x17 x18 u00)=(cond (A4 n5 (AF u00)) (cond (A4 (AF (iZ (IE (va3 IV.toInt u00)))) (AF u00)) (cond (A4 n5 (AF (iZ (IE (va3 IV.toInt u00))))) (cond (BM (AF (iZ (GY (va3 IV.toInt (iZ (IE (va3 IV.toInt u00))))))) (AF (iZ (IE (va3 IV.toInt u00))))) (some ((.vec 3 false [.z] (AY (AF (iZ (GY (va3 IV.toInt (iZ (IE (va3 IV.toInt u00))))))) (iZ (GY (va3 IV.toInt (iZ (IE (va3 IV.toInt u00)))))))),[])) none) none) none) none):=by kernel_rfl
theorem Ag (N:Nat) (again:St→C0) (k:Out→St→C0) (x1:Int) (n5:Nat) (l16:LI) (x17 x18:Int) (l23:LI) (x24 x25:Int) (u00:LI):(C4 2 (C4 1 (C5 (KE N) (CX K7 [1,1,1,0,1,0,0,1,1,1]) (EF again ⟨[1,4,5,16,17,18],[500],[⟨(.tmp 5),500,3,false,[.z]⟩]⟩ k)))) (.exit 2) (PU x1 n5 l16 x17 x18 l23 x24 x25 u00)=(again (S6 x1 n5 l16 x17 (AA AC (x18+1)) u00)):=by kernel_rfl
def wB (N:Nat):Env:=DJ [] [] 23 N
theorem Iv (N:Nat) (q:Qy) (u00:Int):DE (wB N) j9 [.tmp 4] [[.z]] [(Qy.V q),.i u00]=(cond (decide (u00≥0)) (cond (decide (u00 < 4)) (some ((.i u00),[])) (cond (u00==4) (cond (Qy.k q==3) (some ((.i (Qy.ft q)),[])) (some ((.i (-1)),[]))) (some ((.i (-1)),[])))) (cond (u00==4) (cond (Qy.k q==3) (some ((.i (Qy.ft q)),[])) (some ((.i (-1)),[]))) (some ((.i (-1)),[])))):=by kernel_rfl
def iH (N:Nat):Env:=YZ [(62,T7),(64,UA)] [(63,X9)] [] 24 N
def wM (N:Nat):Env:=DJ [] [] 71 N
theorem Jl (N:Nat) (m:Md) (a1:Qy):DE (wM N) kK [.tmp 4] [[.bool]] [(Md.V m),(Qy.V a1)]=(cond (Qy.k a1==1) (cond (decide (Qy.lo a1≤Qy.hi a1)) (cond (Qy.ft a1==0) (some ((.bool (!Qy.fl a1)),[])) (some ((.bool false),[]))) (some ((.bool false),[]))) (cond (Qy.k a1==2) (cond (decide (Md.c m≥2)) (cond (Qy.lo a1==0) (cond (Qy.hi a1==0) (cond (Qy.ft a1==0) (some ((.bool (!Qy.fl a1)),[])) (some ((.bool false),[]))) (some ((.bool false),[]))) (some ((.bool false),[]))) (some ((.bool false),[]))) (cond (Qy.k a1==3) (cond (decide (Qy.ft a1≥0)) (cond (decide (Qy.ft a1 < Md.d m)) (cond (Qy.lo a1==0) (some ((.bool (Qy.hi a1==0)),[])) (some ((.bool false),[]))) (some ((.bool false),[]))) (some ((.bool false),[]))) (some ((.bool false),[]))))):=by kernel_rfl
def wJ (N:Nat):Env:=DJ [(49,LU),(51,UI),(50,UJ)] [] 41 N
theorem Ji (N:Nat) (m:Md) (q:Qy):DE (wJ N) kH [.tmp 4] [[.bool]] [(Md.V m),(Qy.V q)]=(cond (DR m) (cond (decide (Qy.c q≥0)) (cond (decide (Qy.c q < Md.c m)) (cond (decide (Qy.bu q≥0)) (cond (decide (Qy.bu q≤65536)) (cond (MA {s0:={lo:=Qy.a0 q,hi:=Qy.b0 q},s1:={lo:=Qy.a1 q,hi:=Qy.b1 q},s2:={lo:=Qy.a2 q,hi:=Qy.b2 q},s3:={lo:=Qy.a3 q,hi:=Qy.b3 q},s4:={lo:=Qy.a4 q,hi:=Qy.b4 q}} (Md.d m)) (some ((.bool (JZ m q)),[])) (some ((.bool false),[]))) (some ((.bool false),[]))) (some ((.bool false),[]))) (some ((.bool false),[]))) (some ((.bool false),[]))) (some ((.bool false),[]))):=by kernel_rfl
def wN (N:Nat):Env:=DJ [] [] 16 N
theorem Jm (N:Nat) (q:Qy):DE (wN N) kL [.tmp 2] [[.bool]] [(Qy.V q)]=(cond (Qy.k q==3) (cond (decide (Qy.ft q≥0)) (some ((.bool (decide (Qy.ft q < 4))),[])) (some ((.bool false),[]))) (some ((.bool false),[]))):=by kernel_rfl
def wL (N:Nat):Env:=DJ [(38,P8)] [] 16 N
theorem Jk (N:Nat) (q:Qy):DE (wL N) kJ [.cell 2 31] [[.z,.z,.z,.z,.z,.z,.z,.z,.z,.z]] [(Qy.V q)]=(cond (EZ q) (cond (decide (Qy.ft q=ic 0)) (some ((.agg [.i (Qy.a0 q),.i (Qy.b0 q),.i (Qy.a1 q),.i (Qy.b1 q),.i (Qy.a2 q),.i (Qy.b2 q),.i (Qy.a3 q),.i (Qy.b3 q),.i (Qy.a0 q),.i (Qy.b0 q)]),[])) (cond (decide (Qy.ft q=ic 1)) (some ((.agg [.i (Qy.a0 q),.i (Qy.b0 q),.i (Qy.a1 q),.i (Qy.b1 q),.i (Qy.a2 q),.i (Qy.b2 q),.i (Qy.a3 q),.i (Qy.b3 q),.i (Qy.a1 q),.i (Qy.b1 q)]),[])) (cond (decide (Qy.ft q=ic 2)) (some ((.agg [.i (Qy.a0 q),.i (Qy.b0 q),.i (Qy.a1 q),.i (Qy.b1 q),.i (Qy.a2 q),.i (Qy.b2 q),.i (Qy.a3 q),.i (Qy.b3 q),.i (Qy.a2 q),.i (Qy.b2 q)]),[])) (cond (decide (Qy.ft q=ic 3)) (some ((.agg [.i (Qy.a0 q),.i (Qy.b0 q),.i (Qy.a1 q),.i (Qy.b1 q),.i (Qy.a2 q),.i (Qy.b2 q),.i (Qy.a3 q),.i (Qy.b3 q),.i (Qy.a3 q),.i (Qy.b3 q)]),[])) (cond (decide (Qy.ft q=ic 4)) (some ((.agg [.i (Qy.a0 q),.i (Qy.b0 q),.i (Qy.a1 q),.i (Qy.b1 q),.i (Qy.a2 q),.i (Qy.b2 q),.i (Qy.a3 q),.i (Qy.b3 q),.i 0,.i 0]),[])) none))))) (some ((.agg [.i (Qy.a0 q),.i (Qy.b0 q),.i (Qy.a1 q),.i (Qy.b1 q),.i (Qy.a2 q),.i (Qy.b2 q),.i (Qy.a3 q),.i (Qy.b3 q),.i 0,.i 0]),[]))):=by kernel_rfl
def wK (N:Nat):Env:=DJ [(38,P8)] [] 14 N
theorem Jj (N:Nat) (q:Qy) (p:Pt) (twin:Int):DE (wK N) kI [.cell 6 43] [[.z,.z,.z,.z]] [(Qy.V q),(Pt.V p),.i twin]=(cond (EZ q) (cond (decide (Qy.ft q=ic 0)) (some ((.agg [.i twin,.i (Pt.p1 p),.i (Pt.p2 p),.i (Pt.p3 p)]),[])) (cond (decide (Qy.ft q=ic 1)) (some ((.agg [.i (Pt.p0 p),.i twin,.i (Pt.p2 p),.i (Pt.p3 p)]),[])) (cond (decide (Qy.ft q=ic 2)) (some ((.agg [.i (Pt.p0 p),.i (Pt.p1 p),.i twin,.i (Pt.p3 p)]),[])) (cond (decide (Qy.ft q=ic 3)) (some ((.agg [.i (Pt.p0 p),.i (Pt.p1 p),.i (Pt.p2 p),.i twin]),[])) none)))) (some ((Pt.V p),[]))):=by kernel_rfl
def IS (N:Nat):Env:=DJ [(58,T9),(29,NJ),(60,UH),(59,UP)] [(9,⟨[4,5,6,8,9,36,37],[4,5,6],[]⟩)] 75 N
abbrev OG (m:Md) (a1:Qy) (a2:Pt) (b8:Bool) (x9 x36 x37:Int):St:=⟨[(4,(.ptr 4 0 0)),(5,(.ptr 5 0 0)),(6,(.ptr 6 0 0)),(8,(.bool b8)),(9,(.i x9)),(36,(.i x36)),(37,(.i x37))],[(4,(some (.box (Md.cs m)))),(5,(some (.box (Qy.cs a1)))),(6,(some (.box (Pt.cs a2))))]⟩
theorem Jh (N:Nat) (m:Md) (a1:Qy) (a2:Pt) (a3:Int):DE (IS N) KK [.tmp 8] [[.bool]] [(Md.V m),(Qy.V a1),(Pt.V a2),.i a3]=(cond (!DQ m a1) (some ((.bool false),[])) (cond (Qy.k a1==1) (some ((.bool (!Sp.has {lo:=Qy.lo a1,hi:=Qy.hi a1} (C1 m (Qy.c a1) a2))),[])) (cond (Qy.k a1==2) (DC (IS N) (CX KK [1,1,1,0,1,0,1,1,1,0,0,1,0,0]) ⟨[4,5,6,8,9,36,37],[4,5,6],[]⟩ N (OG m a1 a2 false (C1 m (Qy.c a1) a2) (Md.c m) 0) (C4 1 (C5 (IS N) (CX KK [1,1,1,0,1,0,1,1,1,0,1]) (C4 0 (C5 (IS N) (CX KK [1,1,1,1]) (C8 (IS N) none [.tmp 8] [[.bool]])))))) (cond (decide (Qy.ft a1=ic 0)) (cond (decide (Pt.p0 a2≥a3)) (some ((.bool false),[])) (cond (Qy.fl a1) (some ((.bool (decide (C1 m (Qy.c a1) (FO a1 a2 a3) > C1 m (Qy.c a1) a2))),[])) (some ((.bool (decide (C1 m (Qy.c a1) (FO a1 a2 a3) < C1 m (Qy.c a1) a2))),[])))) (cond (decide (Qy.ft a1=ic 1)) (cond (decide (Pt.p1 a2≥a3)) (some ((.bool false),[])) (cond (Qy.fl a1) (some ((.bool (decide (C1 m (Qy.c a1) (FO a1 a2 a3) > C1 m (Qy.c a1) a2))),[])) (some ((.bool (decide (C1 m (Qy.c a1) (FO a1 a2 a3) < C1 m (Qy.c a1) a2))),[])))) (cond (decide (Qy.ft a1=ic 2)) (cond (decide (Pt.p2 a2≥a3)) (some ((.bool false),[])) (cond (Qy.fl a1) (some ((.bool (decide (C1 m (Qy.c a1) (FO a1 a2 a3) > C1 m (Qy.c a1) a2))),[])) (some ((.bool (decide (C1 m (Qy.c a1) (FO a1 a2 a3) < C1 m (Qy.c a1) a2))),[])))) (cond (decide (Qy.ft a1=ic 3)) (cond (decide (Pt.p3 a2≥a3)) (some ((.bool false),[])) (cond (Qy.fl a1) (some ((.bool (decide (C1 m (Qy.c a1) (FO a1 a2 a3) > C1 m (Qy.c a1) a2))),[])) (some ((.bool (decide (C1 m (Qy.c a1) (FO a1 a2 a3) < C1 m (Qy.c a1) a2))),[])))) none))))))):=by kernel_rfl
theorem tV (N:Nat) (m:Md) (a1:Qy) (a2:Pt) (b8:Bool) (x9 x36 x37:Int) (again:St→C0) (k:Out→St→C0):EK (IS N) (CX KK [1,1,1,0,1,0,1,1,1,0,0,1,0,0]) (OG m a1 a2 b8 x9 x36 x37) (EF again ⟨[4,5,6,8,9,36,37],[4,5,6],[]⟩ k)=(cond (decide (x37 < x36)) (cond (x37 != Qy.c a1) (cond (decide (C1 m x37 a2≥x9)) (k .ret (OG m a1 a2 true x9 x36 x37)) (again (OG m a1 a2 b8 x9 x36 (AA AC (x37+1))))) (again (OG m a1 a2 b8 x9 x36 (AA AC (x37+1))))) (k (.exit 1) (OG m a1 a2 b8 x9 x36 x37))):=by kernel_rfl
theorem Ai (N:Nat) (m:Md) (a1:Qy) (a2:Pt) (b8:Bool) (x9 x36 x37:Int):(C4 1 (C5 (IS N) (CX KK [1,1,1,0,1,0,1,1,1,0,1]) (C4 0 (C5 (IS N) (CX KK [1,1,1,1]) (C8 (IS N) none [.tmp 8] [[.bool]]))))) (.exit 1) (OG m a1 a2 b8 x9 x36 x37)=(some ((.bool false),[])):=by kernel_rfl
theorem Aj (N:Nat) (m:Md) (a1:Qy) (a2:Pt) (b8:Bool) (x9 x36 x37:Int):(C4 1 (C5 (IS N) (CX KK [1,1,1,0,1,0,1,1,1,0,1]) (C4 0 (C5 (IS N) (CX KK [1,1,1,1]) (C8 (IS N) none [.tmp 8] [[.bool]]))))) .ret (OG m a1 a2 b8 x9 x36 x37)=(some ((.bool b8),[])):=by kernel_rfl
def wO (N:Nat):Env:=DJ [(71,ND),(75,QA)] [(2,⟨[1,4,7,8],[],[]⟩)] 35 N
open Go Go.Proofs
def MN (N:Nat):Env:=DJ [(35,P2),(52,LR),(84,LV),(74,QC)] [(7,⟨[4,5,6,24,25,26],[20,500],[⟨.tmp 6,500,131,true,[.z,.z,.z,.z,.z,.z,.z,.z,.z,.z,.z]⟩]⟩)] 79 N
abbrev PT (n5 n6:Nat) (l24:LI) (x25 x26:Int) (lo20 u00:LI):St:=⟨[(4,.zs),(5,(.row 20 0 n5)),(6,(.row 500 0 n6)),(24,(.list false [.int .u64] l24)),(25,(.i x25)),(26,(.i x26))],[(20,(some (.row true 31 true D0 lo20))),(500,(some (.row true 131 true JJ u00)))]⟩
theorem Iw (N:Nat) (l:LI) (a1:Bx):DE (MN N) OS [.tmp 4] [[.list true [.z,.z,.z,.z,.z,.z,.z,.z,.z,.z,.z]]] [.list false [.int .u64] l,(Bx.V a1)]=(cond (!FQ l 4) (some ((.list true JJ []),[])) (cond (Bx.emp a1) (some ((.list true JJ []),[])) (cond (true&&(true&&decide (0≤ic (AF l)))&&(decide (ic (AF l)=ic (AF l))&&decide (ic (AF l)*ic 80≤ic D5))) (cond (decide (0≤0)&&decide (0 < ic (AD (ic (AF l)) - 0))) (DC (MN N) (CX OS [1,1,1,1,1,0,1,0,0]) ⟨[4,5,6,24,25,26],[20,500],[⟨(.tmp 6),500,131,true,JJ⟩]⟩ N (PT (AD (ic (AF l))) 0 l (ic (AF l)) 0 (List.set (vak (AD (ic (AF l))) (IV.agg [IV.int 0,IV.int 0,IV.int 0,IV.int 0,IV.int 0,IV.int 0,IV.int 0,IV.int 0,IV.int 0,IV.int 0])) 0 (Bx.I a1)) []) (C4 0 (C5 (MN N) (CX OS [1,1,1,1,1,1]) (C8 (MN N) none [.tmp 4] [[.list true JJ]])))) none) none))):=by kernel_rfl
theorem tQ (N n5 n6:Nat) (l24:LI) (x25 x26:Int) (lo20 u00:LI) (again:St→C0) (k:Out→St→C0):EK (MN N) (CX OS [1,1,1,1,1,0,1,0,0]) (PT n5 n6 l24 x25 x26 lo20 u00) (EF again ⟨[4,5,6,24,25,26],[20,500],[⟨(.tmp 6),500,131,true,JJ⟩]⟩ k)=(cond (decide (x26 < x25)) (cond (decide (0≤x26)&&decide (x26 < ic (AF l24))) (cond (!Nd.lf (CW (IV.toInt (AH l24 (AD x26) default)))) (cond (decide (0≤x26)&&decide (x26 < ic (n5 - 0))) (cond (FS (Nd.f (CW (IV.toInt (AH l24 (AD x26) default))))) (cond (decide (0≤Nd.l (CW (IV.toInt (AH l24 (AD x26) default))))&&decide (Nd.l (CW (IV.toInt (AH l24 (AD x26) default))) < ic (n5 - 0))) (cond (decide (0≤Nd.r (CW (IV.toInt (AH l24 (AD x26) default))))&&decide (Nd.r (CW (IV.toInt (AH l24 (AD x26) default))) < ic (n5 - 0))) (again (PT n5 n6 l24 x25 (AA AC (x26+1)) (List.set (List.set lo20 (0+AD (Nd.l (CW (IV.toInt (AH l24 (AD x26) default))))) (Bx.I (Bx.cutL (C9 (AH lo20 (0+AD x26) default)) (Nd.f (CW (IV.toInt (AH l24 (AD x26) default)))) (Nd.a (CW (IV.toInt (AH l24 (AD x26) default))))))) (0+AD (Nd.r (CW (IV.toInt (AH l24 (AD x26) default))))) (Bx.I (Bx.cutH (C9 (AH lo20 (0+AD x26) default)) (Nd.f (CW (IV.toInt (AH l24 (AD x26) default)))) (Nd.a (CW (IV.toInt (AH l24 (AD x26) default))))))) u00)) none) none) none) none) (cond (decide (0≤x26)&&decide (x26 < ic (n5 - 0))) (cond (!Bx.emp (C9 (AH lo20 (0+AD x26) default))) (cond (decide (0≤x26)&&decide (x26 < ic (n5 - 0))) (cond (decide ((n6+1)*88≤D5)) (again (PT n5 (n6+1) l24 x25 (AA AC (x26+1)) lo20 (AY n6 u00++[(V8 (C9 (AH lo20 (0+AD x26) default)) (Nd.v (CW (IV.toInt (AH l24 (AD x26) default)))))]))) none) none) (again (PT n5 n6 l24 x25 (AA AC (x26+1)) lo20 u00))) none)) none) (k (.exit 0) (PT n5 n6 l24 x25 x26 lo20 u00))):=by kernel_rfl
theorem Ac (N n5 n6:Nat) (l24:LI) (x25 x26:Int) (lo20 u00:LI):(C4 0 (C5 (MN N) (CX OS [1,1,1,1,1,1]) (C8 (MN N) none [.tmp 4] [[.list true JJ]]))) (.exit 0) (PT n5 n6 l24 x25 x26 lo20 u00)=(some ((.list true JJ (CB 0 (AY n6 u00))),[])):=by kernel_rfl
def ML (N:Nat):Env:=DJ [(91,T8)] [(6,⟨[4,5,6,8,9,26,27,28],[],[]⟩)] 43 N
abbrev S4 (x4 x5:Int) (b6:Bool) (x8 x9:Int) (l26:LI) (x27 x28:Int):St:=⟨[(4,(.i x4)),(5,(.i x5)),(6,(.bool b6)),(8,(.i x8)),(9,(.i x9)),(26,(.list true JJ l26)),(27,(.i x27)),(28,(.i x28))],[]⟩
theorem Hg (N:Nat) (l:LI) (b:Bx):DE (ML N) OO [.tmp 4,.tmp 5,.tmp 6] [[.z],[.z],[.bool]] [.list false [.int .u64] l,(Bx.V b)]=(cond (ic (AF (GK l b))==0) (some ((.tup [.i 0,.i 0,.bool false]),[])) (cond (decide (0≤0)&&decide (0 < ic (AF (GK l b)))) (cond (decide (0≤0)&&decide (0 < ic (AF (GK l b)))) (DC (ML N) (CX OO [1,1,1,1,0,1,0,0]) ⟨[4,5,6,8,9,26,27,28],[],[]⟩ N (S4 0 0 false (IV.toInt (IV.cell (AH (GK l b) (AD 0) default) 10)) (IV.toInt (IV.cell (AH (GK l b) (AD 0) default) 10)) (GK l b) (ic (AF (GK l b))) 0) (C4 0 (C5 (ML N) (CX OO [1,1,1,1,1]) (C8 (ML N) none [.tmp 4,.tmp 5,.tmp 6] [[.z],[.z],[.bool]])))) none) none)):=by kernel_rfl
theorem tA (N:Nat) (x4 x5:Int) (b6:Bool) (x8 x9:Int) (l26:LI) (x27 x28:Int) (again:St→C0) (k:Out→St→C0):EK (ML N) (CX OO [1,1,1,1,0,1,0,0]) (S4 x4 x5 b6 x8 x9 l26 x27 x28) (EF again ⟨[4,5,6,8,9,26,27,28],[],[]⟩ k)=(cond (decide (x28 < x27)) (cond (decide (0≤x28)&&decide (x28 < ic (AF l26))) (again (S4 x4 x5 b6 (min x8 (IV.toInt (IV.cell (AH l26 (AD x28) default) 10))) (max x9 (IV.toInt (IV.cell (AH l26 (AD x28) default) 10))) l26 x27 (AA AC (x28+1)))) none) (k (.exit 0) (S4 x4 x5 b6 x8 x9 l26 x27 x28))):=by kernel_rfl
theorem zL (N:Nat) (x4 x5:Int) (b6:Bool) (x8 x9:Int) (l26:LI) (x27 x28:Int):(C4 0 (C5 (ML N) (CX OO [1,1,1,1,1]) (C8 (ML N) none [.tmp 4,.tmp 5,.tmp 6] [[.z],[.z],[.bool]]))) (.exit 0) (S4 x4 x5 b6 x8 x9 l26 x27 x28)=(some ((.tup [.i x8,.i x9,.bool true]),[])):=by kernel_rfl
def E3 (N:Nat):Env:=DJ [(76,TC),(52,LR),(49,LU)] [(5,⟨[1,5,6,7,8,9,10,42,43,44],[5],[]⟩)] 69 N
abbrev JQ (a2:Bx) (x1 x6 x7:Int) (b8:Bool) (x9 x10:Int) (l42:LI) (x43 x44:Int):St:=⟨[(1,(.i x1)),(5,(.ptr 5 0 0)),(6,(.i x6)),(7,(.i x7)),(8,(.bool b8)),(9,(.i x9)),(10,(.i x10)),(42,(.list true FA l42)),(43,(.i x43)),(44,(.i x44))],[(5,(some (.box (Bx.cs a2))))]⟩
theorem Hf (N:Nat) (m:Md) (a1:Int) (a2:Bx):DE (E3 N) GJ [.tmp 6,.tmp 7,.tmp 8] [[.z],[.z],[.bool]] [(Md.V m),.i a1,(Bx.V a2)]=(cond (!DR m) (some ((.tup [.i 0,.i 0,.bool false]),[])) (cond (decide (a1 < 0)) (some ((.tup [.i 0,.i 0,.bool false]),[])) (cond (decide (a1≥Md.c m)) (some ((.tup [.i 0,.i 0,.bool false]),[])) (cond (Bx.emp a2) (some ((.tup [.i 0,.i 0,.bool false]),[])) (cond (decide (a1=ic 0)) (cond (decide (a1=ic 0)) (DC (E3 N) (CX GJ [1,1,1,0,1,0,0]) ⟨[1,5,6,7,8,9,10,42,43,44],[5],[]⟩ N (JQ a2 a1 0 0 false (Md.b0 m) (Md.b0 m) (Md.ts m) (ic (AF (Md.ts m))) 0) (C4 0 (C5 (E3 N) (CX GJ [1,1,1,1]) (C8 (E3 N) none [.tmp 6,.tmp 7,.tmp 8] [[.z],[.z],[.bool]])))) (cond (decide (a1=ic 1)) (DC (E3 N) (CX GJ [1,1,1,0,1,0,0]) ⟨[1,5,6,7,8,9,10,42,43,44],[5],[]⟩ N (JQ a2 a1 0 0 false (Md.b0 m) (Md.b1 m) (Md.ts m) (ic (AF (Md.ts m))) 0) (C4 0 (C5 (E3 N) (CX GJ [1,1,1,1]) (C8 (E3 N) none [.tmp 6,.tmp 7,.tmp 8] [[.z],[.z],[.bool]])))) (cond (decide (a1=ic 2)) (DC (E3 N) (CX GJ [1,1,1,0,1,0,0]) ⟨[1,5,6,7,8,9,10,42,43,44],[5],[]⟩ N (JQ a2 a1 0 0 false (Md.b0 m) (Md.b2 m) (Md.ts m) (ic (AF (Md.ts m))) 0) (C4 0 (C5 (E3 N) (CX GJ [1,1,1,1]) (C8 (E3 N) none [.tmp 6,.tmp 7,.tmp 8] [[.z],[.z],[.bool]])))) none))) (cond (decide (a1=ic 1)) (cond (decide (a1=ic 0)) (DC (E3 N) (CX GJ [1,1,1,0,1,0,0]) ⟨[1,5,6,7,8,9,10,42,43,44],[5],[]⟩ N (JQ a2 a1 0 0 false (Md.b1 m) (Md.b0 m) (Md.ts m) (ic (AF (Md.ts m))) 0) (C4 0 (C5 (E3 N) (CX GJ [1,1,1,1]) (C8 (E3 N) none [.tmp 6,.tmp 7,.tmp 8] [[.z],[.z],[.bool]])))) (cond (decide (a1=ic 1)) (DC (E3 N) (CX GJ [1,1,1,0,1,0,0]) ⟨[1,5,6,7,8,9,10,42,43,44],[5],[]⟩ N (JQ a2 a1 0 0 false (Md.b1 m) (Md.b1 m) (Md.ts m) (ic (AF (Md.ts m))) 0) (C4 0 (C5 (E3 N) (CX GJ [1,1,1,1]) (C8 (E3 N) none [.tmp 6,.tmp 7,.tmp 8] [[.z],[.z],[.bool]])))) (cond (decide (a1=ic 2)) (DC (E3 N) (CX GJ [1,1,1,0,1,0,0]) ⟨[1,5,6,7,8,9,10,42,43,44],[5],[]⟩ N (JQ a2 a1 0 0 false (Md.b1 m) (Md.b2 m) (Md.ts m) (ic (AF (Md.ts m))) 0) (C4 0 (C5 (E3 N) (CX GJ [1,1,1,1]) (C8 (E3 N) none [.tmp 6,.tmp 7,.tmp 8] [[.z],[.z],[.bool]])))) none))) (cond (decide (a1=ic 2)) (cond (decide (a1=ic 0)) (DC (E3 N) (CX GJ [1,1,1,0,1,0,0]) ⟨[1,5,6,7,8,9,10,42,43,44],[5],[]⟩ N (JQ a2 a1 0 0 false (Md.b2 m) (Md.b0 m) (Md.ts m) (ic (AF (Md.ts m))) 0) (C4 0 (C5 (E3 N) (CX GJ [1,1,1,1]) (C8 (E3 N) none [.tmp 6,.tmp 7,.tmp 8] [[.z],[.z],[.bool]])))) (cond (decide (a1=ic 1)) (DC (E3 N) (CX GJ [1,1,1,0,1,0,0]) ⟨[1,5,6,7,8,9,10,42,43,44],[5],[]⟩ N (JQ a2 a1 0 0 false (Md.b2 m) (Md.b1 m) (Md.ts m) (ic (AF (Md.ts m))) 0) (C4 0 (C5 (E3 N) (CX GJ [1,1,1,1]) (C8 (E3 N) none [.tmp 6,.tmp 7,.tmp 8] [[.z],[.z],[.bool]])))) (cond (decide (a1=ic 2)) (DC (E3 N) (CX GJ [1,1,1,0,1,0,0]) ⟨[1,5,6,7,8,9,10,42,43,44],[5],[]⟩ N (JQ a2 a1 0 0 false (Md.b2 m) (Md.b2 m) (Md.ts m) (ic (AF (Md.ts m))) 0) (C4 0 (C5 (E3 N) (CX GJ [1,1,1,1]) (C8 (E3 N) none [.tmp 6,.tmp 7,.tmp 8] [[.z],[.z],[.bool]])))) none))) none))))))):=by kernel_rfl
theorem s9 (N:Nat) (a2:Bx) (x1 x6 x7:Int) (b8:Bool) (x9 x10:Int) (l42:LI) (x43 x44:Int) (again:St→C0) (k:Out→St→C0):EK (E3 N) (CX GJ [1,1,1,0,1,0,0]) (JQ a2 x1 x6 x7 b8 x9 x10 l42 x43 x44) (EF again ⟨[1,5,6,7,8,9,10,42,43,44],[5],[]⟩ k)=(cond (decide (x44 < x43)) (cond (decide (0≤x44)&&decide (x44 < ic (AF l42))) (cond (IV.toInt (IV.cell (AH l42 (AD x44) default) 0) != x1) (again (JQ a2 x1 x6 x7 b8 x9 x10 l42 x43 (AA AC (x44+1)))) (again (JQ a2 x1 x6 x7 b8 (AA AC (x9+KC (IV.toList (IV.cell (AH l42 (AD x44) default) 1)) a2)) (AA AC (x10+KB (IV.toList (IV.cell (AH l42 (AD x44) default) 1)) a2)) l42 x43 (AA AC (x44+1))))) none) (k (.exit 0) (JQ a2 x1 x6 x7 b8 x9 x10 l42 x43 x44))):=by kernel_rfl
theorem zK (N:Nat) (a2:Bx) (x1 x6 x7:Int) (b8:Bool) (x9 x10:Int) (l42:LI) (x43 x44:Int):(C4 0 (C5 (E3 N) (CX GJ [1,1,1,1]) (C8 (E3 N) none [.tmp 6,.tmp 7,.tmp 8] [[.z],[.z],[.bool]]))) (.exit 0) (JQ a2 x1 x6 x7 b8 x9 x10 l42 x43 x44)=(some ((.tup [.i x9,.i x10,.bool true]),[])):=by kernel_rfl
def MK (N:Nat):Env:=DJ [(53,NF)] [(6,⟨[1,3,5,6,7,8,11,12,33,34],[3,5],[]⟩)] 62 N
abbrev OE (m:Md) (b:Bx) (x1 x6:Int) (b7:Bool) (x8 x11:Int) (b12:Bool) (x33 x34:Int):St:=⟨[(1,(.i x1)),(3,(.ptr 3 0 0)),(5,(.ptr 5 0 0)),(6,(.i x6)),(7,(.bool b7)),(8,(.i x8)),(11,(.i x11)),(12,(.bool b12)),(33,(.i x33)),(34,(.i x34))],[(3,(some (.box (Md.cs m)))),(5,(some (.box (Bx.cs b))))]⟩
theorem He (N:Nat) (m:Md) (u00:Int) (b:Bx):DE (MK N) ON [.tmp 6,.tmp 7] [[.z],[.bool]] [(Md.V m),.i u00,(Bx.V b)]=(cond (!FZ m u00 b) (some ((.tup [.i 0,.bool false]),[])) (cond (decide (Md.c m < 2)) (some ((.tup [.i 0,.bool false]),[])) (DC (MK N) (CX ON [1,1,1,1,0,1,0,0]) ⟨[1,3,5,6,7,8,11,12,33,34],[3,5],[]⟩ N (OE m b u00 0 false (F8 m u00 b) 0 false (Md.c m) 0) (C4 0 (C5 (MK N) (CX ON [1,1,1,1,1]) (C8 (MK N) none [.tmp 6,.tmp 7] [[.z],[.bool]])))))):=by kernel_rfl
theorem s8 (N:Nat) (m:Md) (b:Bx) (x1 x6:Int) (b7:Bool) (x8 x11:Int) (b12:Bool) (x33 x34:Int) (again:St→C0) (k:Out→St→C0):EK (MK N) (CX ON [1,1,1,1,0,1,0,0]) (OE m b x1 x6 b7 x8 x11 b12 x33 x34) (EF again ⟨[1,3,5,6,7,8,11,12,33,34],[3,5],[]⟩ k)=(cond (decide (x34 < x33)) (cond (x34==x1) (again (OE m b x1 x6 b7 x8 x11 b12 x33 (AA AC (x34+1)))) (cond (!b12) (again (OE m b x1 x6 b7 x8 (AA AC (x8 - E7 m x34 b)) true x33 (AA AC (x34+1)))) (cond (decide (AA AC (x8 - E7 m x34 b) < x11)) (again (OE m b x1 x6 b7 x8 (AA AC (x8 - E7 m x34 b)) true x33 (AA AC (x34+1)))) (again (OE m b x1 x6 b7 x8 x11 b12 x33 (AA AC (x34+1))))))) (k (.exit 0) (OE m b x1 x6 b7 x8 x11 b12 x33 x34))):=by kernel_rfl
theorem zJ (N:Nat) (m:Md) (b:Bx) (x1 x6:Int) (b7:Bool) (x8 x11:Int) (b12:Bool) (x33 x34:Int):(C4 0 (C5 (MK N) (CX ON [1,1,1,1,1]) (C8 (MK N) none [.tmp 6,.tmp 7] [[.z],[.bool]]))) (.exit 0) (OE m b x1 x6 b7 x8 x11 b12 x33 x34)=(some ((.tup [.i x11,.bool true]),[])):=by kernel_rfl
def v8 (N:Nat):Env:=DJ [] [] 16 N
theorem Io (N:Nat) (q:Qy):DE (v8 N) j6 [.tmp 2] [[.bool]] [(Qy.V q)]=(cond (Qy.k q==3) (cond (decide (Qy.ft q≥0)) (some ((.bool (decide (Qy.ft q < 4))),[])) (some ((.bool false),[]))) (some ((.bool false),[]))):=by kernel_rfl
def v5 (N:Nat):Env:=DJ [(77,LT)] [] 10 N
theorem Ik (N:Nat) (q:Qy) (b:Bx):DE (v5 N) j3 [.cell 4 31] [[.z,.z,.z,.z,.z,.z,.z,.z,.z,.z]] [(Qy.V q),(Bx.V b)]=(cond (EZ q) (some ((.agg [.i (Sp.lo (Bx.s0 b)),.i (Sp.hi (Bx.s0 b)),.i (Sp.lo (Bx.s1 b)),.i (Sp.hi (Bx.s1 b)),.i (Sp.lo (Bx.s2 b)),.i (Sp.hi (Bx.s2 b)),.i (Sp.lo (Bx.s3 b)),.i (Sp.hi (Bx.s3 b)),.i 0,.i 0]),[])) (some ((Bx.V b),[]))):=by kernel_rfl
def v7 (N:Nat):Env:=DJ [(77,LT)] [] 15 N
theorem Im (N:Nat) (q:Qy) (b:Bx):DE (v7 N) j5 [.cell 4 31] [[.z,.z,.z,.z,.z,.z,.z,.z,.z,.z]] [(Qy.V q),(Bx.V b)]=(cond (EZ q) (cond (decide (Qy.ft q=ic 0)) (some ((.agg [.i (Sp.lo (Bx.s4 b)),.i (Sp.hi (Bx.s4 b)),.i (Sp.lo (Bx.s1 b)),.i (Sp.hi (Bx.s1 b)),.i (Sp.lo (Bx.s2 b)),.i (Sp.hi (Bx.s2 b)),.i (Sp.lo (Bx.s3 b)),.i (Sp.hi (Bx.s3 b)),.i 0,.i 0]),[])) (cond (decide (Qy.ft q=ic 1)) (some ((.agg [.i (Sp.lo (Bx.s0 b)),.i (Sp.hi (Bx.s0 b)),.i (Sp.lo (Bx.s4 b)),.i (Sp.hi (Bx.s4 b)),.i (Sp.lo (Bx.s2 b)),.i (Sp.hi (Bx.s2 b)),.i (Sp.lo (Bx.s3 b)),.i (Sp.hi (Bx.s3 b)),.i 0,.i 0]),[])) (cond (decide (Qy.ft q=ic 2)) (some ((.agg [.i (Sp.lo (Bx.s0 b)),.i (Sp.hi (Bx.s0 b)),.i (Sp.lo (Bx.s1 b)),.i (Sp.hi (Bx.s1 b)),.i (Sp.lo (Bx.s4 b)),.i (Sp.hi (Bx.s4 b)),.i (Sp.lo (Bx.s3 b)),.i (Sp.hi (Bx.s3 b)),.i 0,.i 0]),[])) (cond (decide (Qy.ft q=ic 3)) (some ((.agg [.i (Sp.lo (Bx.s0 b)),.i (Sp.hi (Bx.s0 b)),.i (Sp.lo (Bx.s1 b)),.i (Sp.hi (Bx.s1 b)),.i (Sp.lo (Bx.s2 b)),.i (Sp.hi (Bx.s2 b)),.i (Sp.lo (Bx.s4 b)),.i (Sp.hi (Bx.s4 b)),.i 0,.i 0]),[])) (cond (decide (Qy.ft q=ic 4)) (some ((.agg [.i (Sp.lo (Bx.s0 b)),.i (Sp.hi (Bx.s0 b)),.i (Sp.lo (Bx.s1 b)),.i (Sp.hi (Bx.s1 b)),.i (Sp.lo (Bx.s2 b)),.i (Sp.hi (Bx.s2 b)),.i (Sp.lo (Bx.s3 b)),.i (Sp.hi (Bx.s3 b)),.i 0,.i 0]),[])) none))))) (some ((Bx.V b),[]))):=by kernel_rfl
def v6 (N:Nat):Env:=DJ [(52,LR),(77,LT)] [] 23 N
theorem Il (N:Nat) (q:Qy) (b:Bx):DE (v6 N) j4 [.tmp 4] [[.bool]] [(Qy.V q),(Bx.V b)]=(cond (EZ q) (cond (!Bx.emp b) (cond (decide (Qy.ft q=ic 0)) (some ((.bool (decide (Sp.lo (Bx.s0 b) < Sp.hi (Bx.s4 b)))),[])) (cond (decide (Qy.ft q=ic 1)) (some ((.bool (decide (Sp.lo (Bx.s1 b) < Sp.hi (Bx.s4 b)))),[])) (cond (decide (Qy.ft q=ic 2)) (some ((.bool (decide (Sp.lo (Bx.s2 b) < Sp.hi (Bx.s4 b)))),[])) (cond (decide (Qy.ft q=ic 3)) (some ((.bool (decide (Sp.lo (Bx.s3 b) < Sp.hi (Bx.s4 b)))),[])) (cond (decide (Qy.ft q=ic 4)) (some ((.bool (decide (Sp.lo (Bx.s4 b) < Sp.hi (Bx.s4 b)))),[])) none))))) (some ((.bool false),[]))) (some ((.bool false),[]))):=by kernel_rfl
def vZ (N:Nat):Env:=DJ [(53,NF),(78,TZ),(79,T2),(77,LT)] [] 54 N
theorem Ij (N:Nat) (m:Md) (q:Qy) (b:Bx):DE (vZ N) jZ [.tmp 6,.tmp 7,.tmp 8] [[.z],[.z],[.bool]] [(Md.V m),(Qy.V q),(Bx.V b)]=(cond (!EZ q) (some ((.tup [.i 0,.i 0,.bool false]),[])) (cond (!FZ m (Qy.c q) (H8 q b)) (some ((.tup [.i 0,.i 0,.bool false]),[])) (cond (!FZ m (Qy.c q) (ID q b)) (some ((.tup [.i 0,.i 0,.bool false]),[])) (some ((.tup [.i (AA AC (F8 m (Qy.c q) (ID q b) - E7 m (Qy.c q) (H8 q b))),.i (AA AC (E7 m (Qy.c q) (ID q b) - F8 m (Qy.c q) (H8 q b))),.bool true]),[]))))):=by kernel_rfl
def v9 (N:Nat):Env:=DJ [(54,TB),(53,NF),(52,LR),(56,TY),(55,T1),(29,NJ)] [] 86 N
theorem Iq (N:Nat) (m:Md) (a1:Qy) (a2:Bx):DE (v9 N) j7 [.tmp 6] [[.bool]] [(Md.V m),(Qy.V a1),(Bx.V a2)]=(cond (!DQ m a1) (some ((.bool false),[])) (cond (Bx.emp a2) (some ((.bool true),[])) (cond (Qy.k a1==1) (cond (FZ m (Qy.c a1) a2) (cond (decide (Qy.lo a1≤F8 m (Qy.c a1) a2)) (some ((.bool (decide (E7 m (Qy.c a1) a2≤Qy.hi a1))),[])) (some ((.bool false),[]))) (some ((.bool false),[]))) (cond (Qy.k a1==2) (cond (LJ m (Qy.c a1) a2) (some ((.bool (decide (O4 m (Qy.c a1) a2 > 0))),[])) (some ((.bool false),[]))) (cond (!L8 a1 a2) (some ((.bool true),[])) (cond (Qy.fl a1) (cond (JE m a1 a2) (some ((.bool (decide (OW m a1 a2≤0))),[])) (some ((.bool false),[]))) (cond (JE m a1 a2) (some ((.bool (decide (OX m a1 a2≥0))),[])) (some ((.bool false),[]))))))))):=by kernel_rfl
def wA (N:Nat):Env:=DJ [(57,TE)] [] 9 N
theorem Ir (N:Nat) (b:Bx):DE (wA N) j8 [.cell 2 43,.tmp 3] [[.z,.z,.z,.z],[.z]] [(Bx.V b)]=(some ((.tup [(Pt.V (Bx.low b)),.i (Sp.hi (Bx.s4 b))]),[])):=by kernel_rfl
def K3 (N:Nat):Env:=DJ [(37,P5)] [(2,⟨[3,4,5,6,7,8,11],[3,4,5],[]⟩)] 31 N
abbrev PQ (m:Md) (q:Qy) (b:Bx) (x6 x7:Int) (b8:Bool) (x11:Int):St:=⟨[(3,(.ptr 3 0 0)),(4,(.ptr 4 0 0)),(5,(.ptr 5 0 0)),(6,(.i x6)),(7,(.i x7)),(8,(.bool b8)),(11,(.i x11))],[(3,(some (.box (Md.cs m)))),(4,(some (.box (Qy.cs q)))),(5,(some (.box (Bx.cs b))))]⟩
theorem It (N:Nat) (m:Md) (q:Qy) (b:Bx):DE (K3 N) NP [.tmp 6,.tmp 7,.tmp 8] [[.z],[.z],[.bool]] [(Md.V m),(Qy.V q),(Bx.V b)]=(DC (K3 N) (CX NP [1,0,1,0,0]) ⟨[3,4,5,6,7,8,11],[3,4,5],[]⟩ N (PQ m q b 0 0 false 0) (C4 0 (C5 (K3 N) (CX NP [1,1]) (C8 (K3 N) none [.tmp 6,.tmp 7,.tmp 8] [[.z],[.z],[.bool]])))):=by kernel_rfl
theorem tO (N:Nat) (m:Md) (q:Qy) (b:Bx) (x6 x7:Int) (b8:Bool) (x11:Int) (again:St→C0) (k:Out→St→C0):EK (K3 N) (CX NP [1,0,1,0,0]) (PQ m q b x6 x7 b8 x11) (EF again ⟨[3,4,5,6,7,8,11],[3,4,5],[]⟩ k)=(cond (decide (x11 < 5)) (cond (DR m&&FS x11) (cond (decide (ic (AF (iZ (C7 m q b (AD x11)))) > 0)) (cond (decide (0≤AA AC (Int.tdiv (AA AC (ic (AF (iZ (C7 m q b (AD x11)))) - 1)) 2))&&decide (AA AC (Int.tdiv (AA AC (ic (AF (iZ (C7 m q b (AD x11)))) - 1)) 2) < ic (AF (iZ (C7 m q b (AD x11)))))) (k .ret (PQ m q b x11 (IV.toInt (AH (iZ (C7 m q b (AD x11))) (AD (AA AC (Int.tdiv (AA AC (ic (AF (iZ (C7 m q b (AD x11)))) - 1)) 2))) default)) true x11)) none) (again (PQ m q b x6 x7 b8 (AA AC (x11+1))))) none) (k (.exit 0) (PQ m q b x6 x7 b8 x11))):=by kernel_rfl
theorem z9 (N:Nat) (m:Md) (q:Qy) (b:Bx) (x6 x7:Int) (b8:Bool) (x11:Int):(C4 0 (C5 (K3 N) (CX NP [1,1]) (C8 (K3 N) none [.tmp 6,.tmp 7,.tmp 8] [[.z],[.z],[.bool]]))) (.exit 0) (PQ m q b x6 x7 b8 x11)=(some ((.tup [.i 0,.i 0,.bool false]),[])):=by kernel_rfl
theorem Aa (N:Nat) (m:Md) (q:Qy) (b:Bx) (x6 x7:Int) (b8:Bool) (x11:Int):(C4 0 (C5 (K3 N) (CX NP [1,1]) (C8 (K3 N) none [.tmp 6,.tmp 7,.tmp 8] [[.z],[.z],[.bool]]))) .ret (PQ m q b x6 x7 b8 x11)=(some ((.tup [.i x6,.i x7,.bool b8]),[])):=by kernel_rfl
open Go Go.Proofs
set_option maxRecDepth 100000
theorem nG {i:Int} (h:FS i=true):i=0∨i=1∨i=2∨i=3∨i=4:=by
 unfold FS at h;simp only [AG,AN] at h;omega
theorem sR:DD PR B0 82 QB:=by
 refine DK [] [] QB [[.z,.z]] Tryz.func82 Fe trivial ?_;intro vs r hwf h;unfold QB at h;split at h
 ·rw [R.get_ok] at h;exact ⟨0,(Ka 0).trans h⟩
 ·simp [R.get] at h
theorem Rd:DD PR B0 81 UQ:=by
 refine DK [(82,QB)] [] UQ [[.z,.z]] Tryz.func81 Ff ⟨sR,trivial⟩ ?_;intro vs r hwf h;unfold UQ at h;split at h
 ·rename_i lo hi;rw [R.get_ok] at h;refine ⟨0,?_⟩;rw [← h];refine (Kb 0 lo hi).trans ?_;unfold HB;cases decide (lo > hi) <;> rfl
 ·simp [R.get] at h
theorem sQ:DD PR B0 75 QA:=by
 refine DK [] [] QA [[.bool]] Tryz.func75 Fc trivial ?_;intro vs r hwf h;unfold QA at h;split at h
 ·rename_i s;replace h:=hU h;obtain ⟨s,rfl,h⟩:=h;rw [R.get_ok] at h;exact ⟨0,(Jy 0 s).trans h⟩
 ·simp [R.get] at h
theorem Rc:DD PR B0 59 UP:=by
 refine DK [] [] UP [[.bool]] Tryz.func59 Fd trivial ?_;intro vs r hwf h;unfold UP at h;split at h
 ·rename_i s n;replace h:=hU h;obtain ⟨s,rfl,h⟩:=h;rw [R.get_ok] at h;refine ⟨0,?_⟩;rw [← h];refine (Jz 0 s n).trans ?_;unfold Sp.has;cases decide (s.lo≤n) <;> rfl
 ·simp [R.get] at h
theorem Rb:DD PR B0 61 W5:=by
 refine DK [(82,QB),(81,UQ)] [] W5 [[.z,.z],[.z,.z]] Tryz.func61 Fb ⟨sR,Rd,trivial⟩ ?_;intro vs r hwf h;unfold W5 at h;split at h
 ·rename_i s n;replace h:=hU h;obtain ⟨s,rfl,h⟩:=h;rw [R.get_ok] at h;refine ⟨0,?_⟩;rw [← h];refine (Jx 0 s n).trans ?_;unfold Sp.cutH;cases decide (n≥s.hi) <;> rfl
 ·simp [R.get] at h
theorem Nw (b:Bx):DE (vI 6) jI [.tmp 2] [[.bool]] [b.V] =
 cond b.s0.emp (some (.bool true,[])) (cond b.s1.emp (some (.bool true,[])) (cond b.s2.emp (some (.bool true,[])) (cond b.s3.emp (some (.bool true,[])) (cond b.s4.emp (some (.bool true,[])) (some (.bool false,[])))))):=by kernel_rfl
theorem ZP:DD PR B0 52 LR:=by
 refine DK [(75,QA)] [(2,⟨[2,5,6],[],[]⟩)] LR [[.bool]] Tryz.func52 Ci ⟨sQ,trivial⟩ ?_;intro vs r hwf h;unfold LR at h;split at h
 ·rename_i b;replace h:=HQ h;obtain ⟨b,rfl,h⟩:=h;rw [R.get_ok] at h;refine ⟨6,?_⟩;rw [← h];refine (Nw b).trans ?_;unfold Bx.emp;cases b.s0.emp <;> cases b.s1.emp <;> cases b.s2.emp <;> cases b.s3.emp <;> cases b.s4.emp <;> rfl
 ·simp [R.get] at h
theorem Nx (b:Bx):DE (vJ 5) jJ [.cell 2 43] [[.z,.z,.z,.z]] [b.V]=some (b.low.V,[]):=by kernel_rfl
theorem Oy:DD PR B0 57 TE:=by
 refine DK [] [(3,⟨[1,2,3,5],[1,2,3],[]⟩)] TE [[.z,.z,.z,.z]] Tryz.func57 Cj trivial ?_;intro vs r hwf h;unfold TE at h;split at h
 ·rename_i b;replace h:=HQ h;obtain ⟨b,rfl,h⟩:=h;rw [R.get_ok] at h;exact ⟨5,(Nx b).trans h⟩
 ·simp [R.get] at h
theorem sG:DD PR B0 35 P2:=by
 refine DK [(61,W5)] [] P2 [[.z,.z,.z,.z,.z,.z,.z,.z,.z,.z],[.z,.z,.z,.z,.z,.z,.z,.z,.z,.z]] Tryz.func35 Ch ⟨Rb,trivial⟩ ?_;intro vs r hwf h;unfold P2 at h;split at h
 ·rename_i b i a;replace h:=HQ h;obtain ⟨b,rfl,h⟩:=h;cases hg:(FS i) with
  | false=>rw [hg] at h; simp [R.get] at h
  | true=>
  rw [hg,R.get_br,CU,R.get_ok] at h;refine ⟨0,?_⟩;rw [← h];rcases nG hg with rfl | rfl | rfl | rfl | rfl <;> kernel_rfl
 ·simp [R.get] at h
theorem sO:DD PR B0 38 P8:=by
 refine DK [] [] P8 [[.bool]] Tryz.func38 Et trivial ?_;intro vs r hwf h;unfold P8 at h;split at h
 ·rename_i q;replace h:=GP h;obtain ⟨q,rfl,h⟩:=h;rw [R.get_ok] at h;refine ⟨0,?_⟩;rw [← h];refine (Jm 0 q).trans ?_;unfold EZ;cases (q.k==3) <;> cases decide (q.ft≥0) <;> rfl
 ·simp [R.get] at h
theorem ZR:DD PR B0 77 LT:=by
 refine DK [] [] LT [[.bool]] Tryz.func77 Du trivial ?_;intro vs r hwf h;unfold LT at h;split at h
 ·rename_i q;replace h:=GP h;obtain ⟨q,rfl,h⟩:=h;rw [R.get_ok] at h;refine ⟨0,?_⟩;rw [← h];refine (Io 0 q).trans ?_;unfold EZ;cases (q.k==3) <;> cases decide (q.ft≥0) <;> rfl
 ·simp [R.get] at h
theorem N6 {q:Qy} (h:EZ q=true):q.ft=0∨q.ft=1∨q.ft=2∨q.ft=3:=by
 unfold EZ at h;simp only [AG,AN] at h;omega
theorem Pw:DD PR B0 78 TZ:=by
 refine DK [(77,LT)] [] TZ [[.z,.z,.z,.z,.z,.z,.z,.z,.z,.z]] Tryz.func78 Dq ⟨ZR,trivial⟩ ?_;intro vs r hwf h;unfold TZ at h;split at h
 ·rename_i q b;replace h:=GP h;obtain ⟨q,rfl,h⟩:=h;replace h:=HQ h;obtain ⟨b,rfl,h⟩:=h;rw [R.get_ok] at h;refine ⟨0,?_⟩;rw [← h];refine (Ik 0 q b).trans ?_;unfold H8;cases EZ q <;> rfl
 ·simp [R.get] at h
theorem Py:DD PR B0 79 T2:=by
 refine DK [(77,LT)] [] T2 [[.z,.z,.z,.z,.z,.z,.z,.z,.z,.z]] Tryz.func79 Dt ⟨ZR,trivial⟩ ?_;intro vs r hwf h;unfold T2 at h;split at h
 ·rename_i q b;replace h:=GP h;obtain ⟨q,rfl,h⟩:=h;replace h:=HQ h;obtain ⟨b,rfl,h⟩:=h;rw [R.get_ok] at h;refine ⟨0,?_⟩;rw [← h];refine (Im 0 q b).trans ?_;unfold ID;cases hp:EZ q with
  | false=>rfl
  | true=>rcases N6 hp with e | e | e | e <;> rw [e] <;> rfl
 ·simp [R.get] at h
theorem Px:DD PR B0 55 T1:=by
 refine DK [(52,LR),(77,LT)] [] T1 [[.bool]] Tryz.func55 Dr ⟨ZP,ZR,trivial⟩ ?_;intro vs r hwf h;unfold T1 at h;split at h
 ·rename_i q b;replace h:=GP h;obtain ⟨q,rfl,h⟩:=h;replace h:=HQ h;obtain ⟨b,rfl,h⟩:=h;rw [R.get_ok] at h;refine ⟨0,?_⟩;rw [← h];refine (Il 0 q b).trans ?_;unfold L8;cases hp:EZ q with
  | false=>rfl
  | true=>cases b.emp <;> rcases N6 hp with e | e | e | e <;> rw [e] <;> rfl
 ·simp [R.get] at h
theorem sN:DD PR B0 16 P7:=by
 refine DK [(38,P8)] [] P7 [[.z,.z,.z,.z,.z,.z,.z,.z,.z,.z]] Tryz.func16 Er ⟨sO,trivial⟩ ?_;intro vs r hwf h;unfold P7 at h;split at h
 ·rename_i q;replace h:=GP h;obtain ⟨q,rfl,h⟩:=h;rw [R.get_ok] at h;refine ⟨0,?_⟩;rw [← h];refine (Jk 0 q).trans ?_;unfold DL;cases hp:EZ q with
  | false=>rfl
  | true=>rcases N6 hp with e | e | e | e <;> rw [e] <;> rfl
 ·simp [R.get] at h
theorem Qr:DD PR B0 60 UH:=by
 refine DK [(38,P8)] [] UH [[.z,.z,.z,.z]] Tryz.func60 Ep ⟨sO,trivial⟩ ?_;intro vs r hwf h;unfold UH at h;split at h
 ·rename_i q p t;replace h:=GP h;obtain ⟨q,rfl,h⟩:=h;replace h:=M8 h;obtain ⟨p,rfl,h⟩:=h;rw [R.get_ok] at h;refine ⟨0,?_⟩;rw [← h];refine (Jj 0 q p t).trans ?_;unfold FO;cases hp:EZ q with
  | false=>rfl
  | true=>rcases N6 hp with e | e | e | e <;> rw [e] <;> rfl
 ·simp [R.get] at h
def Q7 (d i:Int) (s:Sp) (rest:C0):C0:=
 cond (decide (i≥d)) (cond (!((s.lo==0)&&((s.hi==0)&&true))) (some (.bool false,[])) (cond s.emp (some (.bool false,[])) (cond (!(DZ s.lo)) (some (.bool false,[])) (cond (!(DZ s.hi)) (some (.bool false,[])) rest))))
  (cond s.emp (some (.bool false,[])) (cond (!(DZ s.lo)) (some (.bool false,[])) (cond (!(DZ s.hi)) (some (.bool false,[])) rest)))
theorem WE (d i:Int) (s:Sp) (rest:C0):Q7 d i s rest=cond (FP d i s) rest (some (.bool false,[])):=by
 unfold Q7 FP;rw [vay];cases decide (i≥d) <;> cases ((s.lo==0)&&(s.hi==0)) <;> cases s.emp <;> cases DZ s.lo <;> cases DZ s.hi <;> rfl
theorem Oa (b:Bx) (d:Int):DE (wO 6) kM [.tmp 4] [[.bool]] [b.V,.int .i64 d]=Q7 d 0 b.s0 (Q7 d 1 b.s1 (Q7 d 2 b.s2 (Q7 d 3 b.s3 (Q7 d 4 b.s4 (some (.bool true,[])))))):=by kernel_rfl
theorem Qt:DD PR B0 50 UJ:=by
 refine DK [(71,ND),(75,QA)] [(2,⟨[1,4,7,8],[],[]⟩)] UJ [[.bool]] Tryz.func50 Eu ⟨fZ,sQ,trivial⟩ ?_;intro vs r hwf h;unfold UJ at h;split at h
 ·rename_i b d;replace h:=HQ h;obtain ⟨b,rfl,h⟩:=h;rw [R.get_ok] at h;refine ⟨6,?_⟩;rw [← h];refine (Oa b d).trans ?_;rw [WE,WE,WE,WE,WE];unfold MA;cases FP d 0 b.s0 <;> cases FP d 1 b.s1 <;> cases FP d 2 b.s2 <;> cases FP d 3 b.s3 <;> cases FP d 4 b.s4 <;> rfl
 ·simp [R.get] at h
theorem Qs:DD PR B0 51 UI:=by
 refine DK [] [] UI [[.bool]] Tryz.func51 Es trivial ?_;intro vs r hwf h;unfold UI at h;split at h
 ·rename_i m q;replace h:=GU h;obtain ⟨m,rfl,h⟩:=h;replace h:=GP h;obtain ⟨q,rfl,h⟩:=h;rw [R.get_ok] at h;refine ⟨0,?_⟩;rw [← h];refine (Jl 0 m q).trans ?_;unfold JZ;cases (q.k==1) <;> cases (q.k==2) <;> cases (q.k==3) <;> cases decide (q.lo≤q.hi) <;> cases (q.ft==0) <;> cases decide (m.c≥2) <;> cases (q.lo==0) <;> cases (q.hi==0) <;> cases decide (q.ft≥0) <;> cases decide (q.ft < m.d) <;> rfl
 ·simp [R.get] at h
theorem gE:DD PR B0 29 NJ:=by
 refine DK [(49,LU),(51,UI),(50,UJ)] [] NJ [[.bool]] Tryz.func29 Eo ⟨ZS,Qs,Qt,trivial⟩ ?_;intro vs r hwf h;unfold NJ at h;split at h
 ·rename_i m q;replace h:=GU h;obtain ⟨m,rfl,h⟩:=h;replace h:=GP h;obtain ⟨q,rfl,h⟩:=h;rw [R.get_ok] at h;refine ⟨0,?_⟩;rw [← h];refine (Ji 0 m q).trans ?_;unfold DQ Qy.bx;generalize MA _ _=rg;cases DR m <;> cases decide (q.c≥0) <;> cases decide (q.c < m.c) <;> cases decide (q.bu≥0) <;> cases decide (q.bu≤65536) <;> cases rg <;> rfl
 ·simp [R.get] at h
theorem SH {w:Int} (hb:EQ w=true) (hl:(CW w).lf=false):(0≤(CW w).f∧(CW w).f < 4)∧(1≤(CW w).l∧(CW w).l < 31)∧(1≤(CW w).r∧(CW w).r < 31)∧DZ (CW w).a=true:=by
 have h:=(dZ hb).2;unfold GZ at h;rw [hl,CV] at h;unfold LX at h;simp only [AG,AN] at h;exact ⟨⟨h.2.1,h.2.2.1⟩,h.2.2.2.2.1,h.2.2.2.2.2,h.2.2.2.1⟩
theorem o0 (w:Int):DZ (CW w).v=true:=by
 cases hb:EQ w with
 | false=>
  have e:CW w=Nd.zero:=by unfold CW; rw [hb]; rfl
  rw [e];rfl
 | true=>
  have h:=(dZ hb).2;unfold GZ at h;cases hl:(CW w).lf with
  | true=>
   rw [hl,CU,AG] at h;exact h.2
  | false=>
   rw [hl,CV,AG,BP] at h;rw [h.1];rfl
abbrev hZ (l:LI) (p:Pt) (a j:Int):St:=
 ⟨[(0,(.list false [(.int .u64)] l)),(3,(.ptr 3 0 0)),(4,(.int .i64 0)),(5,(.ptr 5 0 0)),(6,(.int .i64 a)),(9,(.int .i64 j))],[(3,(some (.box (Pt.cs p)))),(5,(some (.box [(.bool false),(.int .i64 0),(.int .i64 0),(.int .i64 0),(.int .i64 0),(.int .i64 0)])))]⟩
theorem bY (N:Nat) (l:LI) (p:Pt):∀ (m j n:Nat) (a:Int),0≤a→j+m=31→m < n →
  DC (H3 N) (CX KL [1,1,0,1,0,0]) ⟨[0,3,4,5,6,9],[3,5],[]⟩ n (hZ l p a (j:Int)) (C4 0 (C5 (H3 N) (CX KL [1,1,1]) (C8 (H3 N) none [(BH 4),(vbe 5 89)] [[.z],[.bool,.z,.z,.z,.z,.z]]))) =
   some (.tup [.int .i64 (E0 l p m a).1,(E0 l p m a).2.V],[])
 | m,j,0,a,_,_,h=>absurd h (by omega)
 | 0,j,n+1,a,ha,hd,_=>by
  have hj:j=31:=by omega
  subst hj;rw [DI,uB,AJ (show ¬ ((31:Nat):Int) < 31 by omega),CV];exact mP N p l _ _ _ _ _ _ _ _ _
 | m+1,j,n+1,a,ha,hd,hn=>by
  have ej:AA AC ((j:Int)+1)=((j+1:Nat):Int):=F2 (by omega);rw [DI,uB,AE (show (j:Int) < 31 by omega),CU,E0,ej];cases hge:decide (a≥ic l.length) with
  | true=>
   rw [CU,CU];exact mP N p l _ _ _ _ _ _ _ _ _
  | false=>
   have hge:=A1 hge;rw [CV,CV,AE ha,AE (show a < ic l.length by omega),BK,CU];generalize (l.getD a.toNat default).toInt=w;cases hb:EQ w with
   | false=>
    rw [BX,CU,CU];exact Be N p l _ _ _ _ _ _ _ _ _
   | true=>
    rw [BB,CV,CV];cases hl:(CW w).lf with
    | true=>
     rw [CU,CU];rfl
    | false=>
     obtain ⟨⟨f0,f4⟩,⟨l1,l31⟩,⟨r1,r31⟩,_⟩:=SH hb hl;rw [CV,CV];have step:∀ c:Bool,(cond c (DC (H3 N) (CX KL [1,1,0,1,0,0]) ⟨[0,3,4,5,6,9],[3,5],[]⟩ n (hZ l p (CW w).l ((j+1:Nat):Int)) (C4 0 (C5 (H3 N) (CX KL [1,1,1]) (C8 (H3 N) none [(BH 4),(vbe 5 89)] [[.z],[.bool,.z,.z,.z,.z,.z]]))))
       (DC (H3 N) (CX KL [1,1,0,1,0,0]) ⟨[0,3,4,5,6,9],[3,5],[]⟩ n (hZ l p (CW w).r ((j+1:Nat):Int)) (C4 0 (C5 (H3 N) (CX KL [1,1,1]) (C8 (H3 N) none [(BH 4),(vbe 5 89)] [[.z],[.bool,.z,.z,.z,.z,.z]]))))) =
       some (.tup [.int .i64 (cond c (E0 l p m (CW w).l) (E0 l p m (CW w).r)).1,(cond c (E0 l p m (CW w).l) (E0 l p m (CW w).r)).2.V],[]):=fun c=>by
      cases c with
      | true=>exact bY N l p m (j+1) n (CW w).l (by omega) (by omega) (by omega)
      | false=>exact bY N l p m (j+1) n (CW w).r (by omega) (by omega) (by omega)
     obtain e | e | e | e:(CW w).f=0∨(CW w).f=1∨(CW w).f=2∨(CW w).f=3:=by omega
     all_goals
      rw [e];exact step _
theorem Rf:DD PR B0 99 US:=by
 refine DK [(84,LV)] [(3,⟨[0,3,4,5,6,9],[3,5],[]⟩)] US [[.z],[.bool,.z,.z,.z,.z,.z]] Tryz.func99 Fi ⟨ZT,trivial⟩ ?_;intro vs r hwf h;unfold US at h;split at h
 ·rename_i l p;replace h:=M8 h;obtain ⟨p,rfl,h⟩:=h;rw [R.get_ok] at h;refine ⟨32,?_⟩;rw [← h];exact (Kf 32 l p).trans (bY 32 l p 31 0 32 0 (by omega) rfl (by omega))
 ·simp [R.get] at h
theorem Re:DD PR B0 92 UR:=by
 refine DK [(99,US)] [] UR [[.z]] Tryz.func92 Fh ⟨Rf,trivial⟩ ?_;intro vs r hwf h;unfold UR at h;split at h
 ·rename_i l p;replace h:=M8 h;obtain ⟨p,rfl,h⟩:=h;rw [R.get_ok] at h;exact ⟨0,(Ke 0 l p).trans h⟩
 ·simp [R.get] at h
theorem LC {n:Int} (h:DZ n=true) : -2147483648≤n∧n≤2147483647:=by
 unfold DZ at h;simpa only [AG,AN] using h
theorem bW (l:LI) (p:Pt):∀ (n:Nat) (a:Int),DZ (E0 l p n a).2.v=true
 | 0,_=>rfl
 | n+1,a=>by
  rw [E0];cases decide (a≥ic l.length) with
  | true=>rfl
  | false=>
   rw [CV];generalize (l.getD a.toNat default).toInt=w;cases EQ w with
   | false=>rfl
   | true=>
    rw [BB,CV];cases (CW w).lf with
    | true=>exact o0 w
    | false=>
     rw [CV];cases decide (p.g (CW w).f.toNat≤(CW w).a) with
     | true=>exact bW l p n _
     | false=>exact bW l p n _
theorem uX (l:LI) (p:Pt) : -2147483648≤FF l p∧FF l p≤2147483647:=LC (bW l p 31 0)
theorem H9 {m:Md} (h:DR m=true):(1≤m.d∧m.d≤4)∧(1≤m.c∧m.c≤3)∧m.ts.length≤8∧(DZ m.b0=true∧DZ m.b1=true∧DZ m.b2=true)∧m.ts.all (GN m.d m.c)=true:=by
 unfold DR FR at h;simp only [AG,BO,BI] at h;obtain ⟨⟨h1,h2,h3,h4,h5⟩,⟨h6,h7,h8⟩,h9⟩:=h;exact ⟨⟨by omega,by omega⟩,⟨by omega,by omega⟩,AL h5,⟨h6.1,h7.1,h8.1⟩,h9⟩
theorem lG {m:Md} {k:Int} (h:GA m k=true):0≤k∧k < m.c:=by
 unfold GA at h;simpa only [AG,AN] using h
theorem bJ {m:Md} {k:Int} (hm:DR m=true) (h:GA m k=true):k=0∨k=1∨k=2:=by
 have:=lG h
 have:=(H9 hm).2.1
 omega
theorem XB {m:Md} (hm:DR m=true) (k:Int) : -2147483648≤I9 m k∧I9 m k≤2147483647:=by
 obtain ⟨h0,h1,h2⟩:=(H9 hm).2.2.2.1;unfold I9;cases (k==0) with
 | true=>exact LC h0
 | false=>
  cases (k==1) with
  | true=>exact LC h1
  | false=>exact LC h2
abbrev Ts (ts:LI) (p:Pt) (k s i:Int):St:=
 ⟨[(1,(.int .i64 k)),(5,(.ptr 5 0 0)),(6,(.int .i64 0)),(7,(.int .i64 s)),(15,(.list true [.z,(.list false [(.int .u64)])] ts)),(16,(.int .i64 (ic (AF ts)))),(17,(.int .i64 i))],[(5,(some (.box (Pt.cs p))))]⟩
theorem cE (N:Nat) (ts:LI) (p:Pt) (k:Int) (hts:ts.length≤8):∀ (m i n:Nat) (s:Int),i+m=ts.length→m < n → -2147483648*(i+1)≤s∧s≤2147483648*(i+1) →
  DC (IR N) (CX K8 [1,1,0,1,0,0]) ⟨[1,5,6,7,15,16,17],[5],[]⟩ n (Ts ts p k s (i:Int)) (C4 0 (C5 (IR N) (CX K8 [1,1,1]) (C8 (IR N) none [(BH 6)] [[.z]]))) =
   some (.int .i64 (KN k p (ts.drop i) s),[])
 | m,i,0,s,_,h,_=>absurd h (by omega)
 | 0,i,n+1,s,hd,_,_=>by
  have hi:i=ts.length:=by omega
  subst hi;rw [DI,tU,JY (AO _),CV,CI];exact Ah N p _ _ _ _ _ _
 | m+1,i,n+1,s,hd,hn,hs=>by
  have hi:i < ts.length:=by omega
  have ei:AA AC ((i:Int)+1)=((i+1:Nat):Int):=F2 (by omega);rw [DI,tU,ei,IY hi,CU,JI,BK,CU,JX hi,BD hi,KN];have hv:=uX (EA ts[i]) p;cases hc:((ts[i].cell 0).toInt==k) with
  | true=>
   rw [CU,CU];have ew:AA AC (s+FF (EA ts[i]) p)=s+FF (EA ts[i]) p:=DX (by omega) (by omega);have ih:=cE N ts p k hts m (i+1) n (s+FF (EA ts[i]) p) (by omega) (by omega) (by omega);rw [← ew] at ih;refine Eq.trans ih ?_;rw [ew]
  | false=>
   rw [CV,CV];exact cE N ts p k hts m (i+1) n s (by omega) (by omega) (by omega)
theorem Ql:DD PR B0 80 UB:=by
 refine DK [(92,UR)] [(3,⟨[1,5,6,7,15,16,17],[5],[]⟩)] UB [[.z]] Tryz.func80 Eg ⟨Re,trivial⟩ ?_;intro vs r hwf h;unfold UB at h;split at h
 ·rename_i m k p;replace h:=GU h;obtain ⟨m,rfl,h⟩:=h;replace h:=M8 h;obtain ⟨p,rfl,h⟩:=h;cases hg:(DR m&&GA m k) with
  | false=>rw [hg] at h; simp [R.get] at h
  | true=>
  rw [hg,R.get_br,CU,R.get_ok] at h;rw [AG] at hg;have hb:=XB hg.1 k;have run:=cE 10 m.ts p k (H9 hg.1).2.2.1 m.ts.length 0 10 (I9 m k) (by omega) (by have:=(H9 hg.1).2.2.1; omega) (by omega);refine ⟨10,?_⟩;rw [← h];refine (Jb 10 m k p).trans ?_;rcases bJ hg.1 hg.2 with rfl | rfl | rfl <;> exact run
 ·simp [R.get] at h
theorem Qj:DD PR B0 58 T9:=by
 refine DK [(49,LU),(80,UB)] [] T9 [[.z]] Tryz.func58 Ec ⟨ZS,Ql,trivial⟩ ?_;intro vs r hwf h;unfold T9 at h;split at h
 ·rename_i m k p;replace h:=GU h;obtain ⟨m,rfl,h⟩:=h;replace h:=M8 h;obtain ⟨p,rfl,h⟩:=h;rw [R.get_ok] at h;refine ⟨0,?_⟩;rw [← h];refine (Ix 0 m k p).trans ?_;unfold C1 GA;cases DR m with
  | false=>rfl
  | true=>
   cases h0:decide (k < 0) with
   | true=>rw [AJ (show ¬ 0≤k by have:=BC h0; omega)]; rfl
   | false=>
    rw [AE (show 0≤k by have:=A1 h0; omega)];cases h1:decide (k≥m.c) with
    | true=>rw [AJ (show ¬ k < m.c by have:=BC h1; omega)]; rfl
    | false=>rw [AE (show k < m.c by have:=A1 h1; omega)]; rfl
 ·simp [R.get] at h
abbrev Tg (m:Md) (q:Qy) (p:Pt) (own i:Int):St:=
 ⟨[(4,(.ptr 4 0 0)),(5,(.ptr 5 0 0)),(6,(.ptr 6 0 0)),(8,(.bool false)),(9,(.int .i64 own)),(36,(.int .i64 (Md.c m))),(37,(.int .i64 i))],[(4,(some (.box (Md.cs m)))),(5,(some (.box (Qy.cs q)))),(6,(some (.box (Pt.cs p))))]⟩
def QD (m:Md) (q:Qy) (p:Pt) (own:Int):Nat→Nat→Bool
 | 0,_=>false
 | d+1,i=>(!((i:Int)==q.c)&&decide (C1 m (i:Int) p≥own))||QD m q p own d (i+1)
theorem aN (m:Md) (q:Qy) (p:Pt) (own:Int):∀ d i,QD m q p own d i=(vbb i d).any fun c=>!((c:Int)==q.c)&&decide (C1 m (c:Int) p≥own)
 | 0,_=>rfl
 | d+1,i=>by rw [QD,aN m q p own d (i+1),List.range'_succ,List.any_cons]
theorem jA (N:Nat) (m:Md) (q:Qy) (p:Pt) (own:Int) (hc:0≤m.c∧m.c≤3):∀ (d i n:Nat),((i+d:Nat):Int)=m.c→d < n →
  DC (IS N) (CX KK [1,1,1,0,1,0,1,1,1,0,0,1,0,0]) ⟨[4,5,6,8,9,36,37],[4,5,6],[]⟩ n (Tg m q p own (i:Int)) (C4 1 (C5 (IS N) (CX KK [1,1,1,0,1,0,1,1,1,0,1]) (C4 0 (C5 (IS N) (CX KK [1,1,1,1]) (C8 (IS N) none [(BH 8)] [[.bool]]))))) =
   some (.bool (QD m q p own d i),[])
 | d,i,0,_,h=>absurd h (by omega)
 | 0,i,n+1,hd,_=>by
  rw [DI,tV,AJ (show ¬ (i:Int) < m.c by omega),CV];exact Ai N m q p _ _ _ _
 | d+1,i,n+1,hd,hn=>by
  have ei:AA AC ((i:Int)+1)=((i+1:Nat):Int):=F2 (by omega);rw [DI,tV,ei,AE (show (i:Int) < m.c by omega),CU,QD];have ih:=jA N m q p own hc d (i+1) n (by omega) (by omega);have en:((i:Int) != q.c)=!((i:Int)==q.c):=rfl;rw [en];cases ((i:Int)==q.c) with
  | true=>exact ih
  | false=>
   rw [BX,CU,BL];cases decide (C1 m (i:Int) p≥own) with
   | true=>exact Aj N m q p _ _ _ _
   | false=>exact ih
theorem M5 {m:Md} {q:Qy} (h:DQ m q=true):DR m=true∧(0≤q.c∧q.c < m.c)∧(0≤q.bu∧q.bu≤65536)∧MA q.bx m.d=true∧JZ m q=true:=by
 unfold DQ at h;simp only [AG,AN] at h;exact ⟨h.1,⟨h.2.1,h.2.2.1⟩,⟨h.2.2.2.1,h.2.2.2.2.1⟩,h.2.2.2.2.2.1,h.2.2.2.2.2.2⟩
theorem YI {m:Md} {q:Qy} (h:JZ m q=true):(q.k=1∧q.lo≤q.hi∧q.ft=0∧q.fl=false)∨(q.k=2∧2≤m.c∧q.lo=0∧q.hi=0∧q.ft=0∧q.fl=false)∨(q.k=3∧(0≤q.ft∧q.ft < m.d)∧q.lo=0∧q.hi=0):=by
 unfold JZ at h;cases h1:(q.k==1) with
 | true=>
  rw [h1,CU] at h;simp only [AG,AN,BP,BO] at h;exact .inl ⟨BP.1 h1,h⟩
 | false=>
  rw [h1,CV] at h;cases h2:(q.k==2) with
  | true=>
   rw [h2,CU] at h;simp only [AG,AN,BP,BO,ge_iff_le] at h;exact .inr (.inl ⟨BP.1 h2,h⟩)
  | false=>
   rw [h2,CV] at h;cases h3:(q.k==3) with
   | true=>
    rw [h3,CU] at h;simp only [AG,AN,BP,ge_iff_le] at h;exact .inr (.inr ⟨BP.1 h3,⟨h.1,h.2.1⟩,h.2.2⟩)
   | false=>rw [h3,CV] at h; cases h
theorem Qq:DD PR B0 33 UG:=by
 refine DK [(58,T9),(29,NJ),(60,UH),(59,UP)] [(9,⟨[4,5,6,8,9,36,37],[4,5,6],[]⟩)] UG [[.bool]] Tryz.func33 Em ⟨Qj,gE,Qr,Rc,trivial⟩ ?_;intro vs r hwf h;unfold UG at h;split at h
 ·rename_i m q p t;replace h:=GU h;obtain ⟨m,rfl,h⟩:=h;replace h:=GP h;obtain ⟨q,rfl,h⟩:=h;replace h:=M8 h;obtain ⟨p,rfl,h⟩:=h;rw [R.get_ok] at h;refine ⟨10,?_⟩;rw [← h];refine (Jh 10 m q p t).trans ?_;unfold EJ;cases hr:DQ m q with
  | false=>rfl
  | true=>
   obtain ⟨hm,_,_,_,hk⟩:=M5 hr;have hmp:=H9 hm;rw [BB,CV,BL];cases h1:(q.k==1) with
   | true=>rfl
   | false=>
    rw [CV,CV];cases h2:(q.k==2) with
    | true=>
     rw [CU,CU];refine (jA 10 m q p _ (by omega) m.c.toNat 0 10 (by omega) (by omega)).trans ?_;rw [aN,← List.range_eq_range'];rfl
    | false=>
     rw [CV,CV];rcases YI hk with ⟨e,_⟩ | ⟨e,_⟩ | ⟨_,⟨f0,fd⟩,_⟩
     ·rw [e] at h1; cases h1
     ·rw [e] at h2; cases h2
     ·have step:∀ x:Int,cond (decide (x≥t)) (some (V.bool false,[])) (cond q.fl (some (V.bool (decide (C1 m q.c (FO q p t) > C1 m q.c p)),[])) (some (V.bool (decide (C1 m q.c (FO q p t) < C1 m q.c p)),[]))) =
        some (V.bool (cond (decide (x≥t)) false (cond q.fl (decide (C1 m q.c (FO q p t) > C1 m q.c p)) (decide (C1 m q.c (FO q p t) < C1 m q.c p)))),([]:List (List V))):=fun x=>by
       cases decide (x≥t) with
       | true=>rfl
       | false=>cases q.fl <;> rfl
      obtain e | e | e | e:q.ft=0∨q.ft=1∨q.ft=2∨q.ft=3:=by omega
      all_goals
       rw [e];exact step _
 ·simp [R.get] at h
open Go
theorem SL {n:Nat} (h:n < 18446744073709551616):(AU 64 (n:Int)).toNat=n:=by
 rw [BitVec.toNat_ofInt]
 have:((n:Int) % ((2 ^ 64:Nat):Int)).toNat=n:=by
  rw [Int.emod_eq_of_lt (by omega) (by omega)];exact A0 n
 exact this
theorem M7 {n:Nat} (h:n < 18446744073709551616):FE (n:Int)=(n:Int):=by
 unfold FE;rw [PJ];omega
theorem aM {x y:Nat} (hx:x < 18446744073709551616) (hy:y < 18446744073709551616):EP (x:Int) (y:Int)=((x &&& y:Nat):Int):=by
 unfold EP;rw [show AK AI=64 from rfl,BitVec.toNat_and,SL hx,SL hy];exact M7 (Nat.lt_of_le_of_lt Nat.and_le_left hx)
theorem N4 {x y:Nat} (hx:x < 18446744073709551616) (hy:y < 18446744073709551616):Q2 (x:Int) (y:Int)=((x ||| y:Nat):Int):=by
 unfold Q2;rw [show AK AI=64 from rfl,BitVec.toNat_or,SL hx,SL hy];exact M7 (Nat.or_lt_two_pow (n:=64) hx hy)
theorem xF {x y a:Nat} (ha:a≤64) (hx:x < 2 ^ a) (hy:y*2 ^ a < 18446744073709551616):UY (x:Int) ((y*2 ^ a:Nat):Int)=(x:Int):=by
 have hx':x < 18446744073709551616:=CC hx (va0 (by omega) ha);unfold UY;have e:(AU (AK AI) (x:Int) &&& ~~~ (AU (AK AI) ((y*2 ^ a:Nat):Int))).toNat=x:=by
  rw [show AK AI=64 from rfl];apply Nat.eq_of_testBit_eq;intro i;rw [BitVec.toNat_and,Nat.testBit_and,SL hx'];by_cases hi:i < a
  ·have h1:(~~~ (AU 64 ((y*2 ^ a:Nat):Int))).toNat.testBit i=true:=by
    rw [← BitVec.getLsbD,BitVec.getLsbD_not];have h2:(AU 64 ((y*2 ^ a:Nat):Int)).getLsbD i=false:=by
     rw [BitVec.getLsbD,SL hy,Nat.mul_comm,Nat.testBit_two_pow_mul];simp [Nat.not_le.2 hi]
    rw [h2];simp;omega
   rw [h1,vay]
  ·have h1:x.testBit i=false:=Nat.testBit_lt_two_pow (CC hx (va0 (by omega) (by omega)));rw [h1,B5]
 rw [e];exact M7 hx'
theorem PF {y a:Nat} (hy:y*2 ^ a < 18446744073709551616):J8 (y:Int) a=((y*2 ^ a:Nat):Int):=by
 unfold J8;rw [show ((y:Int)*2 ^ a)=((y*2 ^ a:Nat):Int) by push_cast; rfl];exact M7 hy
theorem Q3 {x y a:Nat} (hx:x < 2 ^ a):x ||| y*2 ^ a=x+y*2 ^ a:=by
 rw [Nat.or_comm,Nat.mul_comm,← Nat.two_pow_add_eq_or_of_lt hx,Nat.add_comm]
theorem fC {x y a w:Nat} (haw:a+w≤64) (hx:x < 2 ^ a) (hy:y < 2 ^ w) (hM:KS (w:Int)=((2 ^ w - 1:Nat):Int)):HY (x:Int) (a:Int) (w:Int) (y:Int)=((x+y*2 ^ a:Nat):Int):=by
 have hp:∀ z,z < 2 ^ w→z*2 ^ a < 18446744073709551616:=fun z hz=>by
  have h1:z*2 ^ a < 2 ^ w*2 ^ a:=Nat.mul_lt_mul_of_pos_right hz (Nat.two_pow_pos a);rw [← Nat.pow_add] at h1;exact CC h1 (show 2 ^ (w+a)≤2 ^ 64 from va0 (by omega) (by omega))
 have hm:(2 ^ w - 1) < 2 ^ w:=Nat.sub_lt (Nat.two_pow_pos w) (by omega);have hx':x < 18446744073709551616:=CC hx (show 2 ^ a≤2 ^ 64 from va0 (by omega) (by omega));unfold HY;rw [hM,A0,PF (hp _ hm),PF (hp _ hy),xF (by omega) hx (hp _ hm),aM (hp _ hy) (hp _ hm)];have e:y*2 ^ a &&& (2 ^ w - 1)*2 ^ a=y*2 ^ a:=by
  rw [← Nat.shiftLeft_eq,← Nat.shiftLeft_eq,← Nat.shiftLeft_and_distrib,Nat.and_two_pow_sub_one_eq_mod,Nat.mod_eq_of_lt hy]
 rw [e,N4 hx' (hp _ hy),Q3 hx]
theorem YT (a:Int):∃ n:Nat,n < 4294967296∧EP (FE a) 4294967295=(n:Int):=by
 have h:∃ m:Nat,m < 18446744073709551616∧FE a=(m:Int):=by
  refine ⟨(FE a).toNat,?_,?_⟩ <;> unfold FE <;> rw [PJ] <;> omega
 obtain ⟨m,hm,e⟩:=h;refine ⟨m &&& 4294967295,?_,?_⟩
 ·exact Nat.lt_of_le_of_lt Nat.and_le_right (by decide)
 ·rw [e];exact aM (y:=4294967295) hm (by decide)
theorem ZH (x:Nd):MC x.lf x.v x.f x.a x.l x.r=GZ x:=by
 obtain ⟨lf,v,f,a,l,r⟩:=x;unfold MC GZ Nd.eq LX;cases lf
 ·simp only [BQ,Bool.and_assoc]
 ·simp only [CF,CN,BL,vay];cases DZ v <;> cases (f==0) <;> cases (a==0) <;> cases (l==0) <;> cases (r==0) <;> rfl
theorem eZ (x:Nd):FB x.lf x.v x.f x.a x.l x.r=GM x:=by
 unfold FB GM;rw [ZH];cases hr:GZ x with
 | false=>rfl
 | true=>
  obtain ⟨lf,v,f,a,l,r⟩:=x;simp only [CF];cases lf with
  | true=>
   simp only [CF];unfold HY;obtain ⟨n,hn,e⟩:=YT v;have e1:KS 32=4294967295:=by decide
   have e2:J8 4294967295 (AD 0)=4294967295:=by decide
   have e3:UY 9223372036854775808 4294967295=9223372036854775808:=by decide
   have e4:J8 (FE v) (AD 0)=FE v:=by
    unfold J8 FE;rw [PJ,PJ];simp
   rw [e1,e2,e3,e4]
  | false=>
   simp only [BQ];unfold GZ at hr;simp only [BQ,AG,AN,LX] at hr;obtain ⟨_,f0,f1,_,⟨l0,l1⟩,r0,r1⟩:=hr;obtain ⟨n,hn,e⟩:=YT a;have hz:HY 0 0 32 (FE a)=(n:Int):=by
    unfold HY;have e1:KS 32=4294967295:=by decide
    have e2:J8 4294967295 (AD 0)=4294967295:=by decide
    have e3:UY 0 4294967295=0:=by decide
    have e4:J8 (FE a) (AD 0)=FE a:=by
     unfold J8 FE;rw [PJ,PJ];simp
    rw [e1,e2,e3,e4,e]
    have:=N4 (x:=0) (y:=n) (by omega) (by omega)
    simpa using this
   obtain ⟨f',rfl⟩:=Int.eq_ofNat_of_zero_le f0;obtain ⟨l',rfl⟩:=Int.eq_ofNat_of_zero_le (show 0≤l by omega);obtain ⟨r',rfl⟩:=Int.eq_ofNat_of_zero_le (show 0≤r by omega);rw [hz,e,M7 (n:=f') (by omega),M7 (n:=l') (by omega),M7 (n:=r') (by omega)];have p1:HY (n:Int) 32 4 (f':Int)=((n+f'*2 ^ 32:Nat):Int):=fC (a:=32) (w:=4) (by omega) (by omega) (by omega) (by decide);have p2:HY ((n+f'*2 ^ 32:Nat):Int) 40 8 (l':Int)=((n+f'*2 ^ 32+l'*2 ^ 40:Nat):Int):=fC (a:=40) (w:=8) (by omega) (by omega) (by omega) (by decide);have p3:HY ((n+f'*2 ^ 32+l'*2 ^ 40:Nat):Int) 48 8 (r':Int)=((n+f'*2 ^ 32+l'*2 ^ 40+r'*2 ^ 48:Nat):Int):=fC (a:=48) (w:=8) (by omega) (by omega) (by omega) (by decide);rw [p1,p2,p3,PF (y:=f') (a:=32) (by omega),PF (y:=l') (a:=40) (by omega),PF (y:=r') (a:=48) (by omega)];rw [N4 (x:=n) (by omega) (by omega),Q3 (x:=n) (a:=32) (by omega),N4 (by omega) (by omega),Q3 (a:=40) (by omega),N4 (by omega) (by omega),Q3 (a:=48) (by omega)]
theorem Mi {x:Nd} (h:GZ x=true):GM x≠0:=by
 rw [← eZ];unfold FB;rw [ZH,h];simp only [CF];obtain ⟨lf,v,f,a,l,r⟩:=x;cases lf with
 | true=>
  simp only [CF];obtain ⟨n,hn,e⟩:=YT v;rw [e]
  have:=N4 (x:=9223372036854775808) (y:=n) (by omega) (by omega)
  have h2:9223372036854775808≤9223372036854775808 ||| n:=Nat.left_le_or;intro h3;have h4:((9223372036854775808 ||| n:Nat):Int)=0:=this ▸ h3;omega
 | false=>
  simp only [BQ];unfold GZ at h;simp only [BQ,AG,AN,LX] at h;obtain ⟨_,f0,f1,_,⟨l0,l1⟩,r0,r1⟩:=h;obtain ⟨n,hn,e⟩:=YT a;obtain ⟨f',rfl⟩:=Int.eq_ofNat_of_zero_le f0;obtain ⟨l',rfl⟩:=Int.eq_ofNat_of_zero_le (show 0≤l by omega);obtain ⟨r',rfl⟩:=Int.eq_ofNat_of_zero_le (show 0≤r by omega);rw [e,M7 (n:=f') (by omega),M7 (n:=l') (by omega),M7 (n:=r') (by omega)];rw [PF (y:=f') (a:=32) (by omega),PF (y:=l') (a:=40) (by omega),PF (y:=r') (a:=48) (by omega)];rw [N4 (x:=n) (by omega) (by omega),Q3 (x:=n) (a:=32) (by omega),N4 (by omega) (by omega),Q3 (a:=40) (by omega),N4 (by omega) (by omega),Q3 (a:=48) (by omega)];omega
def fE (w:Int):Bool:=GZ (JM w)&&(GM (JM w)==w)
theorem Na (w:Int):fE w=EQ w:=by
 unfold fE EQ;cases hr:GZ (JM w) with
 | true=>
  rw [BL];cases hw:GM (JM w)==w with
  | false=>rw [vaM]
  | true=>
   have h1:=Mi hr;rw [BP.1 hw] at h1;simp [h1]
 | false=>
  have:GM (JM w)=0:=by
   unfold GM;rw [hr];rfl
  rw [this,B5];cases hw:(w==0) with
  | true=>rfl
  | false=>
   have:¬ (0=w):=fun e=>by subst e; cases hw
   simp [this]
open Go
def Sd:Md:=⟨1,1,3,0,0,[.agg [.int 0,.list [.int (FB false 0 0 5 1 2),.int (FB true 10 0 0 0 0),.int (FB true 20 0 0 0 0)]]]⟩
def TH:DB
 | []=>.ok Sd.V []
 | _=>.no
def TL:DB
 | []=>.ok (.bool true) []
 | _=>.no
open Go
abbrev Fv:List Kd:=[.z,.list false [.z],.list false [.z],.list false [.z],.list false [.z]]
structure Ft where
 d:Int
 c:Int
 bias:LI
 ts:LI
def Ft.cs (f:Ft):List FM.V:=[.int .i64 f.d,.int .i64 f.c,.list false [.z] f.bias,.list true Fv f.ts]
def Ft.V (f:Ft):FM.V:=.agg f.cs
def Ft.M (f:Ft):Md:=dV f.d f.c f.bias f.ts
def ftOf?:List FM.V→Option Ft
 | [.int .i64 d,.int .i64 c,.list false [.z] b,.list true [.z,.list false [.z],.list false [.z],.list false [.z],.list false [.z]] t]=>some ⟨d,c,b,t⟩
 | _=>none
def akOf?:List FM.V→Option Ak
 | [.int .i64 k,.int .i64 c,.int .i64 lo,.int .i64 size,.int .i64 ft,.int .i64 bu,.bool fl,.list false [.z] sp]=>some ⟨k,c,lo,size,ft,bu,fl,sp⟩
 | _=>none
abbrev g9 (v:FM.V) (k:Ft→R):R:=OC ftOf? v k
abbrev g8 (v:FM.V) (k:Ak→R):R:=OC akOf? v k
theorem u5 {v:FM.V} {k:Ft→R} {z:FM.V × List (List FM.V)} (h:(g9 v k).get=some z):∃ x:Ft,v=x.V∧(k x).get=some z:=by
 obtain ⟨l,x,rfl,hx,h⟩:=RJ h;unfold ftOf? at hx;split at hx
 ·simp only [AB] at hx;subst hx;exact ⟨_,rfl,h⟩
 ·cases hx
theorem u4 {v:FM.V} {k:Ak→R} {z:FM.V × List (List FM.V)} (h:(g8 v k).get=some z):∃ x:Ak,v=x.V∧(k x).get=some z:=by
 obtain ⟨l,x,rfl,hx,h⟩:=RJ h;unfold akOf? at hx;split at hx
 ·simp only [AB] at hx;subst hx;exact ⟨_,rfl,h⟩
 ·cases hx
def E8 (a:Ak) (m:Md):Qy:=HZ a m.d m.c
def Y5 (m:Md):Bool:=(decide (1≤m.d)&&decide (m.d≤4))&&(decide (1≤m.c)&&decide (m.c≤3))
def UU:DB
 | [f]=>g9 f fun f=>.ok f.M.V []
 | _=>.no
def UT:DB
 | [a,m]=>g8 a fun a=>GO m fun m=>.br (Y5 m) (.ok (E8 a m).V []) .no
 | _=>.no
def Qy.bud (q:Qy) (b:Int):Qy:=⟨q.k,q.c,q.a0,q.b0,q.a1,q.b1,q.a2,q.b2,q.a3,q.b3,q.a4,q.b4,q.lo,q.hi,q.ft,q.fl,b⟩
theorem xB {vs:List FM.V} {z:FM.V × List (List FM.V)} (h:(UU vs).get=some z):(W3 vs).get=some z:=by
 unfold UU at h;split at h
 ·replace h:=u5 h;obtain ⟨f,rfl,h⟩:=h;exact h
 ·simp [R.get] at h
theorem xC {vs:List FM.V} {z:FM.V × List (List FM.V)} (h:(UT vs).get=some z):(W2 vs).get=some z:=by
 unfold UT at h;split at h
 ·replace h:=u4 h;obtain ⟨a,rfl,h⟩:=h;replace h:=GU h;obtain ⟨m,rfl,h⟩:=h;exact h
 ·simp [R.get] at h
open Go
def VJ (s:Sp):Bool:=decide (-2147483648≤s.lo)&&(decide (s.lo≤s.hi)&&decide (s.hi≤2147483647))
def goodB (b:Bx):Bool:=VJ b.s0&&(VJ b.s1&&(VJ b.s2&&(VJ b.s3&&VJ b.s4)))
def Q9 (x:IV):Bool:=cond (KV x) (FI x==0&&HP x==0) (decide (0≤FI x)&&decide (FI x≤4))
def K9 (st:Int × Int) (x:IV):Option (Int × Int):=
 cond (st.1==0||!(Q9 x)) none (cond (KV x) (some (st.1 - 1,st.2)) (some (st.1+1,max st.2 (st.1+1))))
def JG:LI→Int × Int→Option (Int × Int)
 | [],st=>some st
 | x :: r,st=>match K9 st x with
  | some st'=>JG r st'
  | none=>none
def MP (l:LI):Int:=cond (decide (ic l.length > 65536)) 0 (match JG l (1,1) with
 | some st=>cond (!(st.1==0)||decide (st.2 > 200)) 0 st.2
 | none=>0)
def L9 (st:LI × LI) (x:IV):Option (List IV × LI):=
 cond (KV x) (some (E5 st.1,st.2++[(C3 st.1).I]))
  (cond (decide (HP x < ((C3 st.1).g (FI x).toNat).lo)||decide (HP x≥((C3 st.1).g (FI x).toNat).hi)) none
   (some (E5 st.1++[((C3 st.1).cutH (FI x) (HP x)).I,((C3 st.1).cutL (FI x) (HP x)).I],st.2)))
def J4:LI→LI × LI→Option (List IV × LI)
 | [],st=>some st
 | x :: r,st=>match L9 st x with
  | some st'=>J4 r st'
  | none=>none
def PA (b:Bx) (l:LI):Option LI:=cond (decide (MP l > 0)) ((J4 l ([b.I],[])).map (·.2)) none
def Vd.p (v:Vd):Pt:=⟨v.w0,v.w1,v.w2,v.w3⟩
def M3 (m:Md) (q:Qy) (v:Vd):Bool:=
 DQ m q&&cond (v.kind==1) (match PA (DL q) v.proof with
   | some l=>l.all fun x=>EX m q (C9 x)
   | none=>false)
  (cond (v.kind==2) ((DL q).has v.p v.twin&&EJ m q v.p v.twin) false)
open Go
def JF (j:Nat):Bx→List Int→List Bx
 | c,[]=>[c]
 | c,a :: r=>c.cutL (j:Int) a :: JF j (c.cutH (j:Int) a) r
def GW (m:Md) (q:Qy) (b:Bx):Nat→List Bx
 | 0=>[b]
 | j+1=>(GW m q b j).flatMap fun c=>JF j c (C7 m q b j)
def LE (m:Md) (q:Qy):Bool:=(GW m q (DL q) 5).all fun c=>!(EJ m q c.low c.s4.hi)
def DM (m:Md) (q:Qy) (b:Bx):Nat→Nat
 | 0=>1
 | j+1=>DM m q b j*(1+(C7 m q b j).length)
def QM (m:Md) (q:Qy) (b:Bx):Bool:=DR m&&BM (DM m q b 5) 1000000000000000
def FL (m:Md) (q:Qy) (b:Bx) (most:Int):Bool:=decide (ic (DM m q b 5) > most)
def T6:DB
 | [m,q,b,.int .i64 most]=>GO m fun m=>GI q fun q=>HD b fun b=>.br (QM m q b) (.ok (.tup [.int .i64 (cond (FL m q b most) 0 (ic (DM m q b 5))),.bool (!(FL m q b most))]) []) .no
 | _=>.no
open Go
def TT:DB
 | [.int .i64 n,.int .i64 w]=>.br (decide (w=32)&&(decide (0≤n)&&decide (n≤4294967295))) (.ok (.int .i64 (HE n)) []) .no
 | _=>.no
def LS:DB
 | [.int .u64 w]=>.ok (.tup [.agg [.bool (CW w).lf,.int .i64 (CW w).v,.int .i64 (CW w).f,.int .i64 (CW w).a,.int .i64 (CW w).l,.int .i64 (CW w).r],.bool (EQ w)]) []
 | _=>.no
def TV:DB
 | [.list false [.int .u64] l,.int .i64 dim]=>.ok (.bool (FQ l dim)) []
 | _=>.no
def TX:DB
 | [.list false [.int .u64] l,p]=>MI p fun p=>.ok (.int .i64 (QK l p)) []
 | _=>.no
def TW:DB
 | [.list false [.int .u64] l,p]=>MI p fun p=>.ok (.int .i64 (FF l p)) []
 | _=>.no
def P3:DB
 | [m]=>GO m fun m=>.ok (.bool (DR m)) []
 | _=>.no
def TU:DB
 | [m,.int .i64 k,p]=>GO m fun m=>MI p fun p=>.ok (.int .i64 (C1 m k p)) []
 | _=>.no
def TQ:DB
 | [m,q]=>GO m fun m=>GI q fun q=>.ok (.bool (DQ m q)) []
 | _=>.no
def TR:DB
 | [q]=>GI q fun q=>.ok (DL q).V []
 | _=>.no
def TP:DB
 | [b]=>HD b fun b=>.ok b.low.V []
 | _=>.no
def TM:DB
 | [m,q,p,.int .i64 t]=>GO m fun m=>GI q fun q=>MI p fun p=>.ok (.bool (EJ m q p t)) []
 | _=>.no
def TO:DB
 | [m,q,b,.int .i64 i]=>GO m fun m=>GI q fun q=>HD b fun b=>.br (DR m&&FS i) (.ok (.list false [.z] (iZ (C7 m q b i.toNat))) []) .no
 | _=>.no
def Sp.goodB (s:Sp):Bool:=decide (-2147483648≤s.lo)&&(decide (s.lo≤s.hi)&&decide (s.hi≤2147483647))
def Bx.goodB (b:Bx):Bool:=b.s0.goodB&&(b.s1.goodB&&(b.s2.goodB&&(b.s3.goodB&&b.s4.goodB)))
def TN:DB
 | [m,q,b,.int .i64 most]=>GO m fun m=>GI q fun q=>HD b fun b=>
  .br (DR m&&(b.goodB&&(decide (1≤most)&&decide (most≤65536)))) (.ok (.tup [.list true D0 (cond (FL m q b most) [] ((GW m q b 5).map Bx.I)),.bool (!(FL m q b most))]) []) .no
 | _=>.no
def TS:DB
 | [m,q,.int .i64 most]=>GO m fun m=>GI q fun q=>
  .br (DQ m q&&(decide (1≤most)&&decide (most≤65536))) (.ok (.tup [.bool (!(FL m q (DL q) most)&&LE m q),.bool (!(FL m q (DL q) most))]) []) .no
 | _=>.no
open Go Go.Proofs Go.RowKit Go.Sort
theorem cT (x:Int):∀ l,(QO x l).Perm (x :: l)
 | []=>vbw _
 | y :: r=>by
  rw [QO];cases decide (x≤y) with
  | true=>exact vbw _
  | false=>exact ((cT x r).cons y).trans (List.Perm.swap x y r)
theorem N9:∀ l,(IE l).Perm l
 | []=>vbw _
 | x :: r=>(cT x (IE r)).trans ((N9 r).cons x)
theorem nI (x:Int):∀ {l:List Int},l.Pairwise (·≤·)→(QO x l).Pairwise (·≤·)
 | [],_=>by simp [QO]
 | y :: r,h=>by
  rw [QO];cases hd:decide (x≤y) with
  | true=>
   have hd:=BC hd;rw [CU];rw [vbq] at h ⊢;refine ⟨fun z hz=>?_,by rw [vbq]; exact h⟩;rcases AT.1 hz with rfl | hz
   ·exact hd
   ·exact Int.le_trans hd (h.1 z hz)
  | false=>
   have hd:=A1 hd;rw [CV];rw [vbq] at h ⊢;refine ⟨fun z hz=>?_,nI x h.2⟩;rcases AT.1 ((cT x r).mem_iff.1 hz) with rfl | hz
   ·omega
   ·exact h.1 z hz
theorem gF:∀ l,(IE l).Pairwise (·≤·)
 | []=>List.Pairwise.nil
 | x :: r=>nI x (gF r)
theorem Gq (l:List Int):(l.mergeSort fun x y=>decide (x≤y))=IE l:=by
 refine List.Perm.eq_of_pairwise (le:=(·≤·)) (fun a b _ _ h1 h2=>Int.le_antisymm h1 h2) ?_ (gF l) ((List.mergeSort_perm l _).trans (N9 l).symm)
 have:=List.pairwise_mergeSort (le:=fun (x y:Int)=>decide (x≤y)) (fun a b c h1 h2=>AE (Int.le_trans (BC h1) (BC h2))) (fun a b=>by
  rcases Int.le_total a b with h | h
  ·rw [AE h]; rfl
  ·rw [AE h,Bool.or_true]) l
 exact this.imp fun h=>by simpa using h
theorem lJ (x:Int):∀ (l:List Int) (p:Int),HT p (l++[x])=HT p l++cond ((l.getLast?.getD p)==x) [] [x]
 | [],p=>by
  show cond (x==p) (HT x []) (x :: HT x [])=_;rw [show ((([]:List Int).getLast?.getD p)==x)=(x==p) by show (p==x)=(x==p); rw [va5,BP,BP]; exact eq_comm];cases (x==p) <;> rfl
 | y :: r,p=>by
  rw [vap,HT,HT,lJ x r y];have e:((y :: r).getLast?.getD p)=r.getLast?.getD y:=by
   cases r with
   | nil=>rfl
   | cons z r=>rw [List.getLast?_cons_cons,List.getLast?_eq_some_getLast (List.cons_ne_nil z r)]; rfl
  rw [e];cases (y==p) <;> rfl
theorem yS (x:Int) (l:List Int):GY (l++[x])=GY l++cond (l.getLast?==some x) [] [x]:=by
 cases l with
 | nil=>rfl
 | cons y r=>
  rw [vap,GY,GY,lJ,vap];congr 2
  have:((y :: r).getLast?==some x)=(r.getLast?.getD y==x):=by
   cases r with
   | nil=>show (some y==some x)=(y==x); rw [va5]; simp
   | cons z r=>rw [List.getLast?_cons_cons,List.getLast?_eq_some_getLast (List.cons_ne_nil z r)]; rw [va5]; simp
  rw [this]
theorem yV (l:List Int):Lib.compact l=GY l:=by
 have key:∀ m,m≤l.length→vbj l.toArray m=GY (l.take m):=by
  intro m
  induction m with
  | zero=>intro _; rfl
  | succ m ih=>
   intro hm;have e1:vbj l.toArray (m+1)=vbj l.toArray m++cond (Lib.keeps l.toArray m) [l.toArray[m]!] []:=by
    unfold vbj;rw [List.range_succ,List.filter_append,List.map_append];congr 1;cases hk:Lib.keeps l.toArray m <;> simp [hk]
   have hml:m < l.length:=by omega
   have e2:l.toArray[m]! = l[m]:=by simp [hml]
   rw [e1,ih (by omega),List.take_succ_eq_append_getElem hml,yS,e2];congr 1;cases m with
   | zero=>simp [Lib.keeps]
   | succ k=>
    have hk:k < l.length:=by omega
    have e3:(l.take (k+1)).getLast?=some l[k]:=by rw [List.getLast?_take]; simp [hk]
    rw [e3];have e4:l.toArray[k]! = l[k]:=by simp [hk]
    cases hq:Lib.keeps l.toArray (k+1) with
    | true=>
     have:¬ (l[k+1]=l[k]):=fun he=>by
      rw [Lib.keeps_neg (Nat.succ_pos k) (by show l.toArray[k+1]! = l.toArray[k]!; rw [e2,e4]; exact he)] at hq;cases hq
     rw [CU];rw [show (some l[k]==some l[k+1])=false by simp; exact fun h=>this h.symm];rfl
    | false=>
     have:l[k+1]=l[k]:=by
      by_cases he:l[k+1]=l[k]
      ·exact he
      ·rw [Lib.keeps_pos (by show l.toArray[k+1]!≠l.toArray[k]!; rw [e2,e4]; exact he)] at hq;cases hq
     rw [CV,this];rw [show (some l[k]==some l[k])=true by simp];rfl
 unfold Lib.compact;rw [key _ (AO _),BG]
theorem lH:∀ (l:List Int) (p:Int),(HT p l).length≤l.length
 | [],_=>AO _
 | x :: r,p=>by
  have:=lH r x
  rw [HT];cases (x==p)
  ·rw [CV,AP,AP]; omega
  ·rw [CU,AP]; omega
theorem XK (l:List Int):(GY l).length≤l.length:=by
 cases l with
 | nil=>exact AO _
 | cons x r=>rw [GY,AP,AP]; have:=lH r x; omega
theorem bK {p x:Int}:∀ {l:List Int},x∈HT p l→x∈l
 | [],h=>by cases h
 | y :: r,h=>by
  rw [HT] at h;cases hb:(y==p)
  ·rw [hb,CV] at h;rcases AT.1 h with h | h
   ·exact h ▸ AR ..
   ·exact AW _ (bK h)
  ·rw [hb,CU] at h;exact AW _ (bK h)
theorem lK {x:Int} {l:List Int} (h:x∈GY l):x∈l:=by
 cases l with
 | nil=>cases h
 | cons y r=>
  rcases AT.1 h with h | h
  ·exact h ▸ AR ..
  ·exact AW _ (bK h)
theorem HU (l:List Int):(iZ l).length=l.length:=CL ..
theorem cP (l:List Int):(iZ l).map IV.toInt=l:=by
 unfold iZ;rw [List.map_map];exact List.map_id l
theorem bE (l:List Int):JD (iZ l)=l.map (Value.int .i64):=by
 unfold JD iZ;rw [List.map_map];rfl
theorem yK (l:LI):JD l=(l.map IV.toInt).map (Value.int .i64):=by
 unfold JD;rw [List.map_map];rfl
abbrev G8:Int→Value:=Value.int .i64
theorem Y8 {w:World} {e g n cap:Nat} {zs:List Int} (h:w.ownsRow 0 e 1 (.slice (some ⟨g,0,none⟩) n cap) zs.length (zs.map G8)):n=zs.length∧n≤cap∧cap≤maxLen∧g < w.heap.size∧Holds G8 w g 0 zs.toArray:=by
 rcases h.2 with ⟨h1,_⟩ | ⟨g',cap',cur,h1,_,h2,h3,h4,h5,h6⟩
 ·cases h1
 ·simp only [B4,AB,CP,CE] at h1;obtain ⟨rfl,rfl,rfl⟩:=h1;refine ⟨rfl,h3,h4,(vaY.1 h2).1,fun j hj=>?_⟩;have hj':j < zs.length:=by simpa using hj
  rw [A3];constructor
  ·have hc:cur[j]?=some (G8 zs[j]):=by
    have:(cur.toList.take (zs.length*1))[j]?=some (G8 zs[j]):=by rw [h6]; simp [hj']
    rw [CJ,A6 (by omega)] at this;simpa using this
   simp only [World.cell?,h2];simp [hc,hj']
  ·simp [World.frozen?,h2]
theorem Fj {w:World} {g:Nat} {cur:Array Value} {e:TypeId} {fr:Nat × Nat} (h:w.heap[g]?=some (.cells cur e fr)) (q:Nat) (os:Array Obj) (zs:List Int) :
  (grow (putRow G8 (vbs w q) g 0 zs.toArray) os).heap[g]?=some (.cells (putCells G8 0 zs.toArray cur) e fr):=by
 have hg:g < w.heap.size:=(vaY.1 h).1;have h0:(putRow G8 (vbs w q) g 0 zs.toArray).heap[g]?=some (.cells (putCells G8 0 zs.toArray cur) e fr):=by
  unfold putRow mapBlock;simp [Array.getElem?_modify,onCells,h]
 unfold grow;simp only;rw [Array.getElem?_append_left (by rw [size_putRow]; exact hg)];exact h0
theorem My {cur:Array Value} {zs:List Int} (h:zs.length≤cur.size):(putCells G8 0 zs.toArray cur).size=cur.size∧(putCells G8 0 zs.toArray cur).toList.take zs.length=zs.map G8:=by
 refine ⟨by simp [putCells],?_⟩;apply List.ext_getElem?;intro k;rw [CJ];by_cases hk:k < zs.length
 ·rw [A6 hk];have hc:k < cur.size:=by omega
  simp [putCells,hk,hc]
 ·rw [AX hk];simp [hk]
theorem eO {w:World} {e g n cap:Nat} {zs:List Int} (h:w.ownsRow 0 e 1 (.slice (some ⟨g,0,none⟩) n cap) zs.length (zs.map G8)) (q:Nat) (os:Array Obj) (ys rest:List Int) (hl:(ys++rest).length=zs.length) :
  w.grownBy (grow (putRow G8 (vbs w q) g 0 (ys++rest).toArray) os) (some g) ∧
   (grow (putRow G8 (vbs w q) g 0 (ys++rest).toArray) os).ownsRow 0 e 1 (.slice (some ⟨g,0,none⟩) ys.length cap) ys.length (ys.map G8):=by
 have hh:=Y8 h;rcases h.2 with ⟨h1,_⟩ | ⟨g',cap',cur,h1,_,h2,h3,h4,h5,h6⟩
 ·cases h1
 ·simp only [B4,AB,CP,CE] at h1;obtain ⟨rfl,rfl,rfl⟩:=h1;rw [AS] at hl;have hcur:(ys++rest).length≤cur.size:=by rw [AS]; omega
  obtain ⟨p1,p2⟩:=My (zs:=ys++rest) hcur;refine ⟨⟨rfl,rfl,rfl,?_,fun k hk hne=>?_⟩,by simp,.inr ⟨g,cap,_,rfl,B7 _,Fj h2 q os _,by omega,h4,by rw [p1,h5],?_⟩⟩
  ·show w.heap.size≤((putRow G8 (vbs w q) g 0 (ys++rest).toArray).heap++os).size;rw [Array.size_append,size_putRow];exact Nat.le_add_right _ _
  ·have hne':g≠k:=fun e=>hne (by rw [e])
   unfold grow;simp only;rw [Array.getElem?_append_left (by rw [size_putRow]; exact hk)];unfold putRow mapBlock;simp [Array.getElem?_modify,hne']
  ·rw [Nat.mul_one]
   have:=congrArg (AY ys.length) p2
   rw [List.take_take,vaz (by rw [AS]; omega),List.map_append,List.take_left' (by simp)] at this;exact this
theorem nC (w:World) (r:Option Nat):w.grownBy w r:=⟨rfl,rfl,rfl,AO _,fun _ _ _=>rfl⟩
theorem fO {l:LI} (h:∀ x∈l,AC.min≤x.toInt∧x.toInt≤AC.max) {ys:List Int} (hs:∀ y∈ys,y∈l.map IV.toInt):∀ x∈iZ ys,AC.min≤x.toInt∧x.toInt≤AC.max:=by
 intro x hx;obtain ⟨y,hy,rfl⟩:=List.mem_map.1 hx;obtain ⟨z,hz,hzy⟩:=List.mem_map.1 (hs y hy);show AC.min≤y∧y≤AC.max;rw [← hzy];exact h z hz
theorem eM {w:World} {e:Nat} {v:Value} {l:LI} (h:w.ownsRow 0 e 1 v l.length (JD l)):(v = .slice none 0 0∧l=[])∨∃ g cap,v = .slice (some ⟨g,0,none⟩) (l.map IV.toInt).length cap∧w.ownsRow 0 e 1 (.slice (some ⟨g,0,none⟩) (l.map IV.toInt).length cap) (l.map IV.toInt).length ((l.map IV.toInt).map G8):=by
 rcases h.2 with ⟨h1,h2⟩ | ⟨g,cap,cur,h1,_⟩
 ·exact .inl ⟨h1,List.length_eq_zero_iff.1 h2⟩
 ·rw [h1] at h;refine .inr ⟨g,cap,by rw [h1,CL],?_⟩;rw [CL,← yK];exact h
theorem Qh:NC PR 85 YA:=by
 intro w v l l' rs ys hown hrng hlen hr hg;unfold YA at hg;simp only at hg;split at hg
 ·simp only [AB] at hg;subst hg;obtain rfl:ys=[]:=by
   cases ys with
   | nil=>rfl
   | cons y ys=>simp [PC] at hr
  refine Does.of_calls Tryz.func85 (by kernel_rfl) (by kernel_rfl) ?_;have hmem:∀ y∈IE (l.map IV.toInt),y∈l.map IV.toInt:=fun y hy=>(N9 _).mem_iff.1 hy
  rcases eM hown with ⟨rfl,rfl⟩ | ⟨g,cap,rfl,ho⟩
  ·refine (Tryz.slices_Sort_int_none none 0 w).mono ?_;rintro e w' ⟨rfl,rfl⟩;exact ⟨_,rfl,nC _ _,fun x hx=>(by cases hx),fun h=>(by cases h),fun _=>hown⟩
  ·obtain ⟨_,_,hcm,hgs,hH⟩:=Y8 ho;refine (Tryz.slices_Sort_int g 0 cap (l.map IV.toInt) w hH hgs (by rw [CL]; unfold strMax at hlen; omega)).mono ?_;rintro e w' ⟨rfl,q,os,rfl⟩;rw [Gq];have hl:(IE (l.map IV.toInt)++[]).length=(l.map IV.toInt).length:=by rw [va8]; exact (N9 _).length_eq
   have hp:=eO ho q os (IE (l.map IV.toInt)) [] hl;rw [va8] at hp hl;refine ⟨_,rfl,hp.1,fO hrng hmem,fun h=>(by cases h),fun _=>?_⟩;rw [bE,HU,← hl];exact hp.2
 ·cases hg
theorem Qf:NC PR 86 X8:=by
 intro w v l l' rs ys hown hrng hlen hr hg;unfold X8 at hg;simp only at hg;split at hg
 ·simp only [AB] at hg;subst hg;obtain rfl:ys=[]:=by
   cases ys with
   | nil=>rfl
   | cons y ys=>simp [PC] at hr
  refine Does.of_calls Tryz.func86 (by kernel_rfl) (by kernel_rfl) ?_;rcases eM hown with ⟨rfl,rfl⟩ | ⟨g,cap,rfl,ho⟩
  ·refine (Tryz.slices_Compact_int_empty none 0 w).mono ?_;rintro e w' ⟨rfl,rfl⟩;exact ⟨_,rfl,nC _ _,fun x hx=>(by cases hx),fun _=>⟨hown,fun b hb=>(by simp [CA] at hb)⟩,fun h=>by cases h⟩
  ·obtain ⟨_,hnc,hcm,hgs,hH⟩:=Y8 ho;refine (Tryz.slices_Compact_int g 0 cap (l.map IV.toInt) w hH (by rw [CL]; unfold strMax at hlen; omega) hnc).mono ?_;rintro e w' ⟨rfl,q,rfl⟩;rw [yV];have hlc:=XK (l.map IV.toInt);have hp:=eO ho q #[] (GY (l.map IV.toInt)) (vak ((l.map IV.toInt).length - (GY (l.map IV.toInt)).length) 0) (by rw [AS,List.length_replicate]; omega);rw [grow_empty] at hp;refine ⟨_,rfl,hp.1,fO hrng fun y hy=>lK hy,fun _=>⟨?_,fun b hb=>.inl hb⟩,fun h=>by cases h⟩;rw [bE,HU];exact hp.2
 ·cases hg
set_option maxHeartbeats 1000000 in
theorem lV (a b x:Int) (B:Nat) (W:World) (ha:W.cell? ⟨B,0,none⟩=some (.int .i64 a)) (hb:W.cell? ⟨B,1,none⟩=some (.int .i64 b)) :
  FnGives Tryz.prog 65 #[.pointer (some ⟨B,0,none⟩)] #[.int .i64 x] (.bool (decide (x < a)||decide (x≥b))) W:=by
 show Calls Tryz.prog 65 #[.int .i64 x,.pointer (some ⟨B,0,none⟩)] W _
 go_enter Tryz.func65,Tryz.ntmps65
 go_wp2
 all_goals (go_ret; exact ⟨by simp_all,0,rfl⟩)
set_option maxHeartbeats 1000000 in
theorem y8 (fv:Value) (w:World):Calls Tryz.prog 63 #[.slice none 0 0,fv] w fun e w'=>e = .returned (.slice none 0 0)∧∃ q,w'=w.drewN q:=by
 go_enter Tryz.func63,Tryz.ntmps63
 go_wp2_with (go_at_call 83; refine (Tryz.slices_IndexFunc_empty (α:=Int) none 0 fv _).mono ?_; rintro e w' ⟨rfl,rfl⟩)
 go_ret
 exact ⟨rfl,0,rfl⟩
theorem Mn {w:World} {v:Value} {f:Nat} {a b:Int} {ys:List Value} (h:PC w v [.clo f [.bor [.int .i64 a,.int .i64 b]]] ys):∃ B,ys=[.func (.func f) #[] #[.pointer (some ⟨B,0,none⟩)]]∧B < w.heap.size∧w.cell? ⟨B,0,none⟩=some (.int .i64 a)∧w.cell? ⟨B,1,none⟩=some (.int .i64 b)∧v.ownBlock≠some B:=by
 cases ys with
 | nil=>simp [PC] at h
 | cons y r=>
  cases r with
  | cons _ _=>simp [PC] at h
  | nil=>
   simp only [PC] at h;obtain ⟨B,c,T,rfl,hh,hc,hne⟩:=h;refine ⟨B,rfl,(vaY.1 hh).1,?_,?_,hne⟩
   ·simp only [World.cell?,hh];rw [← vaw,hc];rfl
   ·simp only [World.cell?,hh];rw [← vaw,hc];rfl
theorem Qg:NC PR 63 X9:=by
 intro w v l l' rs ys hown hrng hlen hr hg;unfold X9 at hg;simp only at hg;split at hg
 ·rename_i f a b;cases hf:A4 f 65 with
  | false=>rw [hf,CV] at hg; cases hg
  | true=>
   rw [hf,CU,AB] at hg;subst hg;obtain rfl:=EI.1 hf;obtain ⟨B,rfl,hBs,ha,hb,hne⟩:=Mn hr;have pe:HJ a b (l.map IV.toInt)=(l.map IV.toInt).filter fun x=>!(decide (x < a)||decide (x≥b)):=rfl
   have eg:∀ args w,(callFunc 65 args).run Tryz.prog w = .ok (.enter 65 args) w:=enters_of Tryz.func65 (by kernel_rfl) rfl;have hp:PredAt Tryz.prog 65 #[.pointer (some ⟨B,0,none⟩)] G8 (fun x=>decide (x < a)||decide (x≥b)) w:=
    fun W x hbw=>lV a b x B W ((hbw.cell (p:=⟨B,0,none⟩) hBs).trans ha) ((hbw.cell (p:=⟨B,1,none⟩) hBs).trans hb)
   rcases eM hown with ⟨rfl,rfl⟩ | ⟨g,cap,rfl,ho⟩
   ·refine Does.of_calls Tryz.func63 (by kernel_rfl) (by kernel_rfl) ((y8 _ w).mono ?_);rintro e w' ⟨rfl,q,rfl⟩;exact ⟨_,rfl,⟨rfl,rfl,rfl,AO _,fun _ _ _=>rfl⟩,fun x hx=>(by cases hx),fun _=>⟨World.ownsRow_nil _ 0 _ _,fun b hb=>(by simp [CA] at hb)⟩,fun h=>by cases h⟩
   ·obtain ⟨_,hnc,hcm,hgs,hH⟩:=Y8 ho;have hBg:B≠g:=fun e=>hne (by rw [e]; rfl)
    have hpo:PredOver Tryz.prog 65 #[.pointer (some ⟨B,0,none⟩)] G8 (fun x=>decide (x < a)||decide (x≥b)) g 0 (l.map IV.toInt).toArray.size w:=
     fun n os dk x _=>by
      have hcell:∀ o u,w.cell? ⟨B,o,none⟩=some u→(sortWorld G8 w g 0 n dk os).cell? ⟨B,o,none⟩=some u:=fun o u hu=>by
       unfold sortWorld;rw [cell?_grow _ _ _ (by show B < (putRow _ _ _ _ _).heap.size; rw [size_putRow]; exact hBs),cell?_putRow_other _ _ g 0 _ _ (Or.inl hBg)];exact hu
      exact lV a b x B _ (hcell 0 _ ha) (hcell 1 _ hb)
    refine Does.of_calls Tryz.func63 (by kernel_rfl) (by kernel_rfl) ?_;have hcall:=Tryz.slices_DeleteFunc G8 (fun _=>rfl) (fun x=>decide (x < a)||decide (x≥b)) 65 #[.pointer (some ⟨B,0,none⟩)] eg 0 Tryz.zeroValue3 g 0 cap (l.map IV.toInt).toArray w hp hpo hH (by simp; unfold strMax at hlen; omega) (by simp; rw [CL] at hnc; exact hnc);have es:(l.map IV.toInt).toArray.size=(l.map IV.toInt).length:=by simp
    rw [es] at hcall;refine hcall.mono ?_;rintro e w' ⟨rfl,q,rfl⟩;have ef:(l.map IV.toInt).toArray.toList.filter (fun x=>!(decide (x < a)||decide (x≥b)))=HJ a b (l.map IV.toInt):=rfl;rw [ef];have hlc:(HJ a b (l.map IV.toInt)).length≤(l.map IV.toInt).length:=List.length_filter_le ..
    have hp2:=eO ho q #[] (HJ a b (l.map IV.toInt)) (vak ((l.map IV.toInt).length - (HJ a b (l.map IV.toInt)).length) 0) (by rw [AS,List.length_replicate]; omega);rw [grow_empty] at hp2;refine ⟨_,rfl,hp2.1,fO hrng fun y hy=>(List.mem_filter.1 hy).1,fun _=>⟨?_,fun b hb=>.inl hb⟩,fun h=>by cases h⟩;rw [bE,HU];exact hp2.2
 ·cases hg
open Go Go.Proofs
set_option maxRecDepth 100000
theorem o4 {dim n:Int}:∀ {l:LI} {i k:Nat} (hk:k < l.length),HN dim n i l=true→EQ (l[k]).toInt=true∧JV dim n (i+k) (CW (l[k]).toInt)=true
 | [],i,k,hk,_=>absurd hk (Nat.not_lt_zero k)
 | w :: r,i,0,hk,h=>by
  rw [HN] at h;simp only [AG] at h;exact h.1
 | w :: r,i,k+1,hk,h=>by
  rw [HN,AG] at h
  have:=o4 (k:=k) (by simpa using hk) h.2
  rw [show i+1+k=i+(k+1) by omega] at this;exact this
theorem Z8 {l:LI} {dim:Int} (h:FQ l dim=true):(1≤l.length∧l.length≤31)∧(∀ k (hk:k < l.length),EQ (l[k]).toInt=true∧JV dim (ic l.length) k (CW (l[k]).toInt)=true)∧O8 l=true:=by
 unfold FQ at h;simp only [AG] at h;refine ⟨⟨AL h.1.1,AL h.1.2⟩,fun k hk=>?_,h.2.2⟩
 have:=o4 hk h.2.1
 rwa [A3] at this
theorem Bp {dim n:Int} {i:Nat} {x:Nd} (h:JV dim n i x=true) (hl:x.lf=false):x.f < dim∧x.l≠x.r∧((i:Int) < x.l∧(i:Int) < x.r)∧(x.l < n∧x.r < n):=by
 unfold JV at h;rw [hl,CV] at h;simp only [AG,BO,BI,BN] at h;obtain ⟨h1,h2,h3,h4⟩:=h;exact ⟨by omega,h2,by omega,by omega⟩
theorem Sj {l:LI} {d e:Int} (h:FQ l d=true) (hde:d≤e):FQ l e=true:=by
 have key:∀ (l:LI) (n:Int) (i:Nat),HN d n i l=true→HN e n i l=true:=by
  intro l n
  induction l with
  | nil=>intro _ _; rfl
  | cons w r ih=>
   intro i h;rw [HN] at h ⊢;simp only [AG] at h ⊢;refine ⟨⟨h.1.1,?_⟩,ih _ h.2⟩;have h2:=h.1.2;unfold JV at h2 ⊢;cases hl:(CW w.toInt).lf with
   | true=>rfl
   | false=>
    rw [hl,CV] at h2;rw [CV];simp only [AG,BO,BI] at h2 ⊢;exact ⟨by omega,h2.2⟩
 unfold FQ at h ⊢;simp only [AG] at h ⊢;exact ⟨h.1,key _ _ _ h.2.1,h.2.2⟩
abbrev Ga:KP:=⟨[4,5,6,24,25,26],[20,500],[⟨(.tmp 6),500,131,true,JJ⟩]⟩
abbrev u7 (l:LI) (i:Int) (own out:LI):St:=
 ⟨[(4,.zs),(5,(.row 20 0 l.length)),(6,(.row 500 0 out.length)),(24,(.list false [(.int .u64)] l)),(25,(.int .i64 (ic (AF l)))),(26,(.int .i64 i))],[(20,(some (.row true 31 true D0 own))),(500,(some (.row true 131 true JJ out)))]⟩
theorem YO (N:Nat) (l:LI) (ht:FQ l 4=true):∀ (m i n:Nat) (own out:LI),i+m=l.length→m < n→own.length=l.length→out.length≤i →
  DC (MN N) (CX OS [1,1,1,1,1,0,1,0,0]) Ga n (u7 l (i:Int) own out) (C4 0 (C5 (MN N) (CX OS [1,1,1,1,1,1]) (C8 (MN N) none [(BH 4)] [[(.list true JJ)]]))) =
   some (.list true JJ (KQ (l.drop i) i own out),[])
 | m,i,0,_,_,_,h,_,_=>absurd h (by omega)
 | 0,i,n+1,own,out,hd,_,_,_=>by
  have hi:i=l.length:=by omega
  subst hi;rw [DI,tQ,JY (AO _),CV,Ac,CI,KQ,CG,BG]
 | m+1,i,n+1,own,out,hd,hn,ho,hu=>by
  obtain ⟨⟨l1,l31⟩,hat,_⟩:=Z8 ht;have hi:i < l.length:=by omega
  have ei:AA AC ((i:Int)+1)=((i+1:Nat):Int):=F2 (by omega);obtain ⟨hb,hf⟩:=hat i hi;have io:decide ((i:Int) < ic (l.length - 0))=true:=IY hi;rw [DI,tQ,ei,IY hi,CU,JI,BK,CU,JX hi,io,BK,A0,BD hi,KQ];simp only [A3];cases hl:(CW (l[i]).toInt).lf with
  | true=>
   rw [BB,CV,CU,CU,BL];have e1:LG (CW (l[i]).toInt) i own=own:=by unfold LG; rw [hl,CU]
   rw [e1];cases (C9 (own.getD i default)).emp with
   | true=>exact YO N l ht m (i+1) n own out (by omega) (by omega) ho (by omega)
   | false=>
    have ih:=YO N l ht m (i+1) n own (out++[V8 (C9 (own.getD i default)) (CW (l[i]).toInt).v]) (by omega) (by omega) ho (by rw [AS]; simp; omega);unfold u7 at ih;rw [AS,CT] at ih;rw [BX,CU,CU,AE (show (out.length+1)*88≤D5 by unfold D5; omega),CU,BG];exact ih
  | false=>
   obtain ⟨f4,_,_,⟨ln,rn⟩⟩:=Bp hf hl;obtain ⟨⟨f0,_⟩,⟨a1,_⟩,⟨b1,_⟩,_⟩:=SH hb hl;have hp:FS (CW (l[i]).toInt).f=true:=by unfold FS; rw [AE f0,AE (by omega)]; rfl
   have el:(decide (0≤(CW (l[i]).toInt).l)&&decide ((CW (l[i]).toInt).l < ic (l.length - 0)))=true:=by rw [AE (by omega),AE (show (CW (l[i]).toInt).l < ic (l.length - 0) from ln)]; rfl
   have er:(decide (0≤(CW (l[i]).toInt).r)&&decide ((CW (l[i]).toInt).r < ic (l.length - 0)))=true:=by rw [AE (by omega),AE (show (CW (l[i]).toInt).r < ic (l.length - 0) from rn)]; rfl
   rw [BX,CU,CU,hp,CU,el,CU,er,CU,B5,CV];have e1:LG (CW (l[i]).toInt) i own=(own.set (CW (l[i]).toInt).l.toNat ((C9 (own.getD i default)).cutL (CW (l[i]).toInt).f (CW (l[i]).toInt).a).I).set (CW (l[i]).toInt).r.toNat ((C9 (own.getD i default)).cutH (CW (l[i]).toInt).f (CW (l[i]).toInt).a).I:=by unfold LG; rw [hl,CV]
   rw [e1];exact YO N l ht m (i+1) n _ out (by omega) (by omega) (by rw [vaF,vaF]; exact ho) (by omega)
theorem Qi:DD PR B0 91 T8:=by
 refine DK [(35,P2),(52,LR),(84,LV),(74,QC)] [(7,⟨[4,5,6,24,25,26],[20,500],[⟨.tmp 6,500,131,true,[.z,.z,.z,.z,.z,.z,.z,.z,.z,.z,.z]⟩]⟩)] T8 [[.list true [.z,.z,.z,.z,.z,.z,.z,.z,.z,.z,.z]]] Tryz.func91 Eb ⟨sG,ZP,ZT,sS,trivial⟩ ?_;intro vs r hwf h;unfold T8 at h;split at h
 ·rename_i l b;replace h:=HQ h;obtain ⟨b,rfl,h⟩:=h;rw [R.get_ok] at h;refine ⟨40,?_⟩;rw [← h];refine (Iw 40 l b).trans ?_;unfold GK;cases ht:FQ l 4 with
  | false=>rfl
  | true=>
   rw [BB,CV,BL];cases b.emp with
   | true=>rfl
   | false=>
    obtain ⟨⟨l1,l31⟩,_,_⟩:=Z8 ht;have run:=YO 40 l ht l.length 0 40 ((vak l.length RT.I).set 0 b.I) [] (by omega) (by omega) (by simp) (B7 _);rw [CV,AE (show (0:Int)≤ic l.length by simp only [ic]; omega),AE (show ic l.length=ic l.length from rfl),AE (show ic l.length*ic 80≤ic D5 by unfold D5; simp only [ic]; omega),BK,BK,CU,
     AE (show 0≤0 from AO 0),AE (show (0:Int) < ic (AD (ic l.length) - 0) by simp only [ic]; omega),BK,CU]
    exact run
 ·simp [R.get] at h
abbrev Tp (l:LI) (lo hi i:Int):St:=⟨[(4,(.int .i64 0)),(5,(.int .i64 0)),(6,(.bool false)),(8,(.int .i64 lo)),(9,(.int .i64 hi)),(26,(.list true JJ l)),(27,(.int .i64 (ic (AF l)))),(28,(.int .i64 i))],[]⟩
theorem i9 (N:Nat) (l:LI) (hl:l.length≤strMax):∀ (m i n:Nat) (lo hi:Int),i+m=l.length→m < n →
  DC (ML N) (CX OO [1,1,1,1,0,1,0,0]) ⟨[4,5,6,8,9,26,27,28],[],[]⟩ n (Tp l lo hi (i:Int)) (C4 0 (C5 (ML N) (CX OO [1,1,1,1,1]) (C8 (ML N) none [(BH 4),(BH 5),(BH 6)] [[.z],[.z],[.bool]]))) =
   some (.tup [.int .i64 (LK (l.drop i) lo),.int .i64 (LH (l.drop i) hi),.bool true],[])
 | m,i,0,_,_,_,h=>absurd h (by omega)
 | 0,i,n+1,lo,hi,hd,_=>by
  have hi:i=l.length:=by omega
  subst hi;rw [DI,tA,JY (AO _),CV,CI];exact zL N _ _ _ _ _ l _ _
 | m+1,i,n+1,lo,hi,hd,hn=>by
  have hi:i < l.length:=by omega
  have mx:strMax=140737488355327:=rfl;have ei:AA AC ((i:Int)+1)=((i+1:Nat):Int):=F2 (by omega);rw [DI,tA,ei,IY hi,CU,JI,BK,CU,JX hi,BD hi,LK,LH];exact i9 N l hl m (i+1) n _ _ (by omega) (by omega)
theorem oH:∀ (l:LI) (i:Nat) (own out:LI),(KQ l i own out).length≤out.length+l.length
 | [],_,_,out=>AO _
 | w :: r,i,own,out=>by
  rw [KQ]
  have:=oH r (i+1) (LG (CW w.toInt) i own) (cond ((CW w.toInt).lf&&!(C9 (own.getD i default)).emp) (out++[V8 (C9 (own.getD i default)) (CW w.toInt).v]) out)
  refine CR this ?_;cases ((CW w.toInt).lf&&!(C9 (own.getD i default)).emp) with
  | true=>rw [CU,AS,CT,AP]; omega
  | false=>rw [CV,AP]; omega
theorem Gg (l:LI) (b:Bx):(GK l b).length≤31:=by
 unfold GK;cases ht:FQ l 4 with
 | false=>exact B7 _
 | true=>
  cases b.emp with
  | true=>exact B7 _
  | false=>
   have:=oH l 0 ((vak l.length RT.I).set 0 b.I) []
   have h2:=(Z8 ht).1.2;simp only [BZ,A3] at this;exact CR this h2
theorem Ox:DD PR B0 76 TC:=by
 refine DK [(91,T8)] [(6,⟨[4,5,6,8,9,26,27,28],[],[]⟩)] TC [[.z],[.z],[.bool]] Tryz.func76 Cg ⟨Qi,trivial⟩ ?_;intro vs r hwf h;unfold TC at h;split at h
 ·rename_i l b;replace h:=HQ h;obtain ⟨b,rfl,h⟩:=h;rw [R.get_ok] at h;refine ⟨40,?_⟩;rw [← h];refine (Hg 40 l b).trans ?_;have h31:=Gg l b;unfold KC KB RB WB WA;generalize GK l b=ps at h31 ⊢;cases ps with
  | nil=>rfl
  | cons x r=>
   have run:=i9 40 (x :: r) (CR h31 (by decide)) (x :: r).length 0 40 (FU x) (FU x) (by omega) (by omega);have e0:(ic (x :: r).length==0)=false:=by
    simp only [ic,AP,BN];omega
   have e1:(decide (0≤0)&&decide (0 < ic (x :: r).length))=true:=by
    rw [AE (show 0≤0 from AO 0),AE (show 0 < ic (x :: r).length by simp only [ic,AP]; omega)];rfl
   rw [e0,CV,e1,CU,CU];exact run
 ·simp [R.get] at h
theorem Gr {l:LI}:∀ {a:Int},DZ a=true→(∀ x∈l,DZ (FU x)=true)→DZ (LK l a)=true:=by
 induction l with
 | nil=>intro a h _; exact h
 | cons x r ih=>
  intro a h hx;rw [LK];refine ih ?_ fun y hy=>hx y (AW _ hy)
  have:=LC h
  have:=LC (hx x (AR ..))
  unfold DZ;rw [AE (by omega),AE (by omega)];rfl
theorem Gn {l:LI}:∀ {a:Int},DZ a=true→(∀ x∈l,DZ (FU x)=true)→DZ (LH l a)=true:=by
 induction l with
 | nil=>intro a h _; exact h
 | cons x r ih=>
  intro a h hx;rw [LH];refine ih ?_ fun y hy=>hx y (AW _ hy)
  have:=LC h
  have:=LC (hx x (AR ..))
  unfold DZ;rw [AE (by omega),AE (by omega)];rfl
theorem oG:∀ (l:LI) (i:Nat) (own out:LI),(∀ x∈out,DZ (FU x)=true)→∀ x∈KQ l i own out,DZ (FU x)=true
 | [],_,_,_,h=>h
 | w :: r,i,own,out,h=>by
  rw [KQ];refine oG r (i+1) _ _ ?_;cases ((CW w.toInt).lf&&!(C9 (own.getD i default)).emp) with
  | true=>
   intro x hx;rcases AQ.1 hx with hx | hx
   ·exact h x hx
   ·obtain rfl:=BJ.1 hx;exact o0 _
  | false=>exact h
theorem Gf (l:LI) (b:Bx):∀ x∈GK l b,DZ (FU x)=true:=by
 unfold GK;cases (FQ l 4&&!b.emp) with
 | true=>exact oG _ _ _ _ (fun x hx=>by cases hx)
 | false=>intro x hx; cases hx
theorem gP (l:LI) (b:Bx):DZ (KC l b)=true∧DZ (KB l b)=true:=by
 unfold KC KB RB;have hf:=Gf l b;generalize GK l b=ps at hf ⊢;cases ps with
 | nil=>exact ⟨rfl,rfl⟩
 | cons x r=>exact ⟨Gr (hf x (AR ..)) hf,Gn (hf x (AR ..)) hf⟩
abbrev To (ts:LI) (b:Bx) (k lo hi i:Int):St:=⟨[(1,(.int .i64 k)),(5,(.ptr 5 0 0)),(6,(.int .i64 0)),(7,(.int .i64 0)),(8,(.bool false)),(9,(.int .i64 lo)),(10,(.int .i64 hi)),(42,(.list true FA ts)),(43,(.int .i64 (ic (AF ts)))),(44,(.int .i64 i))],[(5,(some (.box (Bx.cs b))))]⟩
theorem gO (N:Nat) (ts:LI) (b:Bx) (k:Int) (hts:ts.length≤8):∀ (m i n:Nat) (lo hi:Int),i+m=ts.length→m < n→(-2147483648*(i+1)≤lo∧lo≤2147483648*(i+1))→(-2147483648*(i+1)≤hi∧hi≤2147483648*(i+1)) →
  DC (E3 N) (CX GJ [1,1,1,0,1,0,0]) ⟨[1,5,6,7,8,9,10,42,43,44],[5],[]⟩ n (To ts b k lo hi (i:Int)) (C4 0 (C5 (E3 N) (CX GJ [1,1,1,1]) (C8 (E3 N) none [(BH 6),(BH 7),(BH 8)] [[.z],[.z],[.bool]]))) =
   some (.tup [.int .i64 (JP (fun l=>KC l b) k (ts.drop i) lo),.int .i64 (JP (fun l=>KB l b) k (ts.drop i) hi),.bool true],[])
 | m,i,0,_,_,_,h,_,_=>absurd h (by omega)
 | 0,i,n+1,lo,hi,hd,_,_,_=>by
  have hlt:i=ts.length:=by omega
  subst hlt;rw [DI,s9,JY (AO _),CV,CI];exact zK N b _ _ _ _ _ _ _ _ _
 | m+1,i,n+1,lo,hi,hd,hn,h1,h2=>by
  have hlt:i < ts.length:=by omega
  have ei:AA AC ((i:Int)+1)=((i+1:Nat):Int):=F2 (by omega);rw [DI,s9,ei,IY hlt,CU,JI,BK,CU,JX hlt,BD hlt,JP,JP];obtain ⟨q1,q2⟩:=gP (EA ts[i]) b;have q1:=LC q1;have q2:=LC q2;have en:((ts[i].cell 0).toInt != k)=!((ts[i].cell 0).toInt==k):=rfl;rw [en];cases ((ts[i].cell 0).toInt==k) with
  | true=>
   rw [BB,CV,CU,CU];have ew:AA AC (lo+KC (EA ts[i]) b)=lo+KC (EA ts[i]) b:=DX (by omega) (by omega);have ew2:AA AC (hi+KB (EA ts[i]) b)=hi+KB (EA ts[i]) b:=DX (by omega) (by omega);have ih:=gO N ts b k hts m (i+1) n (lo+KC (EA ts[i]) b) (hi+KB (EA ts[i]) b) (by omega) (by omega) (by omega) (by omega);rw [← ew,← ew2] at ih;refine Eq.trans ih ?_;rw [ew,ew2]
  | false=>
   rw [BX,CU,CV,CV];exact gO N ts b k hts m (i+1) n lo hi (by omega) (by omega) (by omega) (by omega)
theorem gA:DD PR B0 53 NF:=by
 refine DK [(76,TC),(52,LR),(49,LU)] [(5,⟨[1,5,6,7,8,9,10,42,43,44],[5],[]⟩)] NF [[.z],[.z],[.bool]] Tryz.func53 Cf ⟨Ox,ZP,ZS,trivial⟩ ?_;intro vs r hwf h;unfold NF at h;split at h
 ·rename_i m k b;replace h:=GU h;obtain ⟨m,rfl,h⟩:=h;replace h:=HQ h;obtain ⟨b,rfl,h⟩:=h;rw [R.get_ok] at h;refine ⟨10,?_⟩;rw [← h];refine (Hf 10 m k b).trans ?_;unfold F8 E7 FZ;cases hm:DR m with
  | false=>rfl
  | true=>
   rw [BB,CV];cases h0:decide (k < 0) with
   | true=>
    have:GA m k=false:=by unfold GA; rw [AJ (show ¬ 0≤k by have:=BC h0; omega)]; rfl
    rw [this];rfl
   | false=>
    rw [CV];cases h1:decide (k≥m.c) with
    | true=>
     have:GA m k=false:=by unfold GA; rw [AJ (show ¬ k < m.c by have:=BC h1; omega),vaM]
     rw [this];rfl
    | false=>
     have hc:GA m k=true:=by unfold GA; rw [AE (show 0≤k by have:=A1 h0; omega),AE (show k < m.c by have:=A1 h1; omega)]; rfl
     rw [CV,hc];cases b.emp with
     | true=>rfl
     | false=>
      have hb:=XB hm k;have run:=gO 10 m.ts b k (H9 hm).2.2.1 m.ts.length 0 10 (I9 m k) (I9 m k) (by omega) (by have:=(H9 hm).2.2.1; omega) (by omega) (by omega);rw [CV];rcases bJ hm hc with rfl | rfl | rfl <;> exact run
 ·simp [R.get] at h
theorem gM (g:LI→Int) (hg:∀ l,-2147483648≤g l∧g l≤2147483648) (k:Int):∀ (ts:LI) (s:Int) (n:Nat),(-2147483648*(n:Int)≤s∧s≤2147483648*(n:Int)) → -2147483648*((n+ts.length:Nat):Int)≤JP g k ts s∧JP g k ts s≤2147483648*((n+ts.length:Nat):Int)
 | [],s,n,h=>by
  rw [JP];simpa using h
 | t :: r,s,n,h=>by
  rw [JP];have h1:=hg (EA t)
  have:=gM g hg k r (cond (PH t==k) (s+g (EA t)) s) (n+1) (by cases (PH t==k) <;> simp only [CF,BQ] <;> omega)
  rw [AP];rw [show n+1+r.length=n+(r.length+1) by omega] at this;exact this
theorem ZK {m:Md} (k:Int) (b:Bx):(-34359738368≤F8 m k b∧F8 m k b≤34359738368)∧(-34359738368≤E7 m k b∧E7 m k b≤34359738368):=by
 unfold F8 E7;cases hs:FZ m k b with
 | false=>simp only [BQ]; omega
 | true=>
  unfold FZ at hs;simp only [AG] at hs;have hb:=XB hs.1 k;have h8:=(H9 hs.1).2.2.1;have h1:=gM (fun l=>KC l b) (fun l=>by have:=LC (gP l b).1; omega) k m.ts (I9 m k) 1 (by omega);have h2:=gM (fun l=>KB l b) (fun l=>by have:=LC (gP l b).2; omega) k m.ts (I9 m k) 1 (by omega);rw [CU,CU];omega
abbrev Ti (m:Md) (b:Bx) (k lo a:Int) (z:Bool) (i:Int):St:=⟨[(1,(.int .i64 k)),(3,(.ptr 3 0 0)),(5,(.ptr 5 0 0)),(6,(.int .i64 0)),(7,(.bool false)),(8,(.int .i64 lo)),(11,(.int .i64 a)),(12,(.bool z)),(33,(.int .i64 (Md.c m))),(34,(.int .i64 i))],[(3,(some (.box (Md.cs m)))),(5,(some (.box (Bx.cs b))))]⟩
theorem oO (N:Nat) (m:Md) (b:Bx) (k:Int) (hc:0≤m.c∧m.c≤3) (lo:Int) (hlo : -34359738368≤lo∧lo≤34359738368):∀ (d i n:Nat) (a:Int) (z:Bool),((i+d:Nat):Int)=m.c→d < n →
  DC (MK N) (CX ON [1,1,1,1,0,1,0,0]) ⟨[1,3,5,6,7,8,11,12,33,34],[3,5],[]⟩ n (Ti m b k lo a z (i:Int)) (C4 0 (C5 (MK N) (CX ON [1,1,1,1,1]) (C8 (MK N) none [(BH 6),(BH 7)] [[.z],[.bool]]))) =
   some (.tup [.int .i64 (MX m k lo b d (i:Int) a z),.bool true],[])
 | d,i,0,_,_,_,h=>absurd h (by omega)
 | 0,i,n+1,a,z,hd,_=>by
  rw [DI,s8,AJ (show ¬ (i:Int) < m.c by omega),CV];exact zJ N m b _ _ _ _ _ _ _ _
 | d+1,i,n+1,a,z,hd,hn=>by
  have ei:AA AC ((i:Int)+1)=((i+1:Nat):Int):=F2 (by omega);have hs:=(ZK (m:=m) (i:Int) b).2;have ew:AA AC (lo - E7 m (i:Int) b)=lo - E7 m (i:Int) b:=DX (by omega) (by omega);have ec:(i:Int)+1=((i+1:Nat):Int):=by omega
  rw [DI,s8,ei,ew,AE (show (i:Int) < m.c by omega),CU,MX,ec];have ih:=fun a z=>oO N m b k hc lo hlo d (i+1) n a z (by omega) (by omega)
  cases ((i:Int)==k) with
  | true=>exact ih a z
  | false=>
   rw [CV,CV];cases z with
   | false=>exact ih _ true
   | true=>
    rw [BB,CV,Bool.false_or];cases decide (lo - E7 m (i:Int) b < a) with
    | true=>exact ih _ true
    | false=>exact ih a true
theorem Ow:DD PR B0 54 TB:=by
 refine DK [(53,NF)] [(6,⟨[1,3,5,6,7,8,11,12,33,34],[3,5],[]⟩)] TB [[.z],[.bool]] Tryz.func54 Ce ⟨gA,trivial⟩ ?_;intro vs r hwf h;unfold TB at h;split at h
 ·rename_i m k b;replace h:=GU h;obtain ⟨m,rfl,h⟩:=h;replace h:=HQ h;obtain ⟨b,rfl,h⟩:=h;rw [R.get_ok] at h;refine ⟨10,?_⟩;rw [← h];refine (He 10 m k b).trans ?_;unfold O4 LJ;cases hs:FZ m k b with
  | false=>rfl
  | true=>
   have hm:DR m=true:=by unfold FZ at hs; simp only [AG] at hs; exact hs.1
   have hc:=(H9 hm).2.1;rw [BB,CV];cases h2:decide (m.c < 2) with
   | true=>rw [AJ (show ¬ m.c≥2 by have:=BC h2; omega)]; rfl
   | false=>
    rw [AE (show m.c≥2 by have:=A1 h2; omega),CV];exact oO 10 m b k (by omega) (F8 m k b) (ZK k b).1 m.c.toNat 0 10 0 false (by omega) (by omega)
 ·simp [R.get] at h
theorem Pv:DD PR B0 56 TY:=by
 refine DK [(53,NF),(78,TZ),(79,T2),(77,LT)] [] TY [[.z],[.z],[.bool]] Tryz.func56 Dp ⟨gA,Pw,Py,ZR,trivial⟩ ?_;intro vs r hwf h;unfold TY at h;split at h
 ·rename_i m q b;replace h:=GU h;obtain ⟨m,rfl,h⟩:=h;replace h:=GP h;obtain ⟨q,rfl,h⟩:=h;replace h:=HQ h;obtain ⟨b,rfl,h⟩:=h;rw [R.get_ok] at h;refine ⟨0,?_⟩;rw [← h];refine (Ij 0 m q b).trans ?_;have h1:=ZK (m:=m) q.c (H8 q b);have h2:=ZK (m:=m) q.c (ID q b);rw [DX (n:=F8 m q.c (ID q b) - E7 m q.c (H8 q b)) (by omega) (by omega),DX (n:=E7 m q.c (ID q b) - F8 m q.c (H8 q b)) (by omega) (by omega)];unfold OX OW JE;cases EZ q <;> cases FZ m q.c (H8 q b) <;> cases FZ m q.c (ID q b) <;> rfl
 ·simp [R.get] at h
theorem Qa:DD PR B0 31 T3:=by
 refine DK [(54,TB),(53,NF),(52,LR),(56,TY),(55,T1),(29,NJ)] [] T3 [[.bool]] Tryz.func31 Dv ⟨Ow,gA,ZP,Pv,Px,gE,trivial⟩ ?_;intro vs r hwf h;unfold T3 at h;split at h
 ·rename_i m q b;replace h:=GU h;obtain ⟨m,rfl,h⟩:=h;replace h:=GP h;obtain ⟨q,rfl,h⟩:=h;replace h:=HQ h;obtain ⟨b,rfl,h⟩:=h;rw [R.get_ok] at h;refine ⟨0,?_⟩;rw [← h];refine (Iq 0 m q b).trans ?_;unfold EX;cases DQ m q <;> cases b.emp <;> cases (q.k==1) <;> cases (q.k==2) <;> cases FZ m q.c b <;> cases decide (q.lo≤F8 m q.c b) <;> cases LJ m q.c b <;> cases L8 q b <;> cases q.fl <;> cases JE m q b <;> rfl
 ·simp [R.get] at h
theorem Qb:DD PR B0 32 T4:=by
 refine DK [(57,TE)] [] T4 [[.z,.z,.z,.z],[.z]] Tryz.func32 Dw ⟨Oy,trivial⟩ ?_;intro vs r hwf h;unfold T4 at h;split at h
 ·rename_i b;replace h:=HQ h;obtain ⟨b,rfl,h⟩:=h;rw [R.get_ok] at h;exact ⟨0,(Ir 0 b).trans h⟩
 ·simp [R.get] at h
theorem Qe:DD PR B0 62 T7:=by
 refine DK [] [] T7 [[.z]] Tryz.func62 Ea trivial ?_;intro vs r hwf h;unfold T7 at h;split at h
 ·rename_i q i;replace h:=GP h;obtain ⟨q,rfl,h⟩:=h;rw [R.get_ok] at h;refine ⟨0,?_⟩;rw [← h];refine (Iv 0 q i).trans ?_;unfold FW;cases decide (i≥0) <;> cases decide (i < 4) <;> cases (i==4) <;> cases (q.k==3) <;> rfl
 ·simp [R.get] at h
def bS (m:Md) (f:Int) (s:Sp):C0:=
 cond (decide (f < 0)) (some (.list false [.z] [],[]))
  (cond (DR m)
   (cond (A4 (iZ (G0 m.ts f)).length (iZ (G0 m.ts f)).length)
    (cond (BM (iZ (HJ s.lo s.hi ((iZ (G0 m.ts f)).map IV.toInt))).length (iZ (G0 m.ts f)).length)
     (some (.list false [.z] (CB 0 (AY (iZ (HJ s.lo s.hi ((iZ (G0 m.ts f)).map IV.toInt))).length (iZ (HJ s.lo s.hi ((iZ (G0 m.ts f)).map IV.toInt))))),[])) none) none) none)
theorem y0 {m:Md} (hm:DR m=true) (f:Int) (s:Sp):bS m f s=some (.list false [.z] (iZ (cond (decide (f < 0)) [] (HJ s.lo s.hi (G0 m.ts f)))),[]):=by
 unfold bS;cases decide (f < 0) with
 | true=>rfl
 | false=>
  rw [CV,hm,CU,vbd,CU,cP,CV];have hle:(iZ (HJ s.lo s.hi (G0 m.ts f))).length≤(iZ (G0 m.ts f)).length:=by
   rw [HU,HU];exact List.length_filter_le ..
  rw [BW hle,CU,CG,BG]
theorem Nz (m:Md) (q:Qy) (b:Bx):∀ i:Nat,i < 5→DE (iH 0) a9 [.tmp 8] [[.list false [.z]]] [m.V,q.V,b.V,.int .i64 (i:Int)]=bS m (FW q (i:Int)) (b.g i)
 | 0,_=>by kernel_rfl
 | 1,_=>by kernel_rfl
 | 2,_=>by kernel_rfl
 | 3,_=>by kernel_rfl
 | 4,_=>by kernel_rfl
 | i+5,h=>absurd h (by omega)
abbrev nX:KP:=⟨[1,4,5,16,17,18],[500],[⟨(.tmp 5),500,3,false,[.z]⟩]⟩
abbrev nY:KP:=⟨[1,4,5,16,17,18,23,24,25],[500],[⟨(.tmp 5),500,3,false,[.z]⟩]⟩
abbrev aH (f:Int) (ts:LI) (i:Int) (W:LI) (j:Int) (O:LI):St:=
 ⟨[(1,(.int .i64 f)),(4,.zs),(5,(.row 500 0 O.length)),(16,(.list true FA ts)),(17,(.int .i64 (ic ts.length))),(18,(.int .i64 i)),(23,(.list false [(.int .u64)] W)),(24,(.int .i64 (ic W.length))),(25,(.int .i64 j))],[(500,(some (.row true 3 false [.z] O)))]⟩
theorem Z5 (N:Nat) (f:Int) (ts:LI) (i:Int) (W:LI) (hW:W.length≤31) (K:Out→St→C0):∀ (m j n:Nat) (O:LI),j+m=W.length→m < n→O.length+m≤1000 →
  DC (KE N) (CX K7 [1,1,1,0,1,0,0,1,1,0,0,1,1,0,0]) nY n (aH f ts i W (j:Int) O) K=K (.exit 2) (aH f ts i W (ic W.length) (O++iZ ((W.drop j).flatMap (GS f))))
 | m,j,0,_,_,h,_=>absurd h (by omega)
 | 0,j,n+1,O,hd,_,_=>by
  have hj:j=W.length:=by omega
  subst hj;rw [DI,tT,JY (AO _),CV,CI];show K (.exit 2) _=K (.exit 2) (aH f ts i W (ic W.length) (O++[]));rw [va8]
 | m+1,j,n+1,O,hd,hn,hO=>by
  have hj:j < W.length:=by omega
  have ej:AA AC ((j:Int)+1)=((j+1:Nat):Int):=F2 (by omega);rw [DI,tT,ej,IY hj,CU,JI,BK,CU,JX hj,BD hj,vas];unfold GS;cases (CW (W[j]).toInt).lf with
  | true=>
   rw [BB,CV,B5,CV,vaX];exact Z5 N f ts i W hW K m (j+1) n O (by omega) (by omega) (by omega)
  | false=>
   rw [BX,CU,BL];cases ((CW (W[j]).toInt).f==f) with
   | false=>
    rw [CV,CV,vaX];exact Z5 N f ts i W hW K m (j+1) n O (by omega) (by omega) (by omega)
   | true=>
    rw [CU,CU,AE (show (O.length+1)*8≤D5 by unfold D5; omega),CU,BG];have ih:=Z5 N f ts i W hW K m (j+1) n (O++[IV.int (CW (W[j]).toInt).a]) (by omega) (by omega) (by rw [AS,CT]; omega);rw [vbf] at ih;unfold aH at ih ⊢;rw [AS,CT] at ih;exact ih
abbrev iB (f:Int) (ts:LI) (i:Int) (O:LI):St:=
 ⟨[(1,(.int .i64 f)),(4,.zs),(5,(.row 500 0 O.length)),(16,(.list true FA ts)),(17,(.int .i64 (ic ts.length))),(18,(.int .i64 i))],[(500,(some (.row true 3 false [.z] O)))]⟩
theorem gQ (f:Int):∀ W:LI,(W.flatMap (GS f)).length≤W.length
 | []=>AO _
 | w :: r=>by
  rw [vas,AS,AP]
  have:=gQ f r
  unfold GS at this ⊢;cases (!(CW w.toInt).lf&&(CW w.toInt).f==f) <;> simp only [CF,BQ,BZ,CT] <;> omega
theorem uO {d c:Int} {t:IV} (h:GN d c t=true):(0≤PH t∧PH t < c)∧FQ (EA t) d=true:=by
 unfold GN at h;simp only [AG,BO,BI] at h;exact ⟨⟨by show 0≤(t.cell 0).toInt; omega,by show (t.cell 0).toInt < c; omega⟩,h.2.2⟩
theorem uP {d c:Int} {ts:LI} (h:ts.all (GN d c)=true) {t:IV} (ht:t∈ts):(EA t).length≤31:=by
 have:=(uO (vah.1 h t ht)).2
 exact (Z8 this).1.2
theorem uK (N:Nat) (hN:40≤N) (f:Int) (ts:LI) (hts:ts.length≤8) (hW:∀ t∈ts,(EA t).length≤31) (K:Out→St→C0):∀ (m i n:Nat) (O:LI),i+m=ts.length→m < n→O.length≤31*i →
  DC (KE N) (CX K7 [1,1,1,0,1,0,0]) nX n (iB f ts (i:Int) O) K=K (.exit 0) (iB f ts (ic ts.length) (O++iZ (GH (ts.drop i) f)))
 | m,i,0,_,_,h,_=>absurd h (by omega)
 | 0,i,n+1,O,hd,_,_=>by
  have hi:i=ts.length:=by omega
  subst hi;rw [DI,tS,JY (AO _),CV,CI];show K (.exit 0) _=K (.exit 0) (iB f ts (ic ts.length) (O++[]));rw [va8]
 | m+1,i,n+1,O,hd,hn,hO=>by
  have hi:i < ts.length:=by omega
  have ei:AA AC ((i:Int)+1)=((i+1:Nat):Int):=F2 (by omega);have hw:=hW ts[i] (vaA hi);have hl:=gQ f (EA ts[i]);rw [DI,tS,IY hi,CU,JI,BK,CU,JX hi,BD hi];refine (Z5 N f ts (i:Int) (EA ts[i]) hw _ (EA ts[i]).length 0 N O (by omega) (by omega) (by omega)).trans ?_;rw [Ag,ei,CG];have ih:=uK N hN f ts hts hW K m (i+1) n (O++iZ ((EA ts[i]).flatMap (GS f))) (by omega) (by omega) (by rw [AS,HU]; omega);have e:GH (ts[i] :: ts.drop (i+1)) f=(EA ts[i]).flatMap (GS f)++GH (ts.drop (i+1)) f:=by unfold GH; rw [vas]
  rw [e];have e2:iZ ((EA ts[i]).flatMap (GS f)++GH (ts.drop (i+1)) f)=iZ ((EA ts[i]).flatMap (GS f))++iZ (GH (ts.drop (i+1)) f):=by unfold iZ; rw [List.map_append]
  rw [e2,← vbf];exact ih
theorem Qk:DD PR B0 64 UA:=by
 refine sL [(49,LU),(84,LV)] [(86,X8),(85,YA)] [(5,nX),(8,nY)] UA [] Tryz.func64 Ef ⟨ZS,ZT,trivial⟩ ⟨Qf,Qh,trivial⟩ ?_;intro vs r hwf h;unfold UA at h;split at h
 ·rename_i m f;replace h:=GU h;obtain ⟨m,rfl,h⟩:=h;cases hm:DR m with
  | false=>rw [hm] at h; simp [R.get] at h
  | true=>
   rw [hm,R.get_br,CU,R.get_ok] at h;refine ⟨40,?_⟩;rw [← h];refine (Ja 40 m f).trans ?_;have hmp:=H9 hm;rw [hm,BB,CV];refine (uK 40 (by omega) f m.ts hmp.2.2.1 (fun t ht=>uP hmp.2.2.2.2 ht) _ m.ts.length 0 40 [] (by omega) (by have:=hmp.2.2.1; omega) (B7 _)).trans ?_;rw [CG,vaX,Af,vbd,CU,cP];have e1:(iZ (IE (GH m.ts f))).length=(iZ (GH m.ts f)).length:=by rw [HU,HU]; exact (N9 _).length_eq
   have e2:(iZ (GY (IE (GH m.ts f)))).length≤(iZ (GH m.ts f)).length:=by rw [← e1,HU,HU]; exact XK _
   rw [e1,vbd,CU,CU,cP,BW e2,CU,BG];rfl
 ·simp [R.get] at h
theorem sK:DD PR B0 37 P5:=by
 refine sL [(62,T7),(64,UA)] [(63,X9)] [] P5 [[.list false [.z]]] Tryz.func37 Dz ⟨Qe,Qk,trivial⟩ ⟨Qg,trivial⟩ ?_;intro vs r hwf h;unfold P5 at h;split at h
 ·rename_i m q b i;replace h:=GU h;obtain ⟨m,rfl,h⟩:=h;replace h:=GP h;obtain ⟨q,rfl,h⟩:=h;replace h:=HQ h;obtain ⟨b,rfl,h⟩:=h;cases hg:(DR m&&FS i) with
  | false=>rw [hg] at h; simp [R.get] at h
  | true=>
  rw [hg,R.get_br,CU,R.get_ok] at h;rw [AG] at hg;refine ⟨0,?_⟩;rw [← h];have key:∀ k:Nat,k < 5→DE (iH 0) a9 [.tmp 8] [[.list false [.z]]] [m.V,q.V,b.V,.int .i64 (k:Int)]=some (.list false [.z] (iZ (C7 m q b k)),[]):=fun k hk=>by
   rw [Nz m q b k hk,y0 hg.1];rfl
  rcases nG hg.2 with rfl | rfl | rfl | rfl | rfl
  ·exact key 0 (by omega)
  ·exact key 1 (by omega)
  ·exact key 2 (by omega)
  ·exact key 3 (by omega)
  ·exact key 4 (by omega)
 ·simp [R.get] at h
abbrev Tj (m:Md) (q:Qy) (b:Bx) (i:Int):St:=⟨[(3,(.ptr 3 0 0)),(4,(.ptr 4 0 0)),(5,(.ptr 5 0 0)),(6,(.int .i64 0)),(7,(.int .i64 0)),(8,(.bool false)),(11,(.int .i64 i))],[(3,(some (.box (Md.cs m)))),(4,(some (.box (Qy.cs q)))),(5,(some (.box (Bx.cs b))))]⟩
theorem lW {m:Md} (hm:DR m=true) (q:Qy) (b:Bx) (i:Nat):(C7 m q b i).length≤248:=by
 have key:∀ (ts:LI) (f:Int),(∀ t∈ts,(EA t).length≤31)→(GH ts f).length≤31*ts.length:=by
  intro ts f
  induction ts with
  | nil=>intro _; exact AO _
  | cons t r ih=>
   intro ht;have h1:=ih fun u hu=>ht u (AW _ hu)
   have h2:=gQ f (EA t);have h3:=ht t (AR ..);unfold GH at h1 ⊢;rw [vas,AS,AP];omega
 have hmp:=H9 hm;have h1:=key m.ts (FW q (i:Int)) fun t ht=>uP hmp.2.2.2.2 ht
 unfold C7;cases decide (FW q (i:Int) < 0) with
 | true=>exact B7 _
 | false=>
  rw [CV];have h2:(HJ (b.g i).lo (b.g i).hi (G0 m.ts (FW q (i:Int)))).length≤(G0 m.ts (FW q (i:Int))).length:=List.length_filter_le ..
  have h3:(G0 m.ts (FW q (i:Int))).length≤(GH m.ts (FW q (i:Int))).length:=by
   unfold G0;exact CR (XK _) (Nat.le_of_eq (N9 _).length_eq)
  have:=hmp.2.2.1
  omega
theorem s5 (N:Nat) (m:Md) (hm:DR m=true) (q:Qy) (b:Bx):∀ (d i n:Nat),i+d=5→d < n →
  DC (K3 N) (CX NP [1,0,1,0,0]) ⟨[3,4,5,6,7,8,11],[3,4,5],[]⟩ n (Tj m q b (i:Int)) (C4 0 (C5 (K3 N) (CX NP [1,1]) (C8 (K3 N) none [(BH 6),(BH 7),(BH 8)] [[.z],[.z],[.bool]]))) =
   some (.tup [.int .i64 (HO (IM m q b d i)),.int .i64 (GC (IM m q b d i)),.bool (IM m q b d i).isSome],[])
 | d,i,0,_,h=>absurd h (by omega)
 | 0,i,n+1,hd,_=>by
  have hi:i=5:=by omega
  subst hi;rw [DI,tO,AJ (show ¬ ((5:Nat):Int) < 5 by omega),CV];exact z9 N m q b _ _ _ _
 | d+1,i,n+1,hd,hn=>by
  have hp:FS (i:Int)=true:=by unfold FS; rw [AE (show (0:Int)≤(i:Int) by omega),AE (show (i:Int) < 5 by omega)]; rfl
  have ei:AA AC ((i:Int)+1)=((i+1:Nat):Int):=F2 (by omega);have hc:=lW hm q b i;rw [DI,tO,ei,AE (show (i:Int) < 5 by omega),CU,hm,hp,BK,CU,A0,IM,HU];generalize C7 m q b i=cs at hc ⊢;have ed:decide (ic cs.length > 0)=decide (cs.length > 0):=by rw [va5]; simp
  rw [ed];cases hpos:decide (cs.length > 0) with
  | true=>
   have hpos:=BC hpos;have ew:AA AC (Int.tdiv (AA AC (ic cs.length - 1)) 2)=(((cs.length - 1) / 2:Nat):Int):=by
    have e1:AA AC (ic cs.length - 1)=((cs.length - 1:Nat):Int):=by rw [DX (by simp only [ic]; omega) (by simp only [ic]; omega)]; simp only [ic]; omega
    have e2:Int.tdiv ((cs.length - 1:Nat):Int) 2=(((cs.length - 1) / 2:Nat):Int):=by
     rw [Int.tdiv_eq_ediv_of_nonneg (by omega)];omega
    rw [e1,e2,DX (by omega) (by omega)]
   have hlt:(cs.length - 1) / 2 < cs.length:=by omega
   rw [CU,ew,JI,AE (show (((cs.length - 1) / 2:Nat):Int) < ic cs.length by simp only [ic]; omega),BK,CU,CU,A0];have eg:IV.toInt (AH (iZ cs) ((cs.length - 1) / 2) default)=cs.getD ((cs.length - 1) / 2) 0:=by
    unfold iZ;rw [BY,BY,B6,AV hlt];rfl
   rw [eg];exact Aa N m q b _ _ _ _
  | false=>
   rw [CV,CV];exact s5 N m hm q b d (i+1) n (by omega) (by omega)
theorem Qc:DD PR B0 34 T5:=by
 refine DK [(37,P5)] [(2,⟨[3,4,5,6,7,8,11],[3,4,5],[]⟩)] T5 [[.z],[.z],[.bool]] Tryz.func34 Dx ⟨sK,trivial⟩ ?_;intro vs r hwf h;unfold T5 at h;split at h
 ·rename_i m q b;replace h:=GU h;obtain ⟨m,rfl,h⟩:=h;replace h:=GP h;obtain ⟨q,rfl,h⟩:=h;replace h:=HQ h;obtain ⟨b,rfl,h⟩:=h;cases hg:(DR m) with
  | false=>rw [hg] at h; simp [R.get] at h
  | true=>
  rw [hg,R.get_br,CU,R.get_ok] at h;refine ⟨10,?_⟩;rw [← h];exact (It 10 m q b).trans (s5 10 m hg q b 5 0 10 rfl (by omega))
 ·simp [R.get] at h
open Go
theorem J9 {s:Sp} {n:Int}:s.has n=true↔s.lo≤n∧n≤s.hi:=by
 unfold Sp.has;rw [AG,AN,AN]
theorem Rg {s:Sp}:s.emp=false↔s.lo≤s.hi:=by
 unfold Sp.emp;rw [BI];omega
theorem sV {lo hi n:Int}:(HB lo hi).has n=true↔lo≤n∧n≤hi:=by
 unfold HB;cases hd:decide (lo > hi) with
 | true=>
  have:=BC hd
  rw [CU,J9];show (1:Int)≤n∧n≤0↔_;omega
 | false=>rw [CV,J9]
theorem bR {s:Sp} {a n:Int}:(s.cutL a).has n=true↔s.has n=true∧n≤a:=by
 unfold Sp.cutL;rw [sV,J9];omega
theorem bP {s:Sp} {a n:Int} (ha : -9223372036854775808≤a) (hs:s.hi≤9223372036854775807):(s.cutH a).has n=true↔s.has n=true∧a < n:=by
 unfold Sp.cutH;cases hd:decide (a≥s.hi) with
 | true=>
  have:=BC hd
  rw [CU,J9,J9];show (1:Int)≤n∧n≤0↔_;omega
 | false=>
  have:=A1 hd
  have e:C6 (a+1)=a+1:=DX (by omega) (by omega);rw [CV,sV,J9,e];omega
def co (p:Pt) (t:Int):Nat→Int
 | 0=>p.p0
 | 1=>p.p1
 | 2=>p.p2
 | 3=>p.p3
 | _=>t
theorem KH {b:Bx} {p:Pt} {t:Int}:b.has p t=true↔∀ i,i < 5→(b.g i).has (co p t i)=true:=by
 unfold Bx.has;simp only [AG];constructor
 ·rintro ⟨h0,h1,h2,h3,h4⟩ i hi
  match i,hi with
  | 0,_=>exact h0
  | 1,_=>exact h1
  | 2,_=>exact h2
  | 3,_=>exact h3
  | 4,_=>exact h4
  | i+5,h=>exact absurd h (by omega)
 ·intro h;exact ⟨h 0 (by omega),h 1 (by omega),h 2 (by omega),h 3 (by omega),h 4 (by omega)⟩
theorem a8 {b:Bx}:b.emp=false↔∀ i,i < 5→(b.g i).lo≤(b.g i).hi:=by
 unfold Bx.emp;simp only [CM,Rg];constructor
 ·rintro ⟨h0,h1,h2,h3,h4⟩ i hi
  match i,hi with
  | 0,_=>exact h0
  | 1,_=>exact h1
  | 2,_=>exact h2
  | 3,_=>exact h3
  | 4,_=>exact h4
  | i+5,h=>exact absurd h (by omega)
 ·intro h;exact ⟨h 0 (by omega),h 1 (by omega),h 2 (by omega),h 3 (by omega),h 4 (by omega)⟩
theorem H5 (b:Bx) (s:Sp):∀ {i j:Nat},i < 5→j < 5→(b.p s i).g j=if j=i then s else b.g j
 | 0,0,_,_=>rfl
 | 0,1,_,_=>rfl
 | 0,2,_,_=>rfl
 | 0,3,_,_=>rfl
 | 0,4,_,_=>rfl
 | 1,0,_,_=>rfl
 | 1,1,_,_=>rfl
 | 1,2,_,_=>rfl
 | 1,3,_,_=>rfl
 | 1,4,_,_=>rfl
 | 2,0,_,_=>rfl
 | 2,1,_,_=>rfl
 | 2,2,_,_=>rfl
 | 2,3,_,_=>rfl
 | 2,4,_,_=>rfl
 | 3,0,_,_=>rfl
 | 3,1,_,_=>rfl
 | 3,2,_,_=>rfl
 | 3,3,_,_=>rfl
 | 3,4,_,_=>rfl
 | 4,0,_,_=>rfl
 | 4,1,_,_=>rfl
 | 4,2,_,_=>rfl
 | 4,3,_,_=>rfl
 | 4,4,_,_=>rfl
 | i+5,_,h,_=>absurd h (by omega)
 | _,j+5,_,h=>absurd h (by omega)
def Bx.ok (b:Bx):Prop:=∀ i,i < 5→(b.g i).hi≤2147483647
theorem RU (b:Bx) (h:b.emp=false):b.has b.low b.s4.hi=true:=by
 rw [a8] at h;rw [KH];intro i hi;rw [J9]
 have:=h i hi
 match i,hi with
 | 0,_=>exact ⟨CQ _,this⟩
 | 1,_=>exact ⟨CQ _,this⟩
 | 2,_=>exact ⟨CQ _,this⟩
 | 3,_=>exact ⟨CQ _,this⟩
 | 4,_=>exact ⟨this,CQ _⟩
 | i+5,h=>exact absurd h (by omega)
theorem RV {b:Bx} {p:Pt} {t:Int} (h:b.has p t=true):b.emp=false:=by
 rw [KH] at h;rw [a8];intro i hi
 have:=J9.1 (h i hi)
 omega
theorem XP {b:Bx} {i:Nat} (hi:i < 5) {a:Int} {p:Pt} {t:Int}:(b.cutL (i:Int) a).has p t=true↔b.has p t=true∧co p t i≤a:=by
 unfold Bx.cutL;rw [A0,KH,KH];constructor
 ·intro h;refine ⟨fun j hj=>?_,?_⟩
  ·have:=h j hj
   rw [H5 b _ hi hj] at this;by_cases e:j=i
   ·rw [A6 e,bR] at this;rw [e] at this ⊢;exact this.1
   ·rw [AX e] at this;exact this
  ·have:=h i hi
   rw [H5 b _ hi hi,A6 rfl,bR] at this;exact this.2
 ·rintro ⟨h,ha⟩ j hj;rw [H5 b _ hi hj];by_cases e:j=i
  ·rw [A6 e,bR,e];exact ⟨h i hi,ha⟩
  ·rw [AX e];exact h j hj
theorem XN {b:Bx} (hb:b.ok) {i:Nat} (hi:i < 5) {a:Int} (ha : -2147483648≤a) {p:Pt} {t:Int}:(b.cutH (i:Int) a).has p t=true↔b.has p t=true∧a < co p t i:=by
 have hs:=hb i hi;unfold Bx.cutH;rw [A0,KH,KH];constructor
 ·intro h;refine ⟨fun j hj=>?_,?_⟩
  ·have:=h j hj
   rw [H5 b _ hi hj] at this;by_cases e:j=i
   ·rw [A6 e,bP (by omega) (by omega)] at this;rw [e] at this ⊢;exact this.1
   ·rw [AX e] at this;exact this
  ·have:=h i hi
   rw [H5 b _ hi hi,A6 rfl,bP (by omega) (by omega)] at this;exact this.2
 ·rintro ⟨h,ha'⟩ j hj;rw [H5 b _ hi hj];by_cases e:j=i
  ·rw [A6 e,bP (by omega) (by omega),e];exact ⟨h i hi,ha'⟩
  ·rw [AX e];exact h j hj
theorem sW {lo hi:Int} (h:hi≤2147483647):(HB lo hi).hi≤2147483647:=by
 unfold HB;cases decide (lo > hi) with
 | true=>rw [CU]; show (0:Int)≤_; omega
 | false=>exact h
theorem V5 {b:Bx} (hb:b.ok) {s:Sp} (hs:s.hi≤2147483647) {i:Nat} (hi:i < 5):(b.p s i).ok:=by
 intro j hj;rw [H5 b _ hi hj];split
 ·exact hs
 ·exact hb j hj
theorem yZ {b:Bx} (hb:b.ok) {i:Nat} (hi:i < 5) (a:Int):(b.cutL (i:Int) a).ok:=by
 unfold Bx.cutL;rw [A0];refine V5 hb ?_ hi;unfold Sp.cutL;exact sW (by have:=hb i hi; omega)
theorem yY {b:Bx} (hb:b.ok) {i:Nat} (hi:i < 5) (a:Int):(b.cutH (i:Int) a).ok:=by
 unfold Bx.cutH;rw [A0];refine V5 hb ?_ hi;unfold Sp.cutH;cases decide (a≥(b.g i).hi) with
 | true=>rw [CU]; show (0:Int)≤_; omega
 | false=>exact sW (hb i hi)
theorem FG (b:Bx):C9 b.I=b:=rfl
theorem XL (p:Pt) (t:Int):∀ {i:Nat},i < 4→co p t i=p.g i
 | 0,_=>rfl
 | 1,_=>rfl
 | 2,_=>rfl
 | 3,_=>rfl
 | i+4,h=>absurd h (by omega)
abbrev nd (l:LI) (i:Nat):Nd:=CW (l.getD i default).toInt
def QW (l:LI) (k j:Nat):Prop:=(nd l k).lf=false∧((nd l k).l=(j:Int)∨(nd l k).r=(j:Int))
structure TreeOK (l:LI):Prop where
 len:1≤l.length∧l.length≤31
 node:∀ k,k < l.length→EQ (l.getD k default).toInt=true
 fork:∀ k,k < l.length→(nd l k).lf=false→(0≤(nd l k).f∧(nd l k).f < 4)∧DZ (nd l k).a=true∧((k:Int) < (nd l k).l∧(nd l k).l < ic l.length)∧((k:Int) < (nd l k).r∧(nd l k).r < ic l.length)∧(nd l k).l≠(nd l k).r
 parent:∀ j,1≤j→j < l.length→∃ k,k < l.length∧QW l k j
 alone:∀ j k k',1≤j→j < l.length→k < l.length→k' < l.length→QW l k j→QW l k' j→k=k'
theorem Rx {l:List Nat}:∀ {k a:Nat},l[k]?=some a→a≤l.sum:=by
 induction l with
 | nil=>intro k a h; simp at h
 | cons x r ih=>
  intro k a h;cases k with
  | zero=>simp at h; simp; omega
  | succ k=>have:=ih (k:=k) (a:=a) (by simpa using h); simp; omega
theorem uH {l:List Nat}:∀ {k k' a b:Nat},k < k'→l[k]?=some a→l[k']?=some b→a+b≤l.sum:=by
 induction l with
 | nil=>intro k k' a b _ h; simp at h
 | cons x r ih=>
  intro k k' a b hk h h';cases k with
  | zero=>
   cases k' with
   | zero=>omega
   | succ k'=>
    have:=Rx (l:=r) (k:=k') (a:=b) (by simpa using h')
    simp at h;simp;omega
  | succ k=>
   cases k' with
   | zero=>omega
   | succ k'=>
    have:=ih (k:=k) (k':=k') (a:=a) (b:=b) (by omega) (by simpa using h) (by simpa using h')
    simp;omega
theorem Rz {l:List Nat}:0 < l.sum→∃ (k a:Nat),l[k]?=some a∧0 < a:=by
 induction l with
 | nil=>intro h; simp at h
 | cons x r ih=>
  intro h;by_cases hx:0 < x
  ·exact ⟨0,x,rfl,hx⟩
  ·obtain ⟨k,a,hk,ha⟩:=ih (by simp at h; omega);exact ⟨k+1,a,by simpa using hk,ha⟩
theorem dW {x:Nd} {j:Nat}:0 < HM x j↔x.lf=false∧(x.l=(j:Int)∨x.r=(j:Int)):=by
 unfold HM;cases x.lf with
 | true=>simp
 | false=>
  rw [CV];by_cases h1:x.l=(j:Int) <;> by_cases h2:x.r=(j:Int) <;> simp [h1,h2]
theorem VH {l:LI} {k:Nat} (h:k < l.length):l.getD k default=l[k]:=by simp [h]
theorem Sn {l:LI} (h:FQ l 4=true):TreeOK l:=by
 have key:∀ {dim n:Int} {l:LI} {i k:Nat} (hk:k < l.length),HN dim n i l=true→EQ (l[k]).toInt=true∧JV dim n (i+k) (CW (l[k]).toInt)=true:=by
  intro dim n l
  induction l with
  | nil=>intro i k hk; exact absurd hk (Nat.not_lt_zero k)
  | cons w r ih=>
   intro i k hk h;rw [HN] at h;simp only [AG] at h;cases k with
   | zero=>exact h.1
   | succ k=>
    have:=ih (k:=k) (by simpa using hk) h.2
    rw [show i+1+k=i+(k+1) by omega] at this;exact this
 unfold FQ at h;simp only [AG] at h;obtain ⟨⟨h1,h31⟩,hn,ho⟩:=h;have hlen:=AL h1;have once:∀ j,1≤j→j < l.length→EY l j=1:=fun j hj hjl=>by
  unfold O8 at ho;rw [vah] at ho
  have:=ho (j - 1) (List.mem_range.2 (by omega))
  rw [show j - 1+1=j by omega] at this;simpa using this
 have at_:∀ k (hk:k < l.length) j,(l.map fun w=>HM (CW w.toInt) j)[k]?=some (HM (nd l k) j):=fun k hk j=>by
  rw [B6,AV hk];unfold nd;rw [VH hk];rfl
 refine ⟨⟨hlen,AL h31⟩,fun k hk=>by rw [VH hk]; exact (key hk hn).1,fun k hk hl=>?_,fun j hj hjl=>?_,fun j k k' hj hjl hk hk' hn1 hn2=>?_⟩
 ·have h2:=(key hk hn).2;have h3:=(key hk hn).1;rw [A3] at h2;unfold nd at hl ⊢;rw [VH hk] at hl ⊢;unfold JV at h2;rw [hl,CV] at h2;simp only [AG,BO,BI,BN] at h2;obtain ⟨q1,q2,q3,q4⟩:=h2;have hr:=(dZ h3).2;unfold GZ LX at hr;rw [hl,CV] at hr;simp only [AG,AN] at hr;exact ⟨⟨hr.2.1,hr.2.2.1⟩,hr.2.2.2.1,⟨by omega,by simp only [ic] at q4 ⊢; omega⟩,⟨by omega,by simp only [ic] at q4 ⊢; omega⟩,q2⟩
 ·have h2:=once j hj hjl;unfold EY at h2;obtain ⟨k,a,hk,ha⟩:=Rz (l:=l.map fun w=>HM (CW w.toInt) j) (by omega);have hkl:k < l.length:=by
   have:=(A5.1 hk).1
   simpa using this
  rw [at_ k hkl j] at hk;simp only [AB] at hk;subst hk;exact ⟨k,hkl,dW.1 ha⟩
 ·have h2:=once j hj hjl;unfold EY at h2;have p1:0 < HM (nd l k) j:=dW.2 hn1;have p2:0 < HM (nd l k') j:=dW.2 hn2;rcases Nat.lt_trichotomy k k' with hlt | heq | hlt
  ·have:=uH hlt (at_ k hk j) (at_ k' hk' j)
   omega
  ·exact heq
  ·have:=uH hlt (at_ k' hk' j) (at_ k hk j)
   omega
def OB (l:LI) (p:Pt) (i:Nat):Int:=(E0 l p 31 (i:Int)).2.v
theorem XU {l:LI} (h:TreeOK l) (p:Pt) {i:Nat} (hi:i < l.length) (n:Nat):E0 l p (n+1) (i:Int) =
  cond (nd l i).lf ((i:Int),nd l i) (cond (decide (p.g (nd l i).f.toNat≤(nd l i).a)) (E0 l p n (nd l i).l) (E0 l p n (nd l i).r)):=by
 rw [E0,AJ (show ¬ (i:Int)≥ic l.length by simp only [ic]; omega),CV,A0,h.node i hi,BB,CV]
theorem XV {l:LI} (h:TreeOK l) (p:Pt):∀ (n n' i:Nat),i < l.length→l.length - i≤n→l.length - i≤n'→E0 l p n (i:Int)=E0 l p n' (i:Int)
 | 0,_,i,hi,h1,_=>absurd h1 (by omega)
 | _+1,0,i,hi,_,h2=>absurd h2 (by omega)
 | n+1,n'+1,i,hi,h1,h2=>by
  rw [XU h p hi,XU h p hi];cases hl:(nd l i).lf with
  | true=>rfl
  | false=>
   obtain ⟨_,_,⟨a1,a2⟩,⟨b1,b2⟩,_⟩:=h.fork i hi hl;simp only [ic] at a2 b2;rw [CV,CV];cases decide (p.g (nd l i).f.toNat≤(nd l i).a) with
   | true=>
    have e:(nd l i).l=(((nd l i).l.toNat:Nat):Int):=by omega
    rw [CU,CU,e];exact XV h p n n' _ (by omega) (by omega) (by omega)
   | false=>
    have e:(nd l i).r=(((nd l i).r.toNat:Nat):Int):=by omega
    rw [CV,CV,e];exact XV h p n n' _ (by omega) (by omega) (by omega)
theorem Sz {l:LI} (h:TreeOK l) (p:Pt) {i:Nat} (hi:i < l.length) (hl:(nd l i).lf=true):OB l p i=(nd l i).v:=by
 unfold OB;rw [XU h p hi,hl,CU]
theorem Sy {l:LI} (h:TreeOK l) (p:Pt) {i:Nat} (hi:i < l.length) (hl:(nd l i).lf=false):OB l p i=OB l p (cond (decide (p.g (nd l i).f.toNat≤(nd l i).a)) (nd l i).l.toNat (nd l i).r.toNat):=by
 obtain ⟨_,_,⟨a1,a2⟩,⟨b1,b2⟩,_⟩:=h.fork i hi hl;have h31:=h.len.2;simp only [ic] at a2 b2;unfold OB;rw [XU h p hi,hl,CV];cases decide (p.g (nd l i).f.toNat≤(nd l i).a) with
 | true=>
  rw [CU,CU];have e:(nd l i).l=(((nd l i).l.toNat:Nat):Int):=by omega
  rw [e,A0];rw [XV h p 30 31 _ (by omega) (by omega) (by omega)]
 | false=>
  rw [CV,CV];have e:(nd l i).r=(((nd l i).r.toNat:Nat):Int):=by omega
  rw [e,A0];rw [XV h p 30 31 _ (by omega) (by omega) (by omega)]
theorem Sx (l:LI) (p:Pt):FF l p=OB l p 0:=rfl
abbrev GQ (own:LI) (j:Nat):Bx:=C9 (own.getD j default)
def fr (l:LI) (i j:Nat):Prop:=i≤j∧j < l.length∧(j=0∨∃ k,k < i∧QW l k j)
structure PInv (l:LI) (b:Bx) (i:Nat) (own out:LI):Prop where
 len:own.length=l.length
 val:∀ j,fr l i j→∀ p t,(GQ own j).has p t=true→b.has p t=true∧OB l p 0=OB l p j
 ok:∀ j,fr l i j→(GQ own j).ok
 all:∀ p t,b.has p t=true→(∃ x∈out,(C9 x).has p t=true)∨∃ j,fr l i j∧(GQ own j).has p t=true
 out:∀ x∈out,(C9 x).emp=false∧(C9 x).ok∧∀ p t,(C9 x).has p t=true→b.has p t=true∧FF l p=FU x
theorem m9 {l:LI} (h:TreeOK l) {i:Nat} (hi:i < l.length):fr l i i:=by
 refine ⟨AO _,hi,?_⟩;by_cases h0:i=0
 ·exact .inl h0
 ·obtain ⟨k,hk,hn⟩:=h.parent i (by omega) hi;refine .inr ⟨k,?_,hn⟩;obtain ⟨_,_,a,b,_⟩:=h.fork k hk hn.1;rcases hn.2 with e | e <;> omega
theorem fX {own:LI} {a j:Nat} {x:IV} (ha:a < own.length):(own.set a x).getD j default=if j=a then x else own.getD j default:=by
 rw [BY,List.getElem?_set];by_cases e:a=j
 ·subst e;rw [A6 rfl,A6 ha,A6 rfl];rfl
 ·rw [AX e,AX (fun h=>e h.symm),← BY]
theorem Mj {l:LI} (h:TreeOK l) {b:Bx} {i:Nat} (hi:i < l.length) {own out:LI} (hp:PInv l b i own out) :
  PInv l b (i+1) (LG (nd l i) i own) (cond ((nd l i).lf&&!(GQ own i).emp) (out++[V8 (GQ own i) (nd l i).v]) out):=by
 have hfi:=m9 h hi;cases hl:(nd l i).lf with
 | true=>
  have e1:LG (nd l i) i own=own:=by unfold LG; rw [hl,CU]
  have hfr:∀ j,fr l (i+1) j→fr l i j:=fun j hj=>by
   refine ⟨by have:=hj.1; omega,hj.2.1,hj.2.2.imp_right ?_⟩;rintro ⟨k,hk,hn⟩;refine ⟨k,?_,hn⟩;rcases Nat.lt_succ_iff_lt_or_eq.1 hk with h1 | h1
   ·exact h1
   ·subst h1;rw [hn.1] at hl;cases hl
  have hrf:∀ j,fr l i j→j=i∨fr l (i+1) j:=fun j hj=>by
   by_cases e:j=i
   ·exact .inl e
   ·refine .inr ⟨by have:=hj.1; omega,hj.2.1,hj.2.2.imp_right ?_⟩;rintro ⟨k,hk,hn⟩;exact ⟨k,by omega,hn⟩
  rw [e1,BL];have hv:=fun p=>Sz h p hi hl
  cases he:(GQ own i).emp with
  | true=>
   rw [BB,CV];refine ⟨hp.len,fun j hj=>hp.val j (hfr j hj),fun j hj=>hp.ok j (hfr j hj),fun p t hb=>?_,hp.out⟩;rcases hp.all p t hb with h1 | ⟨j,hj,hh⟩
   ·exact .inl h1
   ·rcases hrf j hj with rfl | hj'
    ·rw [RV hh] at he;cases he
    ·exact .inr ⟨j,hj',hh⟩
  | false=>
   rw [BX,CU];refine ⟨hp.len,fun j hj=>hp.val j (hfr j hj),fun j hj=>hp.ok j (hfr j hj),fun p t hb=>?_,fun x hx=>?_⟩
   ·rcases hp.all p t hb with ⟨x,hx,hh⟩ | ⟨j,hj,hh⟩
    ·exact .inl ⟨x,AQ.2 (.inl hx),hh⟩
    ·rcases hrf j hj with rfl | hj'
     ·exact .inl ⟨_,AQ.2 (.inr (BJ.2 rfl)),hh⟩
     ·exact .inr ⟨j,hj',hh⟩
   ·rcases AQ.1 hx with hx | hx
    ·exact hp.out x hx
    ·obtain rfl:=BJ.1 hx;refine ⟨he,hp.ok i hfi,fun p t hh=>?_⟩;obtain ⟨q1,q2⟩:=hp.val i hfi p t hh;refine ⟨q1,?_⟩;rw [Sx,q2,hv p];rfl
 | false=>
  obtain ⟨⟨f0,f4⟩,ha,⟨a1,a2⟩,⟨b1,b2⟩,hne⟩:=h.fork i hi hl;simp only [ic] at a2 b2;have ef:(nd l i).f=(((nd l i).f.toNat:Nat):Int):=by omega
  have hf5:(nd l i).f.toNat < 5:=by omega
  have e1:LG (nd l i) i own=(own.set (nd l i).l.toNat ((GQ own i).cutL (nd l i).f (nd l i).a).I).set (nd l i).r.toNat ((GQ own i).cutH (nd l i).f (nd l i).a).I:=by unfold LG; rw [hl,CV]
  have hlen:=hp.len;have at_:∀ j,(LG (nd l i) i own).getD j default=if j=(nd l i).r.toNat then ((GQ own i).cutH (nd l i).f (nd l i).a).I else if j=(nd l i).l.toNat then ((GQ own i).cutL (nd l i).f (nd l i).a).I else own.getD j default:=fun j=>by
   rw [e1,fX (by rw [vaF]; omega)];congr 1;rw [fX (by omega)]
  have fits : -2147483648≤(nd l i).a∧(nd l i).a≤2147483647:=by
   unfold DZ at ha;simpa only [AG,AN] using ha
  have hok:=hp.ok i hfi;have cl:∀ p t,((GQ own i).cutL (nd l i).f (nd l i).a).has p t=true↔(GQ own i).has p t=true∧p.g (nd l i).f.toNat≤(nd l i).a:=fun p t=>by
   have:=XP (b:=GQ own i) hf5 (a:=(nd l i).a) (p:=p) (t:=t)
   rw [← ef,XL p t (by omega)] at this;exact this
  have ch:∀ p t,((GQ own i).cutH (nd l i).f (nd l i).a).has p t=true↔(GQ own i).has p t=true∧(nd l i).a < p.g (nd l i).f.toNat:=fun p t=>by
   have:=XN hok hf5 (a:=(nd l i).a) fits.1 (p:=p) (t:=t)
   rw [← ef,XL p t (by omega)] at this;exact this
  have nl:QW l i (nd l i).l.toNat:=⟨hl,.inl (by omega)⟩;have nr:QW l i (nd l i).r.toNat:=⟨hl,.inr (by omega)⟩;have hfr:∀ j,fr l (i+1) j→j≠(nd l i).l.toNat→j≠(nd l i).r.toNat→fr l i j:=fun j hj h1 h2=>by
   refine ⟨by have:=hj.1; omega,hj.2.1,hj.2.2.imp_right ?_⟩;rintro ⟨k,hk,hn⟩;refine ⟨k,?_,hn⟩;rcases Nat.lt_succ_iff_lt_or_eq.1 hk with h3 | h3
   ·exact h3
   ·subst h3;rcases hn.2 with e | e
    ·exact absurd (by omega) h1
    ·exact absurd (by omega) h2
  have hnot:∀ j,QW l i j→¬ fr l i j:=fun j hn hj=>by
   obtain ⟨h1,h2,h3⟩:=hj;have hj0:1≤j:=by rcases hn.2 with e | e <;> omega
   rcases h3 with h3 | ⟨k,hk,hk2⟩
   ·omega
   ·have:=h.alone j k i hj0 h2 (by omega) hi hk2 hn
    omega
  have fl:fr l (i+1) (nd l i).l.toNat:=⟨by omega,by omega,.inr ⟨i,by omega,nl⟩⟩;have frr:fr l (i+1) (nd l i).r.toNat:=⟨by omega,by omega,.inr ⟨i,by omega,nr⟩⟩;have hup:∀ j,fr l i j→j≠i→fr l (i+1) j:=fun j hj e=>by
   refine ⟨by have:=hj.1; omega,hj.2.1,hj.2.2.imp_right ?_⟩;rintro ⟨k,hk,hn⟩;exact ⟨k,by omega,hn⟩
  have hvf:=fun p=>Sy h p hi hl
  rw [B5,CV];refine ⟨by rw [e1,vaF,vaF]; exact hp.len,fun j hj p t hh=>?_,fun j hj=>?_,fun p t hb=>?_,hp.out⟩
  ·unfold GQ at hh;rw [at_] at hh;by_cases hr:j=(nd l i).r.toNat
   ·rw [A6 hr,FG,ch] at hh;obtain ⟨q1,q2⟩:=hp.val i hfi p t hh.1;refine ⟨q1,?_⟩;rw [q2,hvf p,AJ (by omega),CV,hr]
   ·rw [AX hr] at hh;by_cases hlj:j=(nd l i).l.toNat
    ·rw [A6 hlj,FG,cl] at hh;obtain ⟨q1,q2⟩:=hp.val i hfi p t hh.1;refine ⟨q1,?_⟩;rw [q2,hvf p,AE hh.2,CU,hlj]
    ·rw [AX hlj] at hh;exact hp.val j (hfr j hj hlj hr) p t hh
  ·unfold GQ;rw [at_];by_cases hr:j=(nd l i).r.toNat
   ·rw [A6 hr,FG,ef];exact yY hok hf5 _
   ·rw [AX hr];by_cases hlj:j=(nd l i).l.toNat
    ·rw [A6 hlj,FG,ef];exact yZ hok hf5 _
    ·rw [AX hlj];exact hp.ok j (hfr j hj hlj hr)
  ·rcases hp.all p t hb with h1 | ⟨j,hj,hh⟩
   ·exact .inl h1
   ·refine .inr ?_;by_cases e:j=i
    ·subst e;by_cases hd:p.g (nd l j).f.toNat≤(nd l j).a
     ·refine ⟨_,fl,?_⟩;unfold GQ;rw [at_,AX (by omega),A6 rfl,FG,cl];exact ⟨hh,hd⟩
     ·refine ⟨_,frr,?_⟩;unfold GQ;rw [at_,A6 rfl,FG,ch];exact ⟨hh,by omega⟩
    ·refine ⟨j,hup j hj e,?_⟩;unfold GQ;rw [at_,AX (fun (er:j=(nd l i).r.toNat)=>hnot j (er ▸ nr) hj),AX (fun (er:j=(nd l i).l.toNat)=>hnot j (er ▸ nl) hj)];exact hh
theorem pY {l:LI} (h:TreeOK l) {b:Bx}:∀ (m i:Nat) (own out:LI),i+m=l.length→PInv l b i own out→∃ own',PInv l b l.length own' (KQ (l.drop i) i own out)
 | 0,i,own,out,hd,hp=>by
  have hi:i=l.length:=by omega
  subst hi;rw [CI,KQ];exact ⟨own,hp⟩
 | m+1,i,own,out,hd,hp=>by
  have hi:i < l.length:=by omega
  rw [BD hi,KQ];have hs:=Mj h hi hp;have e:nd l i=CW (l[i]).toInt:=by unfold nd; rw [VH hi]
  rw [e] at hs;exact pY h m (i+1) _ _ (by omega) hs
theorem Gh {l:LI} (ht:FQ l 4=true) {b:Bx} (hb:b.emp=false) (hok:b.ok) :
  (∀ x∈GK l b,(C9 x).emp=false∧(C9 x).ok∧∀ p t,(C9 x).has p t=true→b.has p t=true∧FF l p=FU x) ∧
   ∀ p t,b.has p t=true→∃ x∈GK l b,(C9 x).has p t=true:=by
 have h:=Sn ht;have h1:=h.len.1;have hz:((vak l.length RT.I).set 0 b.I).getD 0 default=b.I:=by rw [fX (by simp; omega),A6 rfl]
 have f0:∀ j,fr l 0 j→j=0:=fun j hj=>by
  rcases hj.2.2 with e | ⟨k,hk,_⟩
  ·exact e
  ·omega
 have h0:PInv l b 0 ((vak l.length RT.I).set 0 b.I) []:=by
  refine ⟨by simp,fun j hj p t hh=>?_,fun j hj=>?_,fun p t hh=>.inr ⟨0,m9 h (by omega),?_⟩,fun x hx=>by cases hx⟩
  ·obtain rfl:=f0 j hj;unfold GQ at hh;rw [hz,FG] at hh;exact ⟨hh,rfl⟩
  ·obtain rfl:=f0 j hj;unfold GQ;rw [hz,FG];exact hok
  ·unfold GQ;rw [hz,FG];exact hh
 obtain ⟨own',hp⟩:=pY h l.length 0 _ _ (by omega) h0;have e:GK l b=KQ (l.drop 0) 0 ((vak l.length RT.I).set 0 b.I) []:=by unfold GK; rw [ht,hb]; rfl
 rw [e];refine ⟨hp.out,fun p t hh=>?_⟩;rcases hp.all p t hh with h1 | ⟨j,hj,_⟩
 ·exact h1
 ·have:=hj.1
  have:=hj.2.1
  omega
theorem oT:∀ {l:LI} {a:Int},LK l a≤a∧∀ x∈l,LK l a≤FU x
 | [],a=>⟨CQ _,fun x hx=>by cases hx⟩
 | y :: r,a=>by
  rw [LK];obtain ⟨h1,h2⟩:=oT (l:=r) (a:=min a (FU y));refine ⟨by omega,fun x hx=>?_⟩;rcases AT.1 hx with rfl | hx
  ·omega
  ·exact h2 x hx
theorem oQ:∀ {l:LI} {a:Int},a≤LH l a∧∀ x∈l,FU x≤LH l a
 | [],a=>⟨CQ _,fun x hx=>by cases hx⟩
 | y :: r,a=>by
  rw [LH];obtain ⟨h1,h2⟩:=oQ (l:=r) (a:=max a (FU y));refine ⟨by omega,fun x hx=>?_⟩;rcases AT.1 hx with rfl | hx
  ·omega
  ·exact h2 x hx
theorem oS:∀ {l:LI} {a:Int},LK l a=a∨∃ x∈l,LK l a=FU x
 | [],a=>.inl rfl
 | y :: r,a=>by
  rw [LK];rcases oS (l:=r) (a:=min a (FU y)) with h | ⟨x,hx,h⟩
  ·rw [h];by_cases hd:a≤FU y
   ·exact .inl (by omega)
   ·exact .inr ⟨y,AR ..,by omega⟩
  ·exact .inr ⟨x,AW _ hx,h⟩
theorem oP:∀ {l:LI} {a:Int},LH l a=a∨∃ x∈l,LH l a=FU x
 | [],a=>.inl rfl
 | y :: r,a=>by
  rw [LH];rcases oP (l:=r) (a:=max a (FU y)) with h | ⟨x,hx,h⟩
  ·rw [h];by_cases hd:FU y≤a
   ·exact .inl (by omega)
   ·exact .inr ⟨y,AR ..,by omega⟩
  ·exact .inr ⟨x,AW _ hx,h⟩
theorem Ms {ps:LI} (hp:ps≠[]):(∀ x∈ps,WB ps≤FU x∧FU x≤WA ps)∧(∃ x∈ps,FU x=WB ps)∧∃ x∈ps,FU x=WA ps:=by
 unfold WB WA;cases ps with
 | nil=>exact absurd rfl hp
 | cons y r=>
  have e:(y :: r).getD 0 default=y:=rfl;rw [e];refine ⟨fun x hx=>⟨oT.2 x hx,oQ.2 x hx⟩,?_,?_⟩
  ·rcases oS (l:=y :: r) (a:=FU y) with h | ⟨x,hx,h⟩
   ·exact ⟨y,AR ..,h.symm⟩
   ·exact ⟨x,hx,h.symm⟩
  ·rcases oP (l:=y :: r) (a:=FU y) with h | ⟨x,hx,h⟩
   ·exact ⟨y,AR ..,h.symm⟩
   ·exact ⟨x,hx,h.symm⟩
theorem Z3 {l:LI} (ht:FQ l 4=true) {b:Bx} (hb:b.emp=false) (hok:b.ok) :
  (∀ p t,b.has p t=true→KC l b≤FF l p∧FF l p≤KB l b)∧(∃ p t,b.has p t=true∧FF l p=KC l b)∧∃ p t,b.has p t=true∧FF l p=KB l b:=by
 obtain ⟨h1,h2⟩:=Gh ht hb hok;have hne:GK l b≠[]:=fun e=>by
  obtain ⟨x,hx,_⟩:=h2 b.low b.s4.hi (RU b hb);rw [e] at hx;cases hx
 obtain ⟨q1,⟨x,hx,q2⟩,⟨y,hy,q3⟩⟩:=Ms hne;have hT:RB l b=true:=by
  unfold RB;cases he:GK l b with
  | nil=>exact absurd he hne
  | cons _ _=>rfl
 unfold KC KB;rw [hT,CU,CU];refine ⟨fun p t hh=>?_,⟨(C9 x).low,(C9 x).s4.hi,?_⟩,⟨(C9 y).low,(C9 y).s4.hi,?_⟩⟩
 ·obtain ⟨z,hz,hzh⟩:=h2 p t hh;rw [((h1 z hz).2.2 p t hzh).2];exact q1 z hz
 ·obtain ⟨r1,r2⟩:=(h1 x hx).2.2 _ _ (RU _ (h1 x hx).1);exact ⟨r1,r2.trans q2⟩
 ·obtain ⟨r1,r2⟩:=(h1 y hy).2.2 _ _ (RU _ (h1 y hy).1);exact ⟨r1,r2.trans q3⟩
open Go
theorem Z9 {m:Md} (hm:DR m=true) {t:IV} (ht:t∈m.ts):FQ (EA t) 4=true:=by
 have h:=H9 hm;exact Sj (uO (vah.1 h.2.2.2.2 t ht)).2 h.1.2
theorem gN (g:LI→Int) (k:Int) (p:Pt):∀ (ts:LI) (s s':Int),(∀ t∈ts,g (EA t)≤FF (EA t) p)→s≤s'→JP g k ts s≤KN k p ts s'
 | [],_,_,_,h=>h
 | t :: r,s,s',hg,h=>by
  rw [JP,KN];have h1:=hg t (AR ..);refine gN g k p r _ _ (fun u hu=>hg u (AW _ hu)) ?_;cases (PH t==k) <;> simp only [CF,BQ] <;> omega
theorem gL (g:LI→Int) (k:Int) (p:Pt):∀ (ts:LI) (s s':Int),(∀ t∈ts,FF (EA t) p≤g (EA t))→s'≤s→KN k p ts s'≤JP g k ts s
 | [],_,_,_,h=>h
 | t :: r,s,s',hg,h=>by
  rw [JP,KN];have h1:=hg t (AR ..);refine gL g k p r _ _ (fun u hu=>hg u (AW _ hu)) ?_;cases (PH t==k) <;> simp only [CF,BQ] <;> omega
theorem fS {m:Md} {k:Int} {b:Bx} (h:FZ m k b=true):DR m=true∧GA m k=true∧b.emp=false:=by
 unfold FZ at h;simp only [AG,BO] at h;exact h
theorem mN {m:Md} {k:Int} (hm:DR m=true) (hk:GA m k=true) (p:Pt):C1 m k p=KN k p m.ts (I9 m k):=by
 unfold C1;rw [hm,hk];rfl
theorem SV {m:Md} {k:Int} {b:Bx} (h:FZ m k b=true) (hok:b.ok) {p:Pt} {t:Int} (hh:b.has p t=true):F8 m k b≤C1 m k p∧C1 m k p≤E7 m k b:=by
 obtain ⟨hm,hk,hb⟩:=fS h;unfold F8 E7;rw [h,CU,CU,mN hm hk];exact ⟨gN _ k p m.ts _ _ (fun t ht=>((Z3 (Z9 hm ht) hb hok).1 p _ hh).1) (CQ _),gL _ k p m.ts _ _ (fun t ht=>((Z3 (Z9 hm ht) hb hok).1 p _ hh).2) (CQ _)⟩
theorem Oe {m:Md} {k:Int} {b:Bx} (h:FZ m k b=true) (hok:b.ok) {p:Pt} {t:Int} (hh:b.has p t=true) (hc:∀ u∈m.ts,∀ p' t',b.has p' t'=true→FF (EA u) p'=FF (EA u) p):F8 m k b=C1 m k p∧E7 m k b=C1 m k p:=by
 obtain ⟨hm,hk,hb⟩:=fS h;have h1:=SV h hok hh;have h2:C1 m k p≤F8 m k b∧E7 m k b≤C1 m k p:=by
  unfold F8 E7;rw [h,CU,CU,mN hm hk];refine ⟨gL _ k p m.ts _ _ (fun u hu=>?_) (CQ _),gN _ k p m.ts _ _ (fun u hu=>?_) (CQ _)⟩
  ·obtain ⟨_,⟨p',t',q1,q2⟩,_⟩:=Z3 (Z9 hm hu) hb hok;rw [← hc u hu p' t' q1];exact Int.le_of_eq q2
  ·obtain ⟨_,_,⟨p',t',q1,q2⟩⟩:=Z3 (Z9 hm hu) hb hok;rw [← hc u hu p' t' q1];exact Int.le_of_eq q2.symm
 omega
theorem bL {x:Int}:∀ {l:List Int} {p:Int},x∈l→x=p∨x∈HT p l
 | y :: r,p,h=>by
  rw [HT];cases hb:(y==p) with
  | true=>
   have hb:=BP.1 hb;rw [CU];rcases AT.1 h with h | h
   ·exact .inl (h.trans hb)
   ·rcases bL (p:=y) h with h1 | h1
    ·exact .inl (h1.trans hb)
    ·exact .inr h1
  | false=>
   rw [CV];rcases AT.1 h with h | h
   ·exact .inr (h ▸ AR ..)
   ·rcases bL (p:=y) h with h1 | h1
    ·exact .inr (h1 ▸ AR ..)
    ·exact .inr (AW _ h1)
theorem yQ {x:Int} {l:List Int} (h:x∈l):x∈GY l:=by
 cases l with
 | nil=>cases h
 | cons y r=>
  rw [GY];rcases AT.1 h with h | h
  ·exact h ▸ AR ..
  ·rcases bL (p:=y) h with h1 | h1
   ·exact h1 ▸ AR ..
   ·exact AW _ h1
theorem uJ {ts:LI} {f a:Int}:a∈G0 ts f↔∃ t∈ts,∃ w∈EA t,(CW w.toInt).lf=false∧(CW w.toInt).f=f∧(CW w.toInt).a=a:=by
 have e:a∈G0 ts f↔a∈GH ts f:=by
  unfold G0;exact ⟨fun h=>(N9 _).mem_iff.1 (lK h),fun h=>yQ ((N9 _).mem_iff.2 h)⟩
 rw [e];unfold GH;simp only [List.mem_flatMap];constructor
 ·rintro ⟨t,ht,w,hw,h⟩;unfold GS at h;cases hc:(!(CW w.toInt).lf&&(CW w.toInt).f==f) with
  | false=>rw [hc,CV] at h; cases h
  | true=>
   rw [hc,CU] at h;simp only [AG,BO,BP] at hc;exact ⟨t,ht,w,hw,hc.1,hc.2,(BJ.1 h).symm⟩
 ·rintro ⟨t,ht,w,hw,h1,h2,h3⟩;refine ⟨t,ht,w,hw,?_⟩;unfold GS;rw [h1,h2,CN];exact BJ.2 h3.symm
def R8 (m:Md) (s:Sp) (f:Int):Prop:=∀ a∈G0 m.ts f,¬ (s.lo≤a∧a < s.hi)
theorem Fy {lo hi a:Int} {l:List Int}:a∈HJ lo hi l↔a∈l∧lo≤a∧a < hi:=by
 unfold HJ;rw [List.mem_filter];simp only [BO,CM,BI];constructor
 ·rintro ⟨h,h1,h2⟩; exact ⟨h,by omega,by omega⟩
 ·rintro ⟨h,h1,h2⟩; exact ⟨h,by omega,by omega⟩
theorem IW {m:Md} {q:Qy} {b:Bx} {i:Nat} {a:Int}:a∈C7 m q b i↔0≤FW q (i:Int)∧a∈G0 m.ts (FW q (i:Int))∧(b.g i).lo≤a∧a < (b.g i).hi:=by
 unfold C7;cases hd:decide (FW q (i:Int) < 0) with
 | true=>
  have:=BC hd
  rw [CU];constructor
  ·intro h; cases h
  ·rintro ⟨h,_⟩; omega
 | false=>
  have:=A1 hd
  rw [CV,Fy];constructor
  ·intro h; exact ⟨by omega,h⟩
  ·exact fun h=>h.2
theorem m3 {m:Md} {q:Qy} {b:Bx} {i:Nat} (h:C7 m q b i=[]) (hf:0≤FW q (i:Int)):R8 m (b.g i) (FW q (i:Int)):=by
 intro a ha hr
 have:a∈C7 m q b i:=IW.2 ⟨hf,ha,hr⟩
 rw [h] at this;cases this
theorem cJ {q:Qy} {i:Nat} (hi:i < 4):FW q (i:Int)=(i:Int):=by
 unfold FW;rw [AE (show (i:Int)≥0 by omega),AE (show (i:Int) < 4 by omega)];rfl
theorem gW {l:LI} {p p':Pt} (h:∀ w∈l,EQ w.toInt=true→(CW w.toInt).lf=false→(p.g (CW w.toInt).f.toNat≤(CW w.toInt).a↔p'.g (CW w.toInt).f.toNat≤(CW w.toInt).a)):∀ (n:Nat) (a:Int),E0 l p n a=E0 l p' n a
 | 0,_=>rfl
 | n+1,a=>by
  rw [E0,E0];cases decide (a≥ic l.length) with
  | true=>rfl
  | false=>
   rw [CV,CV];by_cases hlt:a.toNat < l.length
   ·have hw:l.getD a.toNat default∈l:=by rw [VH hlt]; exact vaA hlt
    generalize l.getD a.toNat default=w at hw ⊢;cases hb:EQ w.toInt with
    | false=>rfl
    | true=>
     rw [BB,CV,CV];cases hl:(CW w.toInt).lf with
     | true=>rfl
     | false=>
      have:=h w hw hb hl
      have ed:decide (p.g (CW w.toInt).f.toNat≤(CW w.toInt).a)=decide (p'.g (CW w.toInt).f.toNat≤(CW w.toInt).a):=by
       rw [va5,AN,AN];exact this
      rw [CV,CV,ed,gW h n _,gW h n _]
   ·have e:l.getD a.toNat default=default:=by
     rw [BY,BF (by omega)];rfl
    rw [e];rfl
theorem Bo {m:Md} {b:Bx} (hf:∀ f:Nat,f < 4→R8 m (b.g f) (f:Int)) {u:IV} (hu:u∈m.ts) {p p':Pt} {t t':Int} (h:b.has p t=true) (h':b.has p' t'=true):FF (EA u) p'=FF (EA u) p:=by
 unfold FF VC;rw [gW (p:=p') (p':=p) fun w hw hb hl=>?_];obtain ⟨⟨f0,f4⟩,_⟩:=SH hb hl;have ef:(CW w.toInt).f=(((CW w.toInt).f.toNat:Nat):Int):=by omega
 have hlt:(CW w.toInt).f.toNat < 4:=by omega
 have h1:=J9.1 (KH.1 h _ (show (CW w.toInt).f.toNat < 5 by omega));have h2:=J9.1 (KH.1 h' _ (show (CW w.toInt).f.toNat < 5 by omega));rw [XL _ _ hlt] at h1 h2;have h3:=hf _ hlt (CW w.toInt).a (uJ.2 ⟨u,hu,w,hw,hl,ef,rfl⟩);omega
theorem WH {m:Md} {k:Int} {b:Bx} (h:FZ m k b=true) (hok:b.ok) (hf:∀ f:Nat,f < 4→R8 m (b.g f) (f:Int)) {p:Pt} {t:Int} (hh:b.has p t=true):F8 m k b=C1 m k p∧E7 m k b=C1 m k p:=
 Oe h hok hh fun _ hu _ _ h'=>Bo hf hu hh h'
theorem dR {m:Md} {c lo:Int} {b:Bx}:∀ (d:Nat) (i a:Int) (z:Bool),(0 < MX m c lo b d i a z↔(z=true∨∃ j:Nat,j < d∧i+j≠c)∧(z=true→0 < a)∧∀ j:Nat,j < d→i+j≠c→E7 m (i+j) b < lo)∨(z=false∧∀ j:Nat,j < d→i+j=c)
 | 0,i,a,z=>by
  cases z with
  | false=>exact .inr ⟨rfl,fun j hj=>absurd hj (Nat.not_lt_zero j)⟩
  | true=>
   refine .inl ?_;rw [MX];exact ⟨fun h=>⟨.inl rfl,fun _=>h,fun j hj=>absurd hj (Nat.not_lt_zero j)⟩,fun h=>h.2.1 rfl⟩
 | d+1,i,a,z=>by
  rw [MX];have sh:∀ j:Nat,i+1+(j:Int)=i+((j+1:Nat):Int):=fun j=>by omega
  cases hc:(i==c) with
  | true=>
   have hc:=BP.1 hc;rw [CU];rcases dR (m:=m) (c:=c) (lo:=lo) (b:=b) d (i+1) a z with h | ⟨h1,h2⟩
   ·refine .inl (h.trans ?_);constructor
    ·rintro ⟨q1,q2,q3⟩;refine ⟨q1.imp_right ?_,q2,fun j hj hne=>?_⟩
     ·rintro ⟨j,hj,hne⟩; exact ⟨j+1,by omega,by rw [← sh j]; exact hne⟩
     ·cases j with
      | zero=>exact absurd (by simpa using hc) hne
      | succ j=>rw [← sh j] at hne ⊢; exact q3 j (by omega) hne
    ·rintro ⟨q1,q2,q3⟩;refine ⟨q1.imp_right ?_,q2,fun j hj hne=>?_⟩
     ·rintro ⟨j,hj,hne⟩;cases j with
      | zero=>exact absurd (by simpa using hc) hne
      | succ j=>exact ⟨j,by omega,by rw [sh j]; exact hne⟩
     ·rw [sh j] at hne ⊢; exact q3 (j+1) (by omega) hne
   ·refine .inr ⟨h1,fun j hj=>?_⟩;cases j with
    | zero=>simpa using hc
    | succ j=>rw [← sh j]; exact h2 j (by omega)
  | false=>
   have hc:i≠c:=fun e=>by rw [e,CN] at hc; cases hc
   rw [CV];refine .inl ?_;have key:∀ (a':Int),(0 < a'↔(z=true→0 < a)∧E7 m i b < lo)→(0 < MX m c lo b d (i+1) a' true↔(z=true∨∃ j:Nat,j < d+1∧i+(j:Int)≠c)∧(z=true→0 < a)∧∀ j:Nat,j < d+1→i+(j:Int)≠c→E7 m (i+j) b < lo):=fun a' ha'=>by
    rcases dR (m:=m) (c:=c) (lo:=lo) (b:=b) d (i+1) a' true with h | ⟨h1,_⟩
    ·rw [h];constructor
     ·rintro ⟨_,q2,q3⟩;obtain ⟨r1,r2⟩:=ha'.1 (q2 rfl);refine ⟨.inr ⟨0,by omega,by simpa using hc⟩,r1,fun j hj hne=>?_⟩;cases j with
      | zero=>simpa using r2
      | succ j=>rw [← sh j] at hne ⊢; exact q3 j (by omega) hne
     ·rintro ⟨_,q2,q3⟩;have r2:=q3 0 (by omega) (by simpa using hc);refine ⟨.inl rfl,fun _=>ha'.2 ⟨q2,by simpa using r2⟩,fun j hj hne=>?_⟩;rw [sh j] at hne ⊢;exact q3 (j+1) (by omega) hne
    ·cases h1
   cases z with
   | false=>
    rw [BX,Bool.true_or,CU];exact key _ ⟨fun h=>⟨fun h=>(by cases h),by omega⟩,fun h=>by have:=h.2; omega⟩
   | true=>
    rw [BB,Bool.false_or];cases hd:decide (lo - E7 m i b < a) with
    | true=>
     have hd:=BC hd;rw [CU];exact key _ ⟨fun h=>⟨fun _=>by omega,by omega⟩,fun h=>by have:=h.2; omega⟩
    | false=>
     have hd:=A1 hd;rw [CV];exact key _ ⟨fun h=>⟨fun _=>h,by omega⟩,fun h=>h.1 rfl⟩
theorem oN {m:Md} {c:Int} {b:Bx} (h:LJ m c b=true):0 < O4 m c b↔∀ j:Nat,(j:Int) < m.c→(j:Int)≠c→E7 m (j:Int) b < F8 m c b:=by
 have h0:=h;unfold LJ at h0;rw [AG,AN] at h0;obtain ⟨hs,h2⟩:=h0;have hc:=lG (fS hs).2.1;unfold O4;rw [h,CU];rcases dR (m:=m) (c:=c) (lo:=F8 m c b) (b:=b) m.c.toNat 0 0 false with h1 | ⟨_,h1⟩
 ·rw [h1];simp only [Int.zero_add];constructor
  ·rintro ⟨_,_,q⟩ j hj hne;exact q j (by omega) hne
  ·intro q;refine ⟨.inr ?_,fun h=>(by cases h),fun j hj hne=>q j (by omega) hne⟩;by_cases e:c=0
   ·exact ⟨1,by omega,by omega⟩
   ·exact ⟨0,by omega,by omega⟩
 ·have q0:=h1 0 (by omega);have q1:=h1 1 (by omega);omega
theorem Mu (p:Pt) (x t:Int):∀ {f i:Nat},f < 4→i < 5→co (p.p x f) t i=if i=f then x else co p t i
 | 0,0,_,_=>rfl
 | 0,1,_,_=>rfl
 | 0,2,_,_=>rfl
 | 0,3,_,_=>rfl
 | 0,4,_,_=>rfl
 | 1,0,_,_=>rfl
 | 1,1,_,_=>rfl
 | 1,2,_,_=>rfl
 | 1,3,_,_=>rfl
 | 1,4,_,_=>rfl
 | 2,0,_,_=>rfl
 | 2,1,_,_=>rfl
 | 2,2,_,_=>rfl
 | 2,3,_,_=>rfl
 | 2,4,_,_=>rfl
 | 3,0,_,_=>rfl
 | 3,1,_,_=>rfl
 | 3,2,_,_=>rfl
 | 3,3,_,_=>rfl
 | 3,4,_,_=>rfl
 | f+4,_,h,_=>absurd h (by omega)
 | _,i+5,_,h=>absurd h (by omega)
theorem lO (p:Pt) (t t':Int):∀ {i:Nat},i < 4→co p t i=co p t' i
 | 0,_=>rfl
 | 1,_=>rfl
 | 2,_=>rfl
 | 3,_=>rfl
 | i+4,h=>absurd h (by omega)
theorem mX {q:Qy} {b:Bx} (hp:EZ q=true) {p:Pt} {t:Int} (h:b.has p t=true):(H8 q b).has p 0=true:=by
 rw [KH] at h ⊢;intro i hi;unfold H8;rw [hp,CU,H5 _ _ (by omega) hi];by_cases e:i=4
 ·subst e;rw [A6 rfl];rfl
 ·rw [AX e,lO p 0 t (by omega)];exact h i hi
theorem r7 {q:Qy} {b:Bx} (hp:EZ q=true) {p:Pt} {t:Int} (h:b.has p t=true):(ID q b).has (FO q p t) 0=true:=by
 have hf:q.ft.toNat < 4:=by rcases N6 hp with e | e | e | e <;> rw [e] <;> decide
 rw [KH] at h ⊢;intro i hi;unfold ID FO;rw [hp,CU,CU,H5 _ _ (by omega) hi];by_cases e:i=4
 ·subst e;rw [A6 rfl]
  have:co (p.p t q.ft.toNat) 0 4=0:=rfl
  rw [this];rfl
 ·rw [AX e,H5 _ _ (by omega) hi,Mu p t 0 hf hi];by_cases e2:i=q.ft.toNat
  ·rw [A6 e2,A6 e2];exact h 4 (by omega)
  ·rw [AX e2,AX e2,lO p 0 t (by omega)];exact h i hi
theorem mY {q:Qy} {b:Bx} (hb:b.ok):(H8 q b).ok:=by
 unfold H8;cases EZ q with
 | true=>exact V5 (s:=⟨0,0⟩) (i:=4) hb (show (0:Int)≤2147483647 by omega) (by omega)
 | false=>exact hb
theorem r8 {q:Qy} {b:Bx} (hb:b.ok):(ID q b).ok:=by
 unfold ID;cases hp:EZ q with
 | true=>
  have hf:q.ft.toNat < 5:=by rcases N6 hp with e | e | e | e <;> rw [e] <;> decide
  exact V5 (s:=⟨0,0⟩) (i:=4) (V5 hb (hb 4 (by omega)) hf) (show (0:Int)≤2147483647 by omega) (by omega)
 | false=>exact hb
theorem XJ {m:Md} {k:Int} (h0:0≤k) (h1:k < m.c):GA m k=true:=by
 unfold GA;rw [AE h0,AE h1];rfl
theorem PD {m:Md} {k:Int} {b:Bx} (hm:DR m=true) (hk:GA m k=true) (hb:b.emp=false):FZ m k b=true:=by
 unfold FZ;rw [hm,hk,hb];rfl
theorem pT {m:Md} {q:Qy} (hm:DR m=true) (hk:q.k=3) (hf:0≤q.ft∧q.ft < m.d):EZ q=true:=by
 have:=(H9 hm).1
 unfold EZ;rw [hk,AE (show q.ft≥0 by omega),AE (show q.ft < 4 by omega)];rfl
theorem pJ {m:Md} {q:Qy} {p:Pt} {own:Int}:Q4 m q p own=true↔∃ j:Nat,(j:Int) < m.c∧(j:Int)≠q.c∧C1 m (j:Int) p≥own:=by
 unfold Q4;rw [List.any_eq_true];constructor
 ·rintro ⟨c,hc,h⟩;simp only [AG,BO,BN,AN] at h;exact ⟨c,by have:=List.mem_range.1 hc; omega,h.1,h.2⟩
 ·rintro ⟨j,h1,h2,h3⟩;refine ⟨j,List.mem_range.2 (by omega),?_⟩;simp only [AG,BO,BN,AN];exact ⟨h2,h3⟩
theorem lF {m:Md} {q:Qy} {b:Bx} (hok:b.ok) (hc:EX m q b=true) {p:Pt} {t:Int} (hh:b.has p t=true):EJ m q p t=false:=by
 unfold EX at hc;rw [AG] at hc;obtain ⟨hr,hc⟩:=hc;obtain ⟨hm,⟨c0,c1⟩,_,_,hk⟩:=M5 hr;have hb:=RV hh;have hcl:=XJ c0 c1;have hs:=PD hm hcl hb;rw [hb,CV] at hc;unfold EJ;rw [hr,BL];rcases YI hk with ⟨e,_⟩ | ⟨e,h2,_⟩ | ⟨e,hf,_⟩
 ·rw [e] at hc ⊢;replace hc:(FZ m q.c b&&(decide (q.lo≤F8 m q.c b)&&decide (E7 m q.c b≤q.hi)))=true:=hc;simp only [AG,AN] at hc
  have:=SV hs hok hh
  show (!(Sp.has ⟨q.lo,q.hi⟩ (C1 m q.c p)))=false;rw [Bool.not_eq_false',J9];exact ⟨by show q.lo≤_; omega,by show _≤q.hi; omega⟩
 ·rw [e] at hc ⊢;replace hc:(LJ m q.c b&&decide (O4 m q.c b > 0))=true:=hc;rw [AG,AN] at hc;have hall:=(oN hc.1).1 hc.2;show Q4 m q p (C1 m q.c p)=false;cases ho:Q4 m q p (C1 m q.c p) with
  | false=>rfl
  | true=>
   obtain ⟨j,h3,h4,h5⟩:=pJ.1 ho;have h6:=hall j h3 h4;have h7:=SV hs hok hh;have h8:=SV (PD hm (XJ (k:=(j:Int)) (by omega) h3) hb) hok hh;omega
 ·rw [e] at hc ⊢;have hp:=pT hm e hf;have hf5:q.ft.toNat < 4:=by rcases N6 hp with e | e | e | e <;> rw [e] <;> decide
  replace hc:cond (!(L8 q b)) true (cond q.fl (JE m q b&&decide (OW m q b≤0)) (JE m q b&&decide (OX m q b≥0)))=true:=hc;show cond (decide (p.g q.ft.toNat≥t)) false _=false;cases hd:decide (p.g q.ft.toNat≥t) with
  | true=>rfl
  | false=>
   have hd:=A1 hd;have h1:=J9.1 (KH.1 hh q.ft.toNat (by omega));have h2:=J9.1 (KH.1 hh 4 (by omega));rw [XL p t hf5] at h1;have ho:L8 q b=true:=by
    unfold L8;rw [hp,hb,AE]
    ·rfl
    ·have h2':t≤b.s4.hi:=h2.2;omega
   rw [ho,BB,CV] at hc;have f1:=mX (b:=b) hp hh;have f2:=r7 (b:=b) hp hh;have s1:=SV (PD hm hcl (RV f1)) (mY hok) f1;have s2:=SV (PD hm hcl (RV f2)) (r8 hok) f2;rw [CV];cases hfl:q.fl with
   | true=>
    rw [hfl,CU,AG,AN] at hc;rw [CU,BI];have h3:=hc.2;unfold OW at h3;rw [hc.1,CU] at h3;omega
   | false=>
    rw [hfl,CV,AG,AN] at hc;rw [CV,BI];have h3:=hc.2;unfold OX at h3;rw [hc.1,CU] at h3;omega
theorem k9 {m:Md} {q:Qy} {b:Bx} (hr:DQ m q=true) (hb:b.emp=false) (hok:b.ok) (hn:∀ i,i < 5→C7 m q b i=[]):EX m q b=true∨EJ m q b.low b.s4.hi=true:=by
 obtain ⟨hm,⟨c0,c1⟩,_,_,hk⟩:=M5 hr;have hcl:=XJ c0 c1;have hs:=PD hm hcl hb;have hh:=RU b hb;have hfl:∀ f:Nat,f < 4→R8 m (b.g f) (f:Int):=fun f hf=>by
  have:=m3 (hn f (by omega)) (by rw [cJ hf]; omega)
  rwa [cJ hf] at this
 unfold EX EJ;rw [hr,hb,BL,BL,CV];rcases YI hk with ⟨e,_⟩ | ⟨e,h2,_⟩ | ⟨e,hf,_⟩
 ·rw [e];obtain ⟨q1,q2⟩:=WH hs hok hfl hh;show (FZ m q.c b&&(decide (q.lo≤F8 m q.c b)&&decide (E7 m q.c b≤q.hi)))=true∨(!(Sp.has ⟨q.lo,q.hi⟩ (C1 m q.c b.low)))=true;rw [hs,q1,q2,BL];unfold Sp.has;cases (decide (q.lo≤C1 m q.c b.low)&&decide (C1 m q.c b.low≤q.hi)) with
  | true=>exact .inl rfl
  | false=>exact .inr rfl
 ·rw [e];show (LJ m q.c b&&decide (O4 m q.c b > 0))=true∨Q4 m q b.low (C1 m q.c b.low)=true;have hg:LJ m q.c b=true:=by unfold LJ; rw [hs,AE (show m.c≥2 from h2)]; rfl
  rw [hg,BL];cases ho:Q4 m q b.low (C1 m q.c b.low) with
  | true=>exact .inr rfl
  | false=>
   refine .inl (AE ((oN hg).2 fun j hj hne=>?_));have q1:=(WH hs hok hfl hh).1;have q2:=(WH (PD hm (XJ (k:=(j:Int)) (by omega) hj) hb) hok hfl hh).2;have q3:¬ C1 m (j:Int) b.low≥C1 m q.c b.low:=fun h=>by
    rw [pJ.2 ⟨j,hj,hne,h⟩] at ho;cases ho
   omega
 ·rw [e];have hp:=pT hm e hf;have hf5:q.ft.toNat < 4:=by rcases N6 hp with e | e | e | e <;> rw [e] <;> decide
  have ef:q.ft=((q.ft.toNat:Nat):Int):=by omega
  show cond (!(L8 q b)) true (cond q.fl (JE m q b&&decide (OW m q b≤0)) (JE m q b&&decide (OX m q b≥0)))=true∨cond (decide (b.low.g q.ft.toNat≥b.s4.hi)) false (cond q.fl (decide (C1 m q.c (FO q b.low b.s4.hi) > C1 m q.c b.low)) (decide (C1 m q.c (FO q b.low b.s4.hi) < C1 m q.c b.low)))=true;cases ho:L8 q b with
  | false=>exact .inl rfl
  | true=>
   have hlt:b.low.g q.ft.toNat < b.s4.hi:=by
    unfold L8 at ho;simp only [AG,AN] at ho;have h1:=ho.2.2
    have:b.low.g q.ft.toNat=(b.g q.ft.toNat).lo:=by
     match q.ft.toNat,hf5 with
     | 0,_=>rfl
     | 1,_=>rfl
     | 2,_=>rfl
     | 3,_=>rfl
     | n+4,h=>exact absurd h (by omega)
    omega
   have f1:=mX (b:=b) hp hh;have f2:=r7 (b:=b) hp hh;have k1:=PD hm hcl (RV f1);have k2:=PD hm hcl (RV f2);have fl1:∀ f:Nat,f < 4→R8 m ((H8 q b).g f) (f:Int):=fun f hf=>by
    unfold H8;rw [hp,CU,H5 _ _ (by omega) (by omega),AX (by omega)];exact hfl f hf
   have fl2:∀ f:Nat,f < 4→R8 m ((ID q b).g f) (f:Int):=fun f hf=>by
    unfold ID;rw [hp,CU,H5 _ _ (by omega) (by omega),AX (by omega),H5 _ _ (by omega) (by omega)];by_cases e2:f=q.ft.toNat
    ·rw [A6 e2];have e4:FW q ((4:Nat):Int)=q.ft:=by unfold FW; rw [e]; rfl
     have:=m3 (hn 4 (by omega)) (by rw [e4]; omega)
     rw [e4,ef,← e2] at this;exact this
    ·rw [AX e2];exact hfl f hf
   obtain ⟨q1,q2⟩:=WH k1 (mY hok) fl1 f1;obtain ⟨q3,q4⟩:=WH k2 (r8 hok) fl2 f2;have hch:JE m q b=true:=by unfold JE; rw [hp,k1,k2]; rfl
   rw [BB,CV,hch,BL,BL,AJ (show ¬ b.low.g q.ft.toNat≥b.s4.hi by omega),CV];unfold OW OX;rw [hch,CU,CU,q1,q2,q3,q4];cases q.fl with
   | true=>
    rw [CU,CU];by_cases hd:C1 m q.c (FO q b.low b.s4.hi) > C1 m q.c b.low
    ·exact .inr (AE hd)
    ·exact .inl (AE (by omega))
   | false=>
    rw [CV,CV];by_cases hd:C1 m q.c (FO q b.low b.s4.hi) < C1 m q.c b.low
    ·exact .inr (AE hd)
    ·exact .inl (AE (by omega))
theorem sY {m:Md} {q:Qy} {b:Bx}:∀ (d i:Nat),(IM m q b d i).isSome=false→∀ j,i≤j→j < i+d→C7 m q b j=[]
 | 0,i,_,j,h1,h2=>by omega
 | d+1,i,h,j,h1,h2=>by
  rw [IM] at h;cases hc:decide ((C7 m q b i).length > 0) with
  | true=>rw [hc,CU] at h; cases h
  | false=>
   rw [hc,CV] at h;have hc:=A1 hc;by_cases e:j=i
   ·subst e;exact List.length_eq_zero_iff.1 (by omega)
   ·exact sY d (i+1) h j (by omega) (by omega)
theorem Rj {m:Md} {q:Qy} {b:Bx} (h:(DV m q b).isSome=false):∀ i,i < 5→C7 m q b i=[]:=fun i hi=>sY 5 0 h i (B7 _) (by omega)
theorem sZ {m:Md} {q:Qy} {b:Bx}:∀ (d i:Nat),(IM m q b d i).isSome=true→∃ j:Nat,i≤j∧j < i+d∧HO (IM m q b d i)=(j:Int)∧0 < (C7 m q b j).length∧GC (IM m q b d i)=(C7 m q b j).getD (((C7 m q b j).length - 1) / 2) 0∧∀ k,i≤k→k < j→C7 m q b k=[]
 | 0,i,h=>by rw [IM] at h; cases h
 | d+1,i,h=>by
  rw [IM] at h ⊢;cases hc:decide ((C7 m q b i).length > 0) with
  | true=>exact ⟨i,AO _,by omega,rfl,BC hc,rfl,fun k h1 h2=>absurd h1 (by omega)⟩
  | false=>
   rw [hc,CV] at h;rw [CV];have hc:=A1 hc;obtain ⟨j,h1,h2,h3,h4,h5,h6⟩:=sZ d (i+1) h;refine ⟨j,by omega,by omega,h3,h4,h5,fun k hk1 hk2=>?_⟩;by_cases e:k=i
   ·subst e;exact List.length_eq_zero_iff.1 (by omega)
   ·exact h6 k (by omega) hk2
theorem ZU {m:Md} {q:Qy} {b:Bx} (h:(DV m q b).isSome=true):∃ j:Nat,j < 5∧HO (DV m q b)=(j:Int)∧0 < (C7 m q b j).length∧GC (DV m q b)=(C7 m q b j).getD (((C7 m q b j).length - 1) / 2) 0∧GC (DV m q b)∈C7 m q b j:=by
 obtain ⟨j,_,h2,h3,h4,h5,_⟩:=sZ 5 0 h;refine ⟨j,by omega,h3,h4,h5,?_⟩;have hlt:((C7 m q b j).length - 1) / 2 < (C7 m q b j).length:=by omega
 have:GC (DV m q b)=(C7 m q b j)[((C7 m q b j).length - 1) / 2]:=by
  refine Eq.trans h5 ?_;simp [hlt]
 rw [this];exact vaA hlt
open Go
def Bx.good (b:Bx):Prop:=∀ i,i < 5 → -2147483648≤(b.g i).lo∧(b.g i).lo≤(b.g i).hi∧(b.g i).hi≤2147483647
theorem Bx.good.emp {b:Bx} (h:b.good):b.emp=false:=a8.2 fun i hi=>(h i hi).2.1
theorem Bx.good.ok {b:Bx} (h:b.good):b.ok:=fun i hi=>(h i hi).2.2
def Sp.good (s:Sp):Prop := -2147483648≤s.lo∧s.lo≤s.hi∧s.hi≤2147483647
theorem eX {b:Bx} (hb:b.good) {s:Sp} (hs:s.good) {i:Nat} (hi:i < 5):(b.p s i).good:=by
 intro j hj;rw [H5 b s hi hj];by_cases h:j=i
 ·rw [A6 h]; exact hs
 ·rw [AX h]; exact hb j hj
theorem sU {lo hi:Int} (h0 : -2147483648≤lo) (h1:lo≤hi) (h2:hi≤2147483647):(HB lo hi).good:=by
 unfold HB;rw [AJ (by omega),CV];exact ⟨h0,h1,h2⟩
theorem bQ {b:Bx} (hb:b.good) {i:Nat} (hi:i < 5) {a:Int} (h1:(b.g i).lo≤a) (h2:a < (b.g i).hi):(b.cutL (i:Int) a).good:=by
 unfold Bx.cutL;rw [A0];have h:=hb i hi;refine eX hb (sU h.1 ?_ ?_) hi <;> omega
theorem XO {b:Bx} (hb:b.good) {i:Nat} (hi:i < 5) {a:Int} (h1:(b.g i).lo≤a) (h2:a < (b.g i).hi):(b.cutH (i:Int) a).good:=by
 unfold Bx.cutH;rw [A0];have h:=hb i hi;have e:C6 (a+1)=a+1:=DX (by omega) (by omega);refine eX hb ?_ hi;unfold Sp.cutH;rw [AJ (by omega),CV,e];exact sU (by omega) (by omega) h.2.2
theorem WL {d i:Int} {s:Sp} (h:FP d i s=true):s.good:=by
 unfold FP at h;simp only [AG,BO,DZ,Sp.emp,AN,BI] at h;obtain ⟨_,h1,h2,h3⟩:=h;exact ⟨h2.1,by omega,h3.2⟩
theorem SS {m:Md} {q:Qy} (h:DQ m q=true):DR m=true∧(0≤q.c∧q.c < m.c)∧(0≤q.bu∧q.bu≤65536)∧MA q.bx m.d=true∧JZ m q=true:=by
 unfold DQ at h;simp only [AG,AN] at h;exact ⟨h.1,⟨h.2.1,h.2.2.1⟩,⟨h.2.2.2.1,h.2.2.2.2.1⟩,h.2.2.2.2.2.1,h.2.2.2.2.2.2⟩
theorem Nc {b:Bx} {d:Int} (h:MA b d=true):b.good:=by
 unfold MA at h;simp only [AG] at h;intro i hi
 match i,hi with
 | 0,_=>exact WL h.1
 | 1,_=>exact WL h.2.1
 | 2,_=>exact WL h.2.2.1
 | 3,_=>exact WL h.2.2.2.1
 | 4,_=>exact WL h.2.2.2.2
 | n+5,hi=>omega
theorem SY {m:Md} {q:Qy} (h:DQ m q=true):(DL q).good:=by
 have hb:=Nc (SS h).2.2.2.1;unfold DL;refine eX hb ?_ (by omega);cases hp:EZ q with
 | false=>rw [CV]; exact ⟨by decide,by decide,by decide⟩
 | true=>
  rw [CU];unfold EZ at hp;simp only [AG,AN] at hp;exact hb q.ft.toNat (by omega)
def SF (s:Sr):Prop:=∀ x∈s.left,(C9 x).good
theorem WS {s:Sr} (h:SF s) (hl:0 < s.left.length):(C3 s.left).good:=by
 unfold C3;refine h _ ?_;rw [BY,AV (by omega)];exact vaA _
theorem Gw {m:Md} {q:Qy} (h:DQ m q=true):SF ⟨[(DL q).I],[],Vd.none,0⟩:=by
 intro x hx;obtain rfl:=BJ.1 hx;rw [FG];exact SY h
theorem gJ {m:Md} {q:Qy} {s:Sr} (hr:DQ m q=true) (hg:SF s) (hl:0 < s.left.length) (h1:EX m q (C3 s.left)=false) (h2:EJ m q (C3 s.left).low (C3 s.left).s4.hi=false) :
  (DV m q (C3 s.left)).isSome=true:=by
 have ht:=WS hg hl;cases hs:(DV m q (C3 s.left)).isSome with
 | true=>rfl
 | false=>
  rcases k9 hr ht.emp ht.ok (Rj hs) with h | h
  ·rw [h1] at h; cases h
  ·rw [h2] at h; cases h
theorem V9 {l:LI} {x:IV} (h:x∈E5 l):x∈l:=List.mem_of_mem_take h
theorem Rt {m:Md} {q:Qy} {s:Sr} (hg:SF s) (hl:0 < s.left.length):SF (EB m q s):=by
 have hp:∀ x∈E5 s.left,(C9 x).good:=fun x hx=>hg x (V9 hx)
 unfold EB;cases EX m q (C3 s.left) with
 | true=>exact hp
 | false=>
  cases EJ m q (C3 s.left).low (C3 s.left).s4.hi with
  | true=>exact hp
  | false=>
   cases hs:(DV m q (C3 s.left)).isSome with
   | false=>exact hp
   | true=>
    obtain ⟨j,hj,ei,_,_,hm⟩:=ZU hs;have hc:=IW.1 hm;have ht:=WS hg hl;intro x hx;rw [CV,CV,CU] at hx;rcases AQ.1 hx with hx | hx
    ·exact hp x hx
    ·rw [ei] at hx;rcases AT.1 hx with rfl | hx
     ·rw [FG]; exact XO ht hj hc.2.2.1 hc.2.2.2
     ·obtain rfl:=BJ.1 hx;rw [FG]; exact bQ ht hj hc.2.2.1 hc.2.2.2
theorem PM (n lo hi:Int) (h:lo≤hi) (h0 : -2000000000000000000≤lo) (h1:hi≤2000000000000000000):lo≤C2 n lo hi∧C2 n lo hi≤hi:=
 (H1 (n:=n) (lo:=lo) (hi:=hi) (by omega) (by omega) (by omega)).2
theorem iI (f:Ft):DR f.M=true:=Gt _ _ _ _
theorem wZ (f:Ft):Y5 f.M=true:=by
 have hd:1≤f.M.d∧f.M.d≤3:=VA f.d;have hc:1≤f.M.c∧f.M.c≤3:=XI f.c;unfold Y5;rw [AE hd.1,AE (show f.M.d≤4 by omega),AE hc.1,AE hc.2];rfl
theorem ZF (d:Int) (l:LI) (i:Nat):FP d (i:Int) ⟨ET d l (i:Int),EU d l (i:Int)⟩=true:=by
 have h1:=PM (DS l (2*(i:Int))) (-2) 9 (by omega) (by omega) (by omega);have h2:=PM (DS l (2*(i:Int)+1)) 0 11 (by omega) (by omega) (by omega);unfold FP Sp.emp ET EU DZ;by_cases h:(i:Int) < d
 ·rw [AE h,CU,CU,AJ (show ¬ (i:Int)≥d by omega)];simp only [B5,BX,BL,AG,BO,AN,BI];omega
 ·rw [AJ h,CV,CV];simp
theorem Fz (a:Ak) (c:Int):GG a c=1∨(GG a c=2∧2≤c)∨GG a c=3:=by
 have h:=PM a.k 1 3 (by omega) (by omega) (by omega);unfold GG;cases h2:(C2 a.k 1 3==2) with
 | true=>
  have h2':C2 a.k 1 3=2:=by simpa using h2
  by_cases hc:c < 2
  ·rw [AE hc]; exact .inl rfl
  ·rw [AJ hc]; exact .inr (.inl ⟨h2',by omega⟩)
 | false=>
  have h2':C2 a.k 1 3≠2:=by simpa using h2
  rw [B5,CV];omega
theorem xP (f:Ft) (a:Ak) {w:Int} (h0:0≤w) (h1:w≤65536):DQ f.M ((E8 a f.M).bud w)=true:=by
 have hd:1≤f.M.d∧f.M.d≤3:=VA f.d;have hc:1≤f.M.c∧f.M.c≤3:=XI f.c;have hm:=iI f;generalize f.M=m at hd hc hm ⊢;have hcl:=PM a.c 0 (m.c - 1) (by omega) (by omega) (by omega);have hlo:=PM a.size 0 18000 (by omega) (by omega) (by omega);have hft:=PM a.ft 0 (m.d - 1) (by omega) (by omega) (by omega);have hreg:MA ((E8 a m).bud w).bx m.d=true:=by
  unfold MA;simp only [AG];refine ⟨ZF m.d a.sp 0,ZF m.d a.sp 1,ZF m.d a.sp 2,ZF m.d a.sp 3,?_⟩;show FP m.d 4 ⟨0,0⟩=true;unfold FP;simp [Sp.emp,DZ]
 have hkind:JZ m ((E8 a m).bud w)=true:=by
  unfold JZ;show cond (GG a m.c==1) (decide (cond (GG a m.c==1) (L5 a) 0≤cond (GG a m.c==1) (L5 a+C2 a.size 0 18000) 0)&&((cond (GG a m.c==3) (C2 a.ft 0 (m.d - 1)) 0==0)&&!(cond (GG a m.c==3) a.fl false)))
   (cond (GG a m.c==2) (decide (m.c≥2)&&((cond (GG a m.c==1) (L5 a) 0==0)&&((cond (GG a m.c==1) (L5 a+C2 a.size 0 18000) 0==0)&&((cond (GG a m.c==3) (C2 a.ft 0 (m.d - 1)) 0==0)&&!(cond (GG a m.c==3) a.fl false)))))
    (cond (GG a m.c==3) (decide (cond (GG a m.c==3) (C2 a.ft 0 (m.d - 1)) 0≥0)&&(decide (cond (GG a m.c==3) (C2 a.ft 0 (m.d - 1)) 0 < m.d)&&((cond (GG a m.c==1) (L5 a) 0==0)&&(cond (GG a m.c==1) (L5 a+C2 a.size 0 18000) 0==0)))) false))=true
  rcases Fz a m.c with h | ⟨h,h2⟩ | h
  ·rw [h];show (decide (L5 a≤L5 a+C2 a.size 0 18000)&&true)=true;rw [AE (by omega)]; rfl
  ·rw [h];show (decide (m.c≥2)&&true)=true;rw [AE h2]; rfl
  ·rw [h];show (decide (C2 a.ft 0 (m.d - 1)≥0)&&(decide (C2 a.ft 0 (m.d - 1) < m.d)&&true))=true;rw [AE hft.1,AE (by omega)]; rfl
 unfold DQ;rw [hm,hreg,hkind,AE (show ((E8 a m).bud w).c≥0 from hcl.1),AE (show ((E8 a m).bud w).c < m.c by show C2 a.c 0 (m.c - 1) < m.c; omega),AE (show ((E8 a m).bud w).bu≥0 from h0),AE (show ((E8 a m).bud w).bu≤65536 from h1)];rfl
open Go
abbrev gY (x:IV):Int:=cI x 0
def gZ (x:IV):Bx:=⟨⟨cI x 1,cI x 2⟩,⟨cI x 3,cI x 4⟩,⟨cI x 5,cI x 6⟩,⟨cI x 7,cI x 8⟩,⟨cI x 9,cI x 10⟩⟩
structure En where
 todo:LI
 lo:Int
 hi:Int
 any:Bool
def L0 (l:LI):IV:=l.getD (l.length - 1) default
structure EnI (l:LI) (b:Bx) (e:En):Prop where
 at_:∀ (j:Nat) (x:IV),e.todo[j]?=some x→(j:Int)≤gY x∧gY x < ic l.length
 ok:∀ x∈e.todo,(gZ x).ok
 val:∀ x∈e.todo,∀ p t,(gZ x).has p t=true→b.has p t=true∧FF l p=OB l p (gY x).toNat
 all:∀ p t,b.has p t=true→(∃ x∈e.todo,(gZ x).has p t=true)∨(e.any=true∧e.lo≤FF l p∧FF l p≤e.hi)
 lo:e.any=true→∃ p t,b.has p t=true∧FF l p=e.lo
 hi:e.any=true→∃ p t,b.has p t=true∧FF l p=e.hi
theorem pZ {l:LI} {j:Nat} {x:IV} (h:(E5 l)[j]?=some x):l[j]?=some x:=by
 unfold E5 at h;rw [CJ] at h;split at h
 ·exact h
 ·cases h
theorem Z7 {l:LI} (hl:0 < l.length):L0 l∈l∧l[l.length - 1]?=some (L0 l):=by
 unfold L0;rw [BY,AV (by omega)];exact ⟨vaA _,rfl⟩
theorem Q5 (l:LI):(E5 l).length=l.length - 1:=by
 unfold E5;rw [A7]; omega
theorem EnI.depth {l:LI} (ht:TreeOK l) {b:Bx} {e:En} (h:EnI l b e):e.todo.length≤31:=by
 by_cases hc:e.todo.length≤31
 ·exact hc
 ·obtain ⟨x,hx⟩:∃ x,e.todo[31]?=some x:=⟨_,AV (by omega)⟩
  have:=h.at_ 31 x hx
  have h2:=ht.len.2;simp only [ic] at this;omega
open Go
theorem fA:∀ {l:LI} {st st':LI × LI} {x:IV},J4 l st=some st'→J4 (l++[x]) st=L9 st' x
 | [],st,st',x,h=>by
  obtain rfl:=B3 h;rw [vaX,J4];cases L9 st x <;> rfl
 | y :: r,st,st',x,h=>by
  rw [vap,J4];rw [J4] at h;cases hs:L9 st y with
  | none=>rw [hs] at h; cases h
  | some s1=>rw [hs] at h; exact fA h
theorem bU:∀ {l:LI} {st st':Int × Int} {x:IV},JG l st=some st'→JG (l++[x]) st=K9 st' x
 | [],st,st',x,h=>by
  obtain rfl:=B3 h;rw [vaX,JG];cases K9 st x <;> rfl
 | y :: r,st,st',x,h=>by
  rw [vap,JG];rw [JG] at h;cases hs:K9 st y with
  | none=>rw [hs] at h; cases h
  | some s1=>rw [hs] at h; exact bU h
def I2 (m:Md) (q:Qy) (b:Bx):Nat:=(C7 m q b 0).length+(C7 m q b 1).length+(C7 m q b 2).length+(C7 m q b 3).length+(C7 m q b 4).length
theorem mT {α:Type} {p q:α→Bool}:∀ {l:List α},(∀ x∈l,p x=true→q x=true)→(l.filter p).length≤(l.filter q).length
 | [],_=>AO _
 | x :: l,h=>by
  have ih:=mT (l:=l) (p:=p) (q:=q) fun y hy=>h y (AW _ hy)
  have hx:=h x (AR ..);rw [vaU,vaU];cases hp:p x with
  | true=>rw [hx hp,A6 rfl,A6 rfl]; simp only [AP]; omega
  | false=>
   rw [AX (by decide)];cases q x with
   | true=>rw [A6 rfl]; simp only [AP]; omega
   | false=>rw [AX (by decide)]; exact ih
theorem mU {α:Type} {p q:α→Bool} {a:α}:∀ {l:List α},a∈l→p a=false→q a=true→(∀ x∈l,p x=true→q x=true)→(l.filter p).length < (l.filter q).length
 | [],h,_,_,_=>by cases h
 | x :: l,hm,h1,h2,h=>by
  have hx:=h x (AR ..);have hr:=fun y hy=>h y (AW _ hy)
  rw [vaU,vaU];rcases AT.1 hm with rfl | hm
  ·rw [h1,h2,AX (by decide),A6 rfl]
   have:=mT hr
   simp only [AP]; omega
  ·have ih:=mU hm h1 h2 hr;cases hp:p x with
   | true=>rw [hx hp,A6 rfl,A6 rfl]; simp only [AP]; omega
   | false=>
    rw [AX (by decide)];cases q x with
    | true=>rw [A6 rfl]; simp only [AP]; omega
    | false=>rw [AX (by decide)]; exact ih
theorem R3 {m:Md} {q:Qy} {b c:Bx} {i:Nat} (h:c.g i=b.g i):C7 m q c i=C7 m q b i:=by unfold C7; rw [h]
theorem lX {m:Md} {q:Qy} {b c:Bx} {i:Nat} {a:Int} (ha:a∈C7 m q b i) (h1:(b.g i).lo≤(c.g i).lo) (h2:(c.g i).hi≤(b.g i).hi) (h3:a < (c.g i).lo∨(c.g i).hi≤a):(C7 m q c i).length < (C7 m q b i).length:=by
 obtain ⟨hf,hm,hl,hh⟩:=IW.1 ha;unfold C7;rw [AJ (by omega),CV,CV];unfold HJ;refine mU hm ?_ ?_ ?_
 ·simp only [Bool.not_eq_false',Bool.or_eq_true,AN]; omega
 ·simp only [BO,CM,BI]; omega
 ·intro x _;simp only [BO,CM,BI]; omega
theorem p8 {m:Md} {q:Qy} {b c:Bx} {j:Nat} (hj:j < 5) (h1:(C7 m q c j).length < (C7 m q b j).length) (h2:∀ i,i < 5→i≠j→c.g i=b.g i):I2 m q c < I2 m q b:=by
 have e:∀ i,i < 5→i≠j→(C7 m q c i).length=(C7 m q b i).length:=fun i hi hn=>by rw [R3 (h2 i hi hn)]
 unfold I2
 match j,hj with
 | 0,_=>have:=e 1 (by omega) (by omega); have:=e 2 (by omega) (by omega); have:=e 3 (by omega) (by omega); have:=e 4 (by omega) (by omega); omega
 | 1,_=>have:=e 0 (by omega) (by omega); have:=e 2 (by omega) (by omega); have:=e 3 (by omega) (by omega); have:=e 4 (by omega) (by omega); omega
 | 2,_=>have:=e 0 (by omega) (by omega); have:=e 1 (by omega) (by omega); have:=e 3 (by omega) (by omega); have:=e 4 (by omega) (by omega); omega
 | 3,_=>have:=e 0 (by omega) (by omega); have:=e 1 (by omega) (by omega); have:=e 2 (by omega) (by omega); have:=e 4 (by omega) (by omega); omega
 | 4,_=>have:=e 0 (by omega) (by omega); have:=e 1 (by omega) (by omega); have:=e 2 (by omega) (by omega); have:=e 3 (by omega) (by omega); omega
 | n+5,h=>omega
theorem sT {lo hi:Int} (h:lo≤hi):HB lo hi=⟨lo,hi⟩:=by unfold HB; rw [AJ (by omega),CV]
theorem p7 {m:Md} {q:Qy} {b:Bx} {j:Nat} (hj:j < 5) {a:Int} (ha:a∈C7 m q b j):I2 m q (b.cutL (j:Int) a) < I2 m q b:=by
 obtain ⟨hf,hm,hl,hh⟩:=IW.1 ha;have e:∀ i,i < 5→(b.cutL (j:Int) a).g i=if i=j then ⟨(b.g j).lo,a⟩ else b.g i:=fun i hi=>by
  unfold Bx.cutL;rw [A0,H5 b _ hj hi];unfold Sp.cutL;rw [show min (b.g j).hi a=a by omega,sT hl]
 refine p8 hj (lX ha ?_ ?_ ?_) fun i hi hn=>by rw [e i hi,AX hn]
 ·rw [e j hj,A6 rfl]; exact CQ _
 ·rw [e j hj,A6 rfl]; show a≤_; omega
 ·rw [e j hj,A6 rfl]; exact .inr (CQ _)
theorem Ml {m:Md} {q:Qy} {b:Bx} (hb:b.good) {j:Nat} (hj:j < 5) {a:Int} (ha:a∈C7 m q b j):I2 m q (b.cutH (j:Int) a) < I2 m q b:=by
 obtain ⟨hf,hm,hl,hh⟩:=IW.1 ha;have hg:=hb j hj;have e:∀ i,i < 5→(b.cutH (j:Int) a).g i=if i=j then ⟨a+1,(b.g j).hi⟩ else b.g i:=fun i hi=>by
  unfold Bx.cutH;rw [A0,H5 b _ hj hi];unfold Sp.cutH;rw [AJ (by omega),CV,show C6 (a+1)=a+1 from DX (by omega) (by omega),show max (b.g j).lo (a+1)=a+1 by omega,sT (by omega)]
 refine p8 hj (lX ha ?_ ?_ ?_) fun i hi hn=>by rw [e i hi,AX hn]
 ·rw [e j hj,A6 rfl]; show _≤a+1; omega
 ·rw [e j hj,A6 rfl]; exact CQ _
 ·rw [e j hj,A6 rfl]; exact .inl (by show a < a+1; omega)
structure Rp (m:Md) (q:Qy) (s:Sr):Prop where
 left:SF s
 pt:∀ (j:Nat) (x:IV),s.left[j]?=some x→I2 m q (C9 x)+j≤I2 m q (DL q)
 ps:∃ outs,J4 s.proof ([(DL q).I],[])=some (s.left,outs)∧∀ x∈outs,EX m q (C9 x)=true
 dp:∃ most,JG s.proof (1,1)=some (ic s.left.length,most)∧1≤most∧most≤(I2 m q (DL q):Int)+1
theorem Np {m:Md} {q:Qy} (h:DQ m q=true):Rp m q ⟨[(DL q).I],[],Vd.none,0⟩ where
 left:=Gw h
 pt j x hj:=by
  match j,hj with
  | 0,hj=>
   obtain rfl:(DL q).I=x:=by simpa using hj
   rw [FG]; omega
  | j+1,hj=>simp at hj
 ps:=⟨[],rfl,fun x hx=>by cases hx⟩
 dp:=⟨1,rfl,by omega,by omega⟩
theorem rK {m:Md} {q:Qy} {s:Sr} (hr:DQ m q=true) (h:Rp m q s) (hl:0 < s.left.length) (hn:EX m q (C3 s.left)=false→EJ m q (C3 s.left).low (C3 s.left).s4.hi=false):Rp m q (EB m q s):=by
 obtain ⟨outs,hps,hout⟩:=h.ps;obtain ⟨most,hdp,hm1,hm2⟩:=h.dp;have hg:=Rt (m:=m) (q:=q) h.left hl;have ht:=WS h.left hl;have htop:s.left[s.left.length - 1]?=some (L0 s.left):=(Z7 hl).2;have ept:C3 s.left=C9 (L0 s.left):=rfl;have hpt:=h.pt _ _ htop;rw [← ept] at hpt;cases hc:EX m q (C3 s.left) with
 | true=>
  have e:(EB m q s).left=E5 s.left∧(EB m q s).proof=s.proof++[MF true 0 0]:=by
   unfold EB;rw [hc,CU];exact ⟨rfl,rfl⟩
  refine ⟨hg,fun j x hj=>?_,⟨outs++[(C3 s.left).I],?_,fun x hx=>?_⟩,⟨most,?_,hm1,hm2⟩⟩
  ·rw [e.1] at hj;exact h.pt j x (pZ hj)
  ·rw [e.2,fA hps,e.1];rfl
  ·rcases AQ.1 hx with hx | hx
   ·exact hout x hx
   ·obtain rfl:=BJ.1 hx;rw [FG]; exact hc
  ·rw [e.2,bU hdp,e.1,Q5];unfold K9;have h1:(ic s.left.length==0)=false:=BN.2 (by simp only [ic]; omega);show cond ((ic s.left.length==0)||!true) none (some (ic s.left.length - 1,most))=_;rw [h1];show some (ic s.left.length - 1,most)=_;rw [show ic s.left.length - 1=ic (s.left.length - 1) by simp only [ic]; omega]
 | false=>
  have hb:=hn hc;have hs:=gJ hr h.left hl hc hb;obtain ⟨j,hj,ei,_,_,hm⟩:=ZU hs;have hcut:=IW.1 hm;have e:(EB m q s).left=E5 s.left++[((C3 s.left).cutH (j:Int) (GC (DV m q (C3 s.left)))).I,((C3 s.left).cutL (j:Int) (GC (DV m q (C3 s.left)))).I]∧(EB m q s).proof=s.proof++[MF false (j:Int) (GC (DV m q (C3 s.left)))]:=by
   unfold EB;rw [hc,CV,hb,CV,hs,CU,ei];exact ⟨rfl,rfl⟩
  generalize GC (DV m q (C3 s.left))=a at hm hcut e;refine ⟨hg,fun k x hk=>?_,⟨outs,?_,hout⟩,⟨max most (ic s.left.length+1),?_,by omega,?_⟩⟩
  ·rw [e.1,List.getElem?_append,Q5] at hk;split at hk
   ·exact h.pt k x (pZ hk)
   ·rcases vae (k - (s.left.length - 1)) 1 with h0 | h0
    ·rw [show k - (s.left.length - 1)=0 by omega] at hk;simp only [BE,AB] at hk;subst hk;rw [FG]
     have:=Ml ht hj hm
     omega
    ·rcases vae (k - (s.left.length - 1)) 2 with h2 | h2
     ·rw [show k - (s.left.length - 1)=1 by omega] at hk;simp only [CD,BE,AB] at hk;subst hk;rw [FG]
      have:=p7 (q:=q) hj hm
      omega
     ·rw [BF (by simpa using h2)] at hk;cases hk
  ·rw [e.2,fA hps,e.1];unfold L9;show cond false _ (cond (decide (a < ((C3 s.left).g ((j:Int)).toNat).lo)||decide (a≥((C3 s.left).g ((j:Int)).toNat).hi)) none _)=_;rw [CV,A0,AJ (by omega),AJ (by omega)];rfl
  ·rw [e.2,bU hdp,e.1];unfold K9;have h1:(ic s.left.length==0)=false:=BN.2 (by simp only [ic]; omega);have h2:Q9 (MF false (j:Int) a)=true:=by
    show (decide ((0:Int)≤(j:Int))&&decide ((j:Int)≤4))=true;rw [AE (by omega),AE (by omega)]; rfl
   show cond ((ic s.left.length==0)||!(Q9 (MF false (j:Int) a))) none (some (ic s.left.length+1,max most (ic s.left.length+1)))=_;rw [h1,h2];show some (ic s.left.length+1,max most (ic s.left.length+1))=_;rw [AS,Q5]
   have:ic (s.left.length - 1+[((C3 s.left).cutH (j:Int) a).I,((C3 s.left).cutL (j:Int) a).I].length)=ic s.left.length+1:=by simp only [ic,AP,BZ]; omega
   rw [this]
  ·have h3:0 < I2 m q (C3 s.left):=Nat.lt_of_le_of_lt (B7 _) (p7 (q:=q) hj hm);simp only [ic];omega
open Go
def N1 (ts:LI):Nat:=(ts.map fun t=>(EA t).length).sum
theorem Sc (w:IV):(GS 0 w).length+(GS 1 w).length+(GS 2 w).length+(GS 3 w).length≤1:=by
 unfold GS;cases (CW w.toInt).lf with
 | true=>simp
 | false=>
  generalize (CW w.toInt).f=f;by_cases h0:f=0
  ·subst h0; exact AO _
  by_cases h1:f=1
  ·subst h1; exact AO _
  by_cases h2:f=2
  ·subst h2; exact AO _
  by_cases h3:f=3
  ·subst h3; exact AO _
  rw [BN.2 h0,BN.2 h1,BN.2 h2,BN.2 h3];simp
theorem Sb (f:Int) (w:IV):(GS f w).length≤1:=by
 unfold GS;cases (!(CW w.toInt).lf&&(CW w.toInt).f==f) <;> simp
theorem o7:∀ (l:LI),(l.flatMap (GS 0)).length+(l.flatMap (GS 1)).length+(l.flatMap (GS 2)).length+(l.flatMap (GS 3)).length≤l.length
 | []=>AO _
 | w :: l=>by
  have:=o7 l
  have:=Sc w
  simp only [vas,AS,AP];omega
theorem o5 (f:Int):∀ (l:LI),(l.flatMap (GS f)).length≤l.length
 | []=>AO _
 | w :: l=>by
  have:=o5 f l
  have:=Sb f w
  simp only [vas,AS,AP];omega
theorem qP:∀ (ts:LI),(GH ts 0).length+(GH ts 1).length+(GH ts 2).length+(GH ts 3).length≤N1 ts
 | []=>AO _
 | t :: ts=>by
  have:=qP ts
  have:=o7 (EA t)
  unfold GH N1 at *;simp only [vas,AS,A2,List.sum_cons];omega
theorem fD (f:Int):∀ (ts:LI),(GH ts f).length≤N1 ts
 | []=>AO _
 | t :: ts=>by
  have:=fD f ts
  have:=o5 f (EA t)
  unfold GH N1 at *;simp only [vas,AS,A2,List.sum_cons];omega
theorem R4 (m:Md) (q:Qy) (b:Bx) (i:Nat):(C7 m q b i).length≤(GH m.ts (FW q (i:Int))).length:=by
 unfold C7;cases decide (FW q (i:Int) < 0) with
 | true=>rw [CU]; exact B7 _
 | false=>
  rw [CV];unfold HJ G0;refine CR (List.length_filter_le ..) ?_;rw [← (N9 (GH m.ts (FW q (i:Int)))).length_eq];exact XK _
theorem Mm (m:Md) (q:Qy) (b:Bx):I2 m q b≤2*N1 m.ts:=by
 have h0:=R4 m q b 0;have h1:=R4 m q b 1;have h2:=R4 m q b 2;have h3:=R4 m q b 3;have h4:=R4 m q b 4;have h5:=fD (FW q ((4:Nat):Int)) m.ts;have h6:=qP m.ts;rw [cJ (by omega)] at h0 h1 h2 h3;unfold I2;simp only [Int.natCast_zero] at *;have e1:((1:Nat):Int)=1:=rfl;have e2:((2:Nat):Int)=2:=rfl;have e3:((3:Nat):Int)=3:=rfl;rw [e1] at h1;rw [e2] at h2;rw [e3] at h3;omega
theorem m6 (f:Ft):N1 f.M.ts≤60:=by
 have hd:=VA f.d;have key:∀ (l:LI),N1 (l.map (SZ f.d f.c))≤15*l.length:=by
  intro l
  induction l with
  | nil=>exact AO _
  | cons t l ih=>
   obtain ⟨i,hi,hn⟩:=pA (t.cell 1).toList (t.cell 2).toList (t.cell 3).toList (t.cell 4).toList (dim:=KM f.d) ⟨hd.1,by omega⟩;have e:(EA (SZ f.d f.c t)).length=2*i+1:=by
    show ((LM (t.cell 1).toList (t.cell 2).toList (t.cell 3).toList (t.cell 4).toList (KM f.d)).nodes.map N5).length=_;rw [CL,hn.len]
   unfold N1 at *;simp only [A2,List.sum_cons,AP];rw [e];omega
 have h4:(f.ts.take 4).length≤4:=by rw [A7]; omega
 have:=key (f.ts.take 4)
 show N1 ((f.ts.take 4).map (SZ f.d f.c))≤60;omega
open Go
def Rw (q:Qy) (s:Sr):Prop:=∀ x∈s.left,∀ p t,(C9 x).has p t=true→(DL q).has p t=true
structure Ri (m:Md) (q:Qy) (s:Sr):Prop where
 sp:0≤s.spent∧s.spent≤q.bu
 opn:s.v.kind=0→Rp m q s∧0 < s.left.length∧s.spent=ic s.proof.length∧s.v.proof=[]∧Rw q s
 holds:s.v.kind=1→Rp m q s∧s.left=[]∧s.spent=ic s.proof.length∧s.v.proof=s.proof
 fails:s.v.kind=2→s.v.proof=[]∧1≤s.spent∧(DL q).has ⟨s.v.w0,s.v.w1,s.v.w2,s.v.w3⟩ s.v.twin=true∧EJ m q ⟨s.v.w0,s.v.w1,s.v.w2,s.v.w3⟩ s.v.twin=true
 kinds:s.v.kind=0∨s.v.kind=1∨s.v.kind=2
theorem fM {m:Md} {q:Qy} (h:DQ m q=true):Ri m q ⟨[(DL q).I],[],Vd.none,0⟩ where
 sp:=⟨CQ _,(SS h).2.2.1.1⟩
 opn _:=⟨Np h,by simp,rfl,rfl,fun x hx p t hh=>by
  obtain rfl:=BJ.1 hx;rw [FG] at hh; exact hh⟩
 holds h:=absurd (show (0:Int)=1 from h) (by decide)
 fails h:=absurd (show (0:Int)=2 from h) (by decide)
 kinds:=.inl rfl
theorem rC {m:Md} {q:Qy} {s:Sr} (hr:DQ m q=true) (h:Ri m q s) (ho:E4 q s=false):Ri m q (EB m q s):=by
 unfold E4 at ho;rw [CM] at ho;have hk:s.v.kind=0:=by simpa using ho.1
 have hs:¬ s.spent≥q.bu:=A1 ho.2;obtain ⟨hrp,hl,hsp,hvp,hsub⟩:=h.opn hk;have hsp0:=h.sp;have ht:=WS hrp.left hl;have htm:L0 s.left∈s.left:=(Z7 hl).1;have ept:C3 s.left=C9 (L0 s.left):=rfl;cases hc:EX m q (C3 s.left) with
 | true=>
  have hrp':=rK hr hrp hl (fun h=>by rw [hc] at h; cases h);have e:EB m q s=⟨E5 s.left,s.proof++[MF true 0 0],cond (ic (s.left.length - 1)==0) ⟨1,s.proof++[MF true 0 0],0,0,0,0,0,0⟩ s.v,s.spent+1⟩:=by
   unfold EB;rw [hc,CU]
  rw [e] at hrp' ⊢;have hlen:s.spent+1=ic (s.proof++[MF true 0 0]).length:=by
   rw [hsp]; simp only [ic,AS,AP,BZ]; omega
  cases he:(ic (s.left.length - 1)==0) with
  | true=>
   rw [he] at hrp';have h1:s.left.length=1:=by
    have:ic (s.left.length - 1)=0:=by simpa using he
    simp only [ic] at this; omega
   have hnil:E5 s.left=[]:=List.length_eq_zero_iff.1 (by rw [Q5]; omega);exact ⟨⟨by show 0≤s.spent+1; omega,by show s.spent+1≤_; omega⟩,fun h=>absurd (show (1:Int)=0 from h) (by decide),fun _=>⟨hrp',hnil,hlen,rfl⟩,fun h=>absurd (show (1:Int)=2 from h) (by decide),.inr (.inl rfl)⟩
  | false=>
   rw [he] at hrp';have h1:s.left.length - 1≠0:=fun h=>by rw [h] at he; exact absurd he (by decide)
   refine ⟨⟨by show 0≤s.spent+1; omega,by show s.spent+1≤_; omega⟩,fun _=>⟨hrp',?_,hlen,hvp,fun x hx=>hsub x (V9 hx)⟩,fun h=>?_,fun h=>?_,.inl hk⟩
   ·show 0 < (E5 s.left).length;rw [Q5]; omega
   ·replace h:s.v.kind=1:=h;omega
   ·replace h:s.v.kind=2:=h;omega
 | false=>
  cases hb:EJ m q (C3 s.left).low (C3 s.left).s4.hi with
  | true=>
   have e:EB m q s=⟨E5 s.left,s.proof,⟨2,[],(C3 s.left).s0.lo,(C3 s.left).s1.lo,(C3 s.left).s2.lo,(C3 s.left).s3.lo,(C3 s.left).s4.hi,0⟩,s.spent+1⟩:=by
    unfold EB;rw [hc,CV,hb,CU]
   rw [e];refine ⟨⟨by show 0≤s.spent+1; omega,by show s.spent+1≤_; omega⟩,fun h=>absurd (show (2:Int)=0 from h) (by decide),fun h=>absurd (show (2:Int)=1 from h) (by decide),fun _=>⟨rfl,by show 1≤s.spent+1; omega,?_,hb⟩,.inr (.inr rfl)⟩;exact hsub _ htm _ _ (by rw [← ept]; exact RU _ ht.emp)
  | false=>
   have hrp':=rK hr hrp hl (fun _=>hb);have hs2:=gJ hr hrp.left hl hc hb;obtain ⟨j,hj,ei,_,_,hm⟩:=ZU hs2;have hcut:=IW.1 hm;have hg:=ht j hj;have e:EB m q s=⟨E5 s.left++[((C3 s.left).cutH (j:Int) (GC (DV m q (C3 s.left)))).I,((C3 s.left).cutL (j:Int) (GC (DV m q (C3 s.left)))).I],
     s.proof++[MF false (j:Int) (GC (DV m q (C3 s.left)))],s.v,s.spent+1⟩:=by
    unfold EB;rw [hc,CV,hb,CV,hs2,CU,ei]
   rw [e] at hrp' ⊢;generalize GC (DV m q (C3 s.left))=a at hm hcut hrp';refine ⟨⟨by show 0≤s.spent+1; omega,by show s.spent+1≤_; omega⟩,fun _=>⟨hrp',by simp,?_,hvp,fun x hx p t hh=>?_⟩,fun h=>?_,fun h=>?_,.inl hk⟩
   ·show s.spent+1=_;rw [hsp]; simp only [ic,AS,AP,BZ]; omega
   ·rcases AQ.1 hx with hx | hx
    ·exact hsub x (V9 hx) p t hh
    ·rcases AT.1 hx with rfl | hx
     ·rw [FG] at hh;exact hsub _ htm p t (by rw [← ept]; exact ((XN ht.ok hj (by omega)).1 hh).1)
     ·obtain rfl:=BJ.1 hx;rw [FG] at hh;exact hsub _ htm p t (by rw [← ept]; exact ((XP hj).1 hh).1)
   ·replace h:s.v.kind=1:=h;omega
   ·replace h:s.v.kind=2:=h;omega
theorem fN {m:Md} {q:Qy} (hr:DQ m q=true):∀ (d:Nat) (s:Sr),Ri m q s→q.bu < s.spent+d→Ri m q (FH m q d s)∧E4 q (FH m q d s)=true
 | 0,s,h,hd=>⟨h,by
  unfold E4
  have:FH m q 0 s=s:=rfl
  rw [this,AE (show s.spent≥q.bu by omega)];simp⟩
 | d+1,s,h,hd=>by
  rw [FH];cases ho:E4 q s with
  | true=>rw [CU]; exact ⟨h,ho⟩
  | false=>
   rw [CV];refine fN hr d (EB m q s) (rC hr h ho) ?_
   have:(EB m q s).spent=s.spent+1:=by
    unfold EB;cases EX m _ _ <;> cases EJ m _ _ _ <;> cases (DV m _ _).isSome <;> rfl
   omega
theorem fQ {m:Md} {q:Qy} (hr:DQ m q=true) (hp:I2 m q (DL q)≤199) :
  ((D2 m q).kind=1→M3 m q (D2 m q)=true∧ic (D2 m q).proof.length=(D2 m q).spent∧0 < MP (D2 m q).proof) ∧
  ((D2 m q).kind=2→M3 m q (D2 m q)=true∧(D2 m q).proof=[]∧1≤(D2 m q).spent) ∧
  ((D2 m q).kind=3→(D2 m q).spent=q.bu∧(D2 m q).proof=[]) ∧
  ((D2 m q).kind=1∨(D2 m q).kind=2∨(D2 m q).kind=3)∧0≤(D2 m q).spent∧(D2 m q).spent≤q.bu:=by
 have h3:=(SS hr).2.2.1;have hnew:QX m q=⟨[(DL q).I],[],Vd.none,0⟩:=by unfold QX; rw [hr,CU]
 obtain ⟨hi,ho⟩:=fN hr (q.bu.toNat+1) _ (fM hr) (by show q.bu < 0+_; omega);unfold D2;rw [hnew];generalize FH m q (q.bu.toNat+1) _=s at hi ho;rcases hi.kinds with hk | hk | hk
 ·have ek:(GT s).kind=3:=by simp [GT,hk]
  have hsp:s.spent=q.bu:=by
   unfold E4 at ho;rw [hk] at ho
   have:s.spent≥q.bu:=by simpa using ho
   have:=hi.sp
   omega
  exact ⟨fun h=>by omega,fun h=>by omega,fun _=>⟨hsp,(hi.opn hk).2.2.2.1⟩,.inr (.inr ek),hi.sp.1,hi.sp.2⟩
 ·have ek:(GT s).kind=1:=by simp [GT,hk]
  obtain ⟨hrp,hl,hsp,hvp⟩:=hi.holds hk;obtain ⟨outs,hps,hout⟩:=hrp.ps;obtain ⟨most,hdp,hm1,hm2⟩:=hrp.dp;have hlen:=hi.sp;rw [hl] at hps hdp;have hdeep:MP s.proof=most:=by
   unfold MP;rw [AJ (by omega),CV,hdp];show cond (!((ic ([]:LI).length)==0)||decide (most > 200)) 0 most=most;rw [AJ (by omega)];rfl
  have epr:(GT s).proof=s.proof:=hvp;refine ⟨fun _=>⟨?_,?_,?_⟩,fun h=>by omega,fun h=>by omega,.inl ek,hi.sp.1,hi.sp.2⟩
  ·unfold M3;rw [hr,ek,epr];show (true&&cond true (match PA (DL q) s.proof with | some l=>l.all fun x=>EX m q (C9 x) | none=>false) _)=true;unfold PA;rw [hdeep,AE (show most > 0 by omega),CU,hps];show (true&&(outs.all fun x=>EX m q (C9 x)))=true;rw [BL,vah];exact hout
  ·rw [epr]; exact hsp.symm
  ·rw [epr,hdeep]; omega
 ·have ek:(GT s).kind=2:=by simp [GT,hk]
  obtain ⟨hvp,hsp,hh,hb⟩:=hi.fails hk;refine ⟨fun h=>by omega,fun _=>⟨?_,hvp,hsp⟩,fun h=>by omega,.inr (.inl ek),hi.sp.1,hi.sp.2⟩;unfold M3;rw [hr,ek];show (true&&((DL q).has ⟨s.v.w0,s.v.w1,s.v.w2,s.v.w3⟩ s.v.twin&&EJ m q ⟨s.v.w0,s.v.w1,s.v.w2,s.v.w3⟩ s.v.twin))=true;rw [hh,hb];rfl
open Go
end Go.FM
