/-
  A small machine that reckons what a call comes to; the functions of the program, one by one. (NORMAL FORMS: what the functions' runs come to (written by a, NORMAL FORMS: what the functions' runs come to (written by a, copsekeep's FUNCTIONS COME TO WHAT IS SAID (1): picks, nodes, and so on.)
-/
import Derived.Test.YtihliihljmfhlaaGreatTb
set_option linter.all false
set_option maxRecDepth 100000
open Array renaming getElem?_toList→vau,getElem?_eq_some_iff→vaX
open BitVec renaming ofInt→AN,toNat→BS
open Bool renaming and_eq_true→AI,not_true→A5,and_self→BE,true_and→BH,not_false→BJ,false_and→BY,not_eq_true'→CF,and_false→vax,or_eq_false_iff→vaE,and_true→vaI,eq_iff_iff→vaW
open Go.Addr.mk renaming injEq→CL
open Go.IntKind renaming wrap→AA,i64→AC,u64→AH,bits→AJ
open Go.Lib renaming compactUpTo→vbi
open Go.ResultVar renaming tmp→BD,cell→vbd
open Go.Sort renaming ahead→vbr
open Go.Value renaming ownBlock→B6
open Go.Value.slice renaming injEq→BW
open Int renaming toNat→AD,toNat_natCast→BL,fdiv→CB,fdiv_eq_ediv_of_nonneg→vat
open List renaming length→AF,getD→AG,length_append→AQ,mem_cons→AR,mem_cons_self→AS,length_cons→AT,take→AU,getElem?_eq_getElem→AV,mem_append→AW,mem_cons_of_mem→AY,length_take→A1,map_cons→A6,take_length→A9,drop_eq_getElem_cons→BC,getElem?_eq_none→BF,getD_eq_getElem?_getD→BG,getElem?_eq_some_iff→BV,getElem?_map→BZ,drop→B5,length_nil→B8,drop_zero→CC,drop_length→CE,getElem?_take→CI,length_singleton→CK,replicate→vad,length_drop→vaf,foldl_cons→vam,length_set→vas,take_of_length_le→vav,mem_singleton→vaz,length_map→vaC,set→vaH,eq_nil_of_length_eq_zero→vaK,cons_append→vaL,getElem?_set_ne→vaP,flatMap_cons→vaY,range'→va1,getElem?_set_self→va4,map→va5,pairwise_cons→vbp
open List.Pairwise renaming of_cons→vbo
open List.Perm renaming refl→vbv
open Nat renaming le_of_ble_eq_true→AK,le_refl→AP,beq→AZ,zero_add→A0,blt→A2,ble→BI,ble_eq_true_of_le→BX,zero_le→B3,lt_of_lt_of_le→B7,eq_of_beq_eq_true→vai,le_trans→vaj,min_eq_left→vao,sub_zero→vaq,pow_le_pow_right→va0,beq_refl→vbc
open Option.some renaming injEq→AB
namespace Go.FM
open Go Go.Proofs
def sE (N:Nat):Env:=DB [] [] 15 N
theorem Cw (N:Nat) (l:LI) (i:Int):C6 (sE N) gO [.tmp 4] [[.z]] [.list false [.z] l,.i i]=(cond (ic (AF l)==0) (some ((.i 0),[])) (cond (decide (ic (AF l)=0)) none (cond (decide (0≤Int.tmod i (ic (AF l)))&&decide (Int.tmod i (ic (AF l)) < ic (AF l))) (some ((.i (IV.toInt (AG l (AD (Int.tmod i (ic (AF l)))) default))),[])) none))):=by kernel_rfl
def sL (N:Nat):Env:=DB [] [] 27 N
theorem Dk (N:Nat) (n w:Int):C6 (sL N) gV [.tmp 4] [[.bool]] [.i n,.i w]=(cond (decide (w < 1)) (some ((.bool false),[])) (cond (decide (w > 64)) (some ((.bool false),[])) (cond (w==64) (some ((.bool true),[])) (cond (decide (AA AC (w - 1) < 0)) none (cond (decide (n≥AA AC (0 - AA AC (1*2 ^ min (AD (AA AC (w - 1))) (AJ AC))))) (some ((.bool (decide (n≤AA AC (AA AC (1*2 ^ min (AD (AA AC (w - 1))) (AJ AC)) - 1)))),[])) (some ((.bool false),[]))))))):=by kernel_rfl
def sP (N:Nat):Env:=DB [(42,MK)] [] 66 N
theorem Dt (N:Nat) (u01:Bool) (u04 u00 n_At u02 u03:Int):C6 (sP N) gZ [.tmp 2] [[.bool]] [.agg [.bool u01,.i u04,.i u00,.i n_At,.i u02,.i u03]]=(cond u01 (cond (DL u04) (cond (u00==0) (cond (n_At==0) (cond (u02==0) (some ((.bool (u03==0)),[])) (some ((.bool false),[]))) (some ((.bool false),[]))) (some ((.bool false),[]))) (some ((.bool false),[]))) (cond (u04==0) (cond (decide (u00≥0)) (cond (decide (u00 < 4)) (cond (DL n_At) (cond (decide (u02≥1)) (cond (decide (u02 < 31)) (cond (decide (u03≥1)) (some ((.bool (decide (u03 < 31))),[])) (some ((.bool false),[]))) (some ((.bool false),[]))) (some ((.bool false),[]))) (some ((.bool false),[]))) (some ((.bool false),[]))) (some ((.bool false),[]))) (some ((.bool false),[])))):=by kernel_rfl
def sO (N:Nat):Env:=DB [(66,OX)] [] 32 N
theorem Dq (N:Nat) (u01:Bool) (u04 u00 n_At u02 u03:Int):C6 (sO N) gY [.tmp 2] [[.int .u64]] [.agg [.bool u01,.i u04,.i u00,.i n_At,.i u02,.i u03]]=(cond (!K6 u01 u04 u00 n_At u02 u03) (some ((.int .u64 0),[])) (cond u01 (some ((.int .u64 (AA AH (ic (BS (AN (AJ AH) 9223372036854775808 ||| AN (AJ AH) (AA AH (ic (BS (AN (AJ AH) (AA AH u04) &&& AN (AJ AH) 4294967295))))))))),[])) (some ((.int .u64 (AA AH (ic (BS (AN (AJ AH) (AA AH (ic (BS (AN (AJ AH) (AA AH (ic (BS (AN (AJ AH) (AA AH (ic (BS (AN (AJ AH) (AA AH n_At) &&& AN (AJ AH) 4294967295)))) ||| AN (AJ AH) (AA AH (AA AH u00*2 ^ min (AD 32) (AJ AH))))))) ||| AN (AJ AH) (AA AH (AA AH u02*2 ^ min (AD 40) (AJ AH))))))) ||| AN (AJ AH) (AA AH (AA AH u03*2 ^ min (AD 48) (AJ AH)))))))),[])))):=by kernel_rfl
def MC (N:Nat):Env:=DB [(7,JO),(18,MH)] [(3,⟨[1,4,5,9,10],[4,5],[]⟩)] 32 N
abbrev L8 (l1:LI) (x9 x10 u00 u01 u02 u03 u04 u05 u06 u07 u08 u09 u0a u0b u0c u0d u0e u0f u0g u0h u0i u0j:Int):St:=⟨[(1,(.list false [.z] l1)),(4,(.ptr 4 0 0)),(5,(.ptr 5 0 0)),(9,(.i x9)),(10,(.i x10))],[(4,(some (.box [.i u00,.i u01,.i u02,.i u03,.i u04,.i u05,.i u06,.i u07,.i u08,.i u09]))),(5,(some (.box [.i u0a,.i u0b,.i u0c,.i u0d,.i u0e,.i u0f,.i u0g,.i u0h,.i u0i,.i u0j])))]⟩
theorem Cs (N:Nat) (u04 u03 u00 u01 u02:Int) (u05 l:LI):C6 (MC N) NN [.cell 4 31] [[.z,.z,.z,.z,.z,.z,.z,.z,.z,.z]] [.agg [.i u04,.i u03,.i u00,.i u01,.i u02,.list true [.z,.list false [.int .u64]] u05],.list false [.z] l]=(C4 (MC N) (CR NN [1,1,0,1,0,0]) ⟨[1,4,5,9,10],[4,5],[]⟩ N (L8 l u04 0 0 0 0 0 0 0 0 0 0 0 0 0 0 0 0 0 0 0 0 0) (CY 0 (C0 (MC N) (CR NN [1,1,1]) (C1 (MC N) none [.cell 4 31] [[.z,.z,.z,.z,.z,.z,.z,.z,.z,.z]])))):=by kernel_rfl
theorem pS (N:Nat) (l1:LI) (x9 x10 u00 u01 u02 u03 u04 u05 u06 u07 u08 u09 u0a u0b u0c u0d u0e u0f u0g u0h u0i u0j:Int) (again:St→CU) (k:Out→St→CU):D9 (MC N) (CR NN [1,1,0,1,0,0]) (L8 l1 x9 x10 u00 u01 u02 u03 u04 u05 u06 u07 u08 u09 u0a u0b u0c u0d u0e u0f u0g u0h u0i u0j) (D4 again ⟨[1,4,5,9,10],[4,5],[]⟩ k)=(cond (decide (x10 < x9)) (cond (decide (0≤AA AC (2*x10))) (cond (decide (0≤AA AC (AA AC (2*x10)+1))) (cond (decide (x10=ic 0)) (again (L8 l1 x9 (AA AC (x10+1)) u00 u01 u02 u03 u04 u05 u06 u07 u08 u09 (CX (D3 l1 (AA AC (2*x10))) (-2) 9) (AA AC (CX (D3 l1 (AA AC (2*x10))) (-2) 9+CX (D3 l1 (AA AC (AA AC (2*x10)+1))) 0 11)) u0c u0d u0e u0f u0g u0h u0i u0j)) (cond (decide (x10=ic 1)) (again (L8 l1 x9 (AA AC (x10+1)) u00 u01 u02 u03 u04 u05 u06 u07 u08 u09 u0a u0b (CX (D3 l1 (AA AC (2*x10))) (-2) 9) (AA AC (CX (D3 l1 (AA AC (2*x10))) (-2) 9+CX (D3 l1 (AA AC (AA AC (2*x10)+1))) 0 11)) u0e u0f u0g u0h u0i u0j)) (cond (decide (x10=ic 2)) (again (L8 l1 x9 (AA AC (x10+1)) u00 u01 u02 u03 u04 u05 u06 u07 u08 u09 u0a u0b u0c u0d (CX (D3 l1 (AA AC (2*x10))) (-2) 9) (AA AC (CX (D3 l1 (AA AC (2*x10))) (-2) 9+CX (D3 l1 (AA AC (AA AC (2*x10)+1))) 0 11)) u0g u0h u0i u0j)) (cond (decide (x10=ic 3)) (again (L8 l1 x9 (AA AC (x10+1)) u00 u01 u02 u03 u04 u05 u06 u07 u08 u09 u0a u0b u0c u0d u0e u0f (CX (D3 l1 (AA AC (2*x10))) (-2) 9) (AA AC (CX (D3 l1 (AA AC (2*x10))) (-2) 9+CX (D3 l1 (AA AC (AA AC (2*x10)+1))) 0 11)) u0i u0j)) (cond (decide (x10=ic 4)) (again (L8 l1 x9 (AA AC (x10+1)) u00 u01 u02 u03 u04 u05 u06 u07 u08 u09 u0a u0b u0c u0d u0e u0f u0g u0h (CX (D3 l1 (AA AC (2*x10))) (-2) 9) (AA AC (CX (D3 l1 (AA AC (2*x10))) (-2) 9+CX (D3 l1 (AA AC (AA AC (2*x10)+1))) 0 11)))) none))))) none) none) (k (.exit 0) (L8 l1 x9 x10 u00 u01 u02 u03 u04 u05 u06 u07 u08 u09 u0a u0b u0c u0d u0e u0f u0g u0h u0i u0j))):=by kernel_rfl
theorem v6 (N:Nat) (l1:LI) (x9 x10 u00 u01 u02 u03 u04 u05 u06 u07 u08 u09 u0a u0b u0c u0d u0e u0f u0g u0h u0i u0j:Int):(CY 0 (C0 (MC N) (CR NN [1,1,1]) (C1 (MC N) none [.cell 4 31] [[.z,.z,.z,.z,.z,.z,.z,.z,.z,.z]]))) (.exit 0) (L8 l1 x9 x10 u00 u01 u02 u03 u04 u05 u06 u07 u08 u09 u0a u0b u0c u0d u0e u0f u0g u0h u0i u0j)=(some ((.agg [.i u0a,.i u0b,.i u0c,.i u0d,.i u0e,.i u0f,.i u0g,.i u0h,.i u0i,.i u0j]),[])):=by kernel_rfl
open Go Go.Proofs
def sB (N:Nat):Env:=DB [(7,JO),(20,SQ)] [] 58 N
theorem Cq (N:Nat) (u04 u01 a_Lo u05 u03 u00:Int) (u02:Bool) (u06:LI) (u0b u0a u07 u08 u09:Int) (u0c:LI):C6 (sB N) gL [.cell 4 33] [[.z,.z,.z,.z,.z,.z,.z,.z,.z,.z,.z,.z,.z,.z,.z,.bool,.z]] [.agg [.i u04,.i u01,.i a_Lo,.i u05,.i u03,.i u00,.bool u02,.list false [.z] u06],.agg [.i u0b,.i u0a,.i u07,.i u08,.i u09,.list true [.z,.list false [.int .u64]] u0c]]=(cond (decide (JK 0 (AA AC (u0a - 1))=0)) none (cond (decide (0≤u0b)&&decide (u0b≤4)) (cond (CX u04 1 3==2) (cond (decide (u0a < 2)) (some ((.agg [.i 1,.i (CX u01 0 (AA AC (u0a - 1))),.i (EP u0b u06 0),.i (EQ u0b u06 0),.i (EP u0b u06 1),.i (EQ u0b u06 1),.i (EP u0b u06 2),.i (EQ u0b u06 2),.i (EP u0b u06 3),.i (EQ u0b u06 3),.i 0,.i 0,.i (CX a_Lo (-9000) 9000),.i (AA AC (CX a_Lo (-9000) 9000+CX u05 0 18000)),.i 0,.bool false,.i (CX u00 0 65536)]),[])) (cond (CX u04 1 3==1) (some ((.agg [.i (CX u04 1 3),.i (CX u01 0 (AA AC (u0a - 1))),.i (EP u0b u06 0),.i (EQ u0b u06 0),.i (EP u0b u06 1),.i (EQ u0b u06 1),.i (EP u0b u06 2),.i (EQ u0b u06 2),.i (EP u0b u06 3),.i (EQ u0b u06 3),.i 0,.i 0,.i (CX a_Lo (-9000) 9000),.i (AA AC (CX a_Lo (-9000) 9000+CX u05 0 18000)),.i 0,.bool false,.i (CX u00 0 65536)]),[])) (some ((.agg [.i (CX u04 1 3),.i (CX u01 0 (AA AC (u0a - 1))),.i (EP u0b u06 0),.i (EQ u0b u06 0),.i (EP u0b u06 1),.i (EQ u0b u06 1),.i (EP u0b u06 2),.i (EQ u0b u06 2),.i (EP u0b u06 3),.i (EQ u0b u06 3),.i 0,.i 0,.i 0,.i 0,.i 0,.bool false,.i (CX u00 0 65536)]),[])))) (cond (CX u04 1 3==3) (cond (decide (JK 0 (AA AC (u0b - 1))=0)) none (cond (CX u04 1 3==1) (some ((.agg [.i (CX u04 1 3),.i (CX u01 0 (AA AC (u0a - 1))),.i (EP u0b u06 0),.i (EQ u0b u06 0),.i (EP u0b u06 1),.i (EQ u0b u06 1),.i (EP u0b u06 2),.i (EQ u0b u06 2),.i (EP u0b u06 3),.i (EQ u0b u06 3),.i 0,.i 0,.i (CX a_Lo (-9000) 9000),.i (AA AC (CX a_Lo (-9000) 9000+CX u05 0 18000)),.i (CX u03 0 (AA AC (u0b - 1))),.bool u02,.i (CX u00 0 65536)]),[])) (some ((.agg [.i (CX u04 1 3),.i (CX u01 0 (AA AC (u0a - 1))),.i (EP u0b u06 0),.i (EQ u0b u06 0),.i (EP u0b u06 1),.i (EQ u0b u06 1),.i (EP u0b u06 2),.i (EQ u0b u06 2),.i (EP u0b u06 3),.i (EQ u0b u06 3),.i 0,.i 0,.i 0,.i 0,.i (CX u03 0 (AA AC (u0b - 1))),.bool u02,.i (CX u00 0 65536)]),[])))) (cond (CX u04 1 3==1) (some ((.agg [.i (CX u04 1 3),.i (CX u01 0 (AA AC (u0a - 1))),.i (EP u0b u06 0),.i (EQ u0b u06 0),.i (EP u0b u06 1),.i (EQ u0b u06 1),.i (EP u0b u06 2),.i (EQ u0b u06 2),.i (EP u0b u06 3),.i (EQ u0b u06 3),.i 0,.i 0,.i (CX a_Lo (-9000) 9000),.i (AA AC (CX a_Lo (-9000) 9000+CX u05 0 18000)),.i 0,.bool false,.i (CX u00 0 65536)]),[])) (some ((.agg [.i (CX u04 1 3),.i (CX u01 0 (AA AC (u0a - 1))),.i (EP u0b u06 0),.i (EQ u0b u06 0),.i (EP u0b u06 1),.i (EQ u0b u06 1),.i (EP u0b u06 2),.i (EQ u0b u06 2),.i (EP u0b u06 3),.i (EQ u0b u06 3),.i 0,.i 0,.i 0,.i 0,.i 0,.bool false,.i (CX u00 0 65536)]),[]))))) none)):=by kernel_rfl
open Go Go.Proofs
theorem dQ:C5 PR B0 18 MH:=by
 refine DC [] [] MH [[.z]] Tryz.func18 yR trivial ?_;intro vs r hwf h;unfold MH at h;split at h
 ·rename_i l i;cases hc:decide (0≤i) with
  | false=>rw [hc] at h; simp [R.get] at h
  | true=>
   rw [hc,R.get_br,CP,R.get_ok] at h;have hc:=A4 hc;refine ⟨0,?_⟩;rw [← h];refine (Cw 0 l i).trans ?_;unfold D3;cases h0:(ic (AF l)==0) with
   | true=>rfl
   | false=>
    rw [ZJ] at h0;have h0':=A8 h0;have hl:0 < (l.length:Int):=by simp only [ic] at h0'; omega
    have t0:=Int.tmod_nonneg (l.length:Int) hc;have t1:=Int.tmod_lt_of_pos i hl;rw [CS,h0,CS,AE (show 0≤Int.tmod i (ic (AF l)) from t0),AE (show Int.tmod i (ic (AF l)) < ic (AF l) from t1),vaI,CP,CS]
 ·simp [R.get] at h
theorem dT:C5 PR B0 42 MK:=by
 refine DC [] [] MK [[.bool]] Tryz.func42 y9 trivial ?_;intro vs r hwf h;unfold MK at h;split at h
 ·rename_i n w;cases hc:decide (w=32) with
  | false=>rw [hc] at h; simp [R.get] at h
  | true=>
   rw [hc,R.get_br,CP,R.get_ok] at h;have hc:=A4 hc;subst hc;refine ⟨0,?_⟩;rw [← h];refine (Dk 0 n 32).trans ?_;have e1:AA AC (0 - AA AC (1*2 ^ min (AD (AA AC ((32:Int) - 1))) (AJ AC))) = -2147483648:=by kernel_rfl
   have e2:AA AC (AA AC (1*2 ^ min (AD (AA AC ((32:Int) - 1))) (AJ AC)) - 1)=2147483647:=by kernel_rfl
   have e3:decide (AA AC ((32:Int) - 1) < 0)=false:=by kernel_rfl
   rw [e1,e2,e3];unfold DL;have e4:decide (n ≥ -2147483648)=decide (-2147483648≤n):=rfl;rw [e4];cases decide (-2147483648≤n) <;> rfl
 ·simp [R.get] at h
theorem jI (a b:Bool):cond a (some (V.bool b,[])) (some (V.bool false,[]))=(some (V.bool (a&&b),[]):CU):=by cases a <;> rfl
theorem o4:C5 PR B0 66 OX:=by
 refine DC [(42,MK)] [] OX [[.bool]] Tryz.func66 zH ⟨dT,trivial⟩ ?_;intro vs r hwf h;unfold OX at h;split at h
 ·rename_i lf v f a l r';refine ⟨0,?_⟩;rw [← h];refine (Dt 0 lf v f a l r').trans ?_;simp only [R.get_ok,jI];unfold K6;cases lf with
  | true=>rfl
  | false=>rfl
 ·simp [R.get] at h
theorem dU:C5 PR B0 40 ML:=by
 refine DC [(66,OX)] [] ML [[.int .u64]] Tryz.func40 zF ⟨o4,trivial⟩ ?_;intro vs r hwf h;unfold ML at h;split at h
 ·rename_i lf v f a l r';refine ⟨0,?_⟩;rw [← h];refine (Dq 0 lf v f a l r').trans ?_;unfold G9;cases K6 lf v f a l r' with
  | false=>rfl
  | true=>cases lf <;> rfl
 ·simp [R.get] at h
def IH (l:LI) (j:Int):Int:=CX (D3 l (2*j)) (-2) 9
def HW (l:LI) (j:Int):Int:=CX (D3 l (2*j)) (-2) 9+CX (D3 l (2*j+1)) 0 11
def Ih (l:LI) (i:Nat):List V:=[.int .i64 (cond (A2 0 i) (IH l 0) 0),.int .i64 (cond (A2 0 i) (HW l 0) 0),.int .i64 (cond (A2 1 i) (IH l 1) 0),.int .i64 (cond (A2 1 i) (HW l 1) 0),.int .i64 (cond (A2 2 i) (IH l 2) 0),.int .i64 (cond (A2 2 i) (HW l 2) 0),.int .i64 (cond (A2 3 i) (IH l 3) 0),.int .i64 (cond (A2 3 i) (HW l 3) 0),.int .i64 0,.int .i64 0]
abbrev YN (l:LI) (D:Int) (i:Nat) (x:Int):St:=⟨[(1,(.list false [.z] l)),(4,(.ptr 4 0 0)),(5,(.ptr 5 0 0)),(9,(.int .i64 D)),(10,(.int .i64 x))],[(4,(some (.box [(.int .i64 0),(.int .i64 0),(.int .i64 0),(.int .i64 0),(.int .i64 0),(.int .i64 0),(.int .i64 0),(.int .i64 0),(.int .i64 0),(.int .i64 0)]))),(5,(some (.box (Ih l i))))]⟩
theorem Mr (l:LI) (j:Int):AA AC (CX (D3 l (2*j)) (-2) 9+CX (D3 l (2*j+1)) 0 11)=HW l j:=by
 obtain ⟨_,a1,a2⟩:=I3 (n:=D3 l (2*j)) (lo := -2) (hi:=9) (by omega) (by omega) (by omega);obtain ⟨_,b1,b2⟩:=I3 (n:=D3 l (2*j+1)) (lo:=0) (hi:=11) (by omega) (by omega) (by omega);exact DV (by omega) (by omega)
theorem Ie (N:Nat) (l:LI) (D:Int) (i:Nat) (hi:(i:Int) < D) (h4:i < 4) (again:St→CU) (k:Out→St→CU) :
  D9 (MC N) (CR NN [1,1,0,1,0,0]) (YN l D i (i:Int)) (D4 again ⟨[1,4,5,9,10],[4,5],[]⟩ k)=again (YN l D (i+1) ((i+1:Nat):Int)):=by
 refine (pS N l D i 0 0 0 0 0 0 0 0 0 0 (cond (A2 0 i) (IH l 0) 0) (cond (A2 0 i) (HW l 0) 0) (cond (A2 1 i) (IH l 1) 0) (cond (A2 1 i) (HW l 1) 0) (cond (A2 2 i) (IH l 2) 0) (cond (A2 2 i) (HW l 2) 0) (cond (A2 3 i) (IH l 3) 0) (cond (A2 3 i) (HW l 3) 0) 0 0 again k).trans ?_;have w2:AA AC (2*(i:Int))=2*(i:Int):=DV (by omega) (by omega);have w3:AA AC (2*(i:Int)+1)=2*(i:Int)+1:=DV (by omega) (by omega);rw [AE hi,CP,w2,w3,AE (show 0≤2*(i:Int) by omega),CP,AE (show 0≤2*(i:Int)+1 by omega),CP,Mr];have hi4:i=0∨i=1∨i=2∨i=3:=by omega
 rcases hi4 with rfl | rfl | rfl | rfl
 ·rw [show decide (((0:Nat):Int)=ic 0)=true from rfl,CP];rfl
 ·rw [show decide (((1:Nat):Int)=ic 0)=false from rfl,show decide (((1:Nat):Int)=ic 1)=true from rfl,CS,CP];rfl
 ·rw [show decide (((2:Nat):Int)=ic 0)=false from rfl,show decide (((2:Nat):Int)=ic 1)=false from rfl,show decide (((2:Nat):Int)=ic 2)=true from rfl,CS,CS,CP];rfl
 ·rw [show decide (((3:Nat):Int)=ic 0)=false from rfl,show decide (((3:Nat):Int)=ic 1)=false from rfl,show decide (((3:Nat):Int)=ic 2)=false from rfl,show decide (((3:Nat):Int)=ic 3)=true from rfl,CS,CS,CS,CP];rfl
theorem nT (N:Nat) (l:LI) (D:Nat) (hD:D≤4) (K:Out→St→CU):∀ (d i n:Nat),i+d=D→d < n →
  C4 (MC N) (CR NN [1,1,0,1,0,0]) ⟨[1,4,5,9,10],[4,5],[]⟩ n (YN l D i (i:Int)) K=K (.exit 0) (YN l D D (D:Int))
 | 0,i,n+1,hd,hn=>by
  have hi:i=D:=by omega
  subst hi;rw [DD];refine (pS N l _ _ 0 0 0 0 0 0 0 0 0 0 (cond (A2 0 i) (IH l 0) 0) (cond (A2 0 i) (HW l 0) 0) (cond (A2 1 i) (IH l 1) 0) (cond (A2 1 i) (HW l 1) 0) (cond (A2 2 i) (IH l 2) 0) (cond (A2 2 i) (HW l 2) 0) (cond (A2 3 i) (IH l 3) 0) (cond (A2 3 i) (HW l 3) 0) 0 0 _ _).trans ?_;rw [AM (show ¬ (i:Int) < (i:Int) by omega),CS];rfl
 | d+1,i,n+1,hd,hn=>by
  rw [DD,Ie N l D i (by omega) (by omega)];exact nT N l D hD K d (i+1) n (by omega) (by omega)
 | _,_,0,_,h=>by omega
theorem Jv:C5 PR B0 20 SQ:=by
 refine DC [(7,JO),(18,MH)] [(3,⟨[1,4,5,9,10],[4,5],[]⟩)] SQ [[.z,.z,.z,.z,.z,.z,.z,.z,.z,.z]] Tryz.func20 yN
  ⟨VS,dQ,trivial⟩ ?_
 intro vs r hwf h;unfold SQ at h;split at h
 ·rename_i d c b0 b1 b2 ts l;cases hc:(decide (0≤d)&&decide (d≤4)) with
  | false=>rw [hc] at h; simp [R.get] at h
  | true=>
   rw [hc,R.get_br,CP,R.get_ok] at h;simp only [AI,AO] at hc;refine ⟨10,?_⟩;rw [← h];refine (Cs 10 d c b0 b1 b2 ts l).trans ?_;obtain ⟨D,rfl⟩:∃ D:Nat,d=D:=⟨d.toNat,by omega⟩;refine (nT 10 l D (by omega) _ D 0 10 (by omega) (by omega)).trans ?_;refine (v6 10 l D D 0 0 0 0 0 0 0 0 0 0 (cond (A2 0 D) (IH l 0) 0) (cond (A2 0 D) (HW l 0) 0) (cond (A2 1 D) (IH l 1) 0) (cond (A2 1 D) (HW l 1) 0) (cond (A2 2 D) (IH l 2) 0) (cond (A2 2 D) (HW l 2) 0) (cond (A2 3 D) (IH l 3) 0) (cond (A2 3 D) (HW l 3) 0) 0 0).trans ?_;have hD:D=0∨D=1∨D=2∨D=3∨D=4:=by omega
   rcases hD with rfl | rfl | rfl | rfl | rfl <;> rfl
 ·simp [R.get] at h
theorem Jt:C5 PR B0 6 V5:=by
 refine DC [(7,JO),(20,SQ)] [] V5 [[.z,.z,.z,.z,.z,.z,.z,.z,.z,.z,.z,.z,.z,.z,.z,.bool,.z]] Tryz.func6 yL
  ⟨VS,Jv,trivial⟩ ?_
 intro vs r hwf h;unfold V5 at h;split at h
 ·rename_i k c lo size ft bu fl sp dim cls b0 b1 b2 ts;cases hc:((decide (1≤dim)&&decide (dim≤4))&&(decide (1≤cls)&&decide (cls≤3))) with
  | false=>rw [hc] at h; simp [R.get] at h
  | true=>
   rw [hc,R.get_br,CP,R.get_ok] at h;simp only [AI,AO] at hc;obtain ⟨⟨d1,d4⟩,c1,c3⟩:=hc;refine ⟨0,?_⟩;rw [← h];refine (Cq 0 k c lo size ft bu fl sp dim cls b0 b1 b2 ts).trans ?_;have w1:AA AC (cls - 1)=cls - 1:=DV (by omega) (by omega);have w2:AA AC (dim - 1)=dim - 1:=DV (by omega) (by omega);obtain ⟨m1,_,_⟩:=I3 (n:=c) (lo:=0) (hi:=cls - 1) (by omega) (by omega) (by omega);obtain ⟨m2,_,_⟩:=I3 (n:=ft) (lo:=0) (hi:=dim - 1) (by omega) (by omega) (by omega);obtain ⟨_,l1,l2⟩:=I3 (n:=lo) (lo := -9000) (hi:=9000) (by omega) (by omega) (by omega);obtain ⟨_,s1,s2⟩:=I3 (n:=size) (lo:=0) (hi:=18000) (by omega) (by omega) (by omega);have w3:AA AC (CX lo (-9000) 9000+CX size 0 18000)=CX lo (-9000) 9000+CX size 0 18000:=DV (by omega) (by omega);rw [w1,w2,w3,m1,m2,AM (show ¬ (cls - 1 - 0+1=0) by omega),AM (show ¬ (dim - 1 - 0+1=0) by omega),AE (show 0≤dim by omega),AE (show dim≤4 by omega)];unfold HC RD bI;obtain ⟨_,k1,k2⟩:=I3 (n:=k) (lo:=1) (hi:=3) (by omega) (by omega) (by omega);generalize CX k 1 3=K at k1 k2;have hK:K=1∨K=2∨K=3:=by omega
   simp only;generalize decide (cls < 2)=cl;rcases hK with rfl | rfl | rfl <;> cases cl <;> rfl
 ·simp [R.get] at h
open Go
def ME:C2
 | [.int .i64 n,.int .i64 w]=>.br (decide (w=32)) (.ok (.bool (DL n)) []) .no
 | _=>.no
def OT:C2
 | [.int .i64 a,.int .i64 w]=>.br (decide (0≤a)&&decide (a < 64)) (.ok (.bool (decide (1≤w)&&decide (w≤64 - a))) []) .no
 | _=>.no
def JY (w:Int):Int:=(18446744073709551615:Int).fdiv (2 ^ (64 - w).toNat)
def OU:C2
 | [.int .i64 w]=>.br (decide (1≤w)&&decide (w≤64)) (.ok (.int .u64 (JY w)) []) .no
 | _=>.no
def UC (a b:Int):Int:=E2 (ic (BS (AN (AJ AH) a &&& ~~~ (AN (AJ AH) b))))
def HB (x a w y:Int):Int:=P4 (UC x (JJ (JY w) a.toNat)) (EG (JJ y a.toNat) (JJ (JY w) a.toNat))
def EO (x a w:Int):Int:=EG (x.fdiv (2 ^ a.toNat)) (JY w)
def SJ:C2
 | [.int .u64 x,.int .i64 a,.int .i64 w,.int .u64 y]=>.br (decide (0≤a)&&(decide (a < 64)&&(decide (1≤w)&&decide (w≤64 - a)))) (.ok (.int .u64 (HB x a w y)) []) .no
 | _=>.no
def MF:C2
 | [.int .u64 x,.int .i64 a,.int .i64 w]=>.br (decide (0≤a)&&(decide (a < 64)&&(decide (1≤w)&&decide (w≤64 - a)))) (.ok (.int .u64 (EO x a w)) []) .no
 | _=>.no
def GW (n:Int):Int:=(CZ (n*2 ^ 32)).fdiv (2 ^ 32)
def SL:C2
 | [.int .i64 n,.int .i64 w]=>.br (decide (w=32)) (.ok (.int .i64 (GW n)) []) .no
 | _=>.no
def HY (x:Int):Int:=GW (CZ (EO x 0 32))
def SK:C2
 | [.int .u64 x,.int .i64 a,.int .i64 w]=>.br (decide (a=0)&&decide (w=32)) (.ok (.int .i64 (HY x)) []) .no
 | _=>.no
structure Nd where
 lf:Bool
 v:Int
 f:Int
 a:Int
 l:Int
 r:Int
def Nd.eq (x y:Nd):Bool:=(x.lf==y.lf)&&((x.v==y.v)&&((x.f==y.f)&&((x.a==y.a)&&((x.l==y.l)&&((x.r==y.r)&&true)))))
def Nd.zero:Nd:=⟨false,0,0,0,0,0⟩
def KX (n:Int):Bool:=decide (1≤n)&&decide (n < 31)
def TT:C2
 | [.int .i64 n]=>.ok (.bool (KX n)) []
 | _=>.no
def GG (x:Nd):Bool:=
 cond x.lf (x.eq ⟨true,x.v,0,0,0,0⟩&&DL x.v)
  ((x.v==0)&&(decide (0≤x.f)&&(decide (x.f < 4)&&(DL x.a&&(KX x.l&&KX x.r)))))
def TR:C2
 | [.agg [.bool lf,.int .i64 v,.int .i64 f,.int .i64 a,.int .i64 l,.int .i64 r]]=>.ok (.bool (GG ⟨lf,v,f,a,l,r⟩)) []
 | _=>.no
def F3 (x:Nd):Int:=
 cond (GG x)
  (cond x.lf (HB 9223372036854775808 0 32 (E2 x.v))
   (HB (HB (HB (HB 0 0 32 (E2 x.a)) 32 4 (E2 x.f)) 40 8 (E2 x.l)) 48 8 (E2 x.r)))
  0
def TQ:C2
 | [.agg [.bool lf,.int .i64 v,.int .i64 f,.int .i64 a,.int .i64 l,.int .i64 r]]=>.ok (.int .u64 (F3 ⟨lf,v,f,a,l,r⟩)) []
 | _=>.no
def IZ (w:Int):Nd:=
 cond (EO w 63 1==0) ⟨false,0,CZ (EO w 32 4),HY w,CZ (EO w 40 8),CZ (EO w 48 8)⟩ ⟨true,HY w,0,0,0,0⟩
def ES (w:Int):Bool:=!(w==0)&&(F3 (IZ w)==w)
def CQ (w:Int):Nd:=cond (ES w) (IZ w) Nd.zero
def KU:C2
 | [.int .u64 w]=>.ok (.tup [.agg [.bool (CQ w).lf,.int .i64 (CQ w).v,.int .i64 (CQ w).f,.int .i64 (CQ w).a,.int .i64 (CQ w).l,.int .i64 (CQ w).r],.bool (ES w)]) []
 | _=>.no
def TS:C2
 | [.int .i64 a,.int .i64 w,.bor [.int .u64 x]]=>.br (decide (0≤a)&&(decide (a < 64)&&(decide (1≤w)&&decide (w≤64 - a)))) (.ok (.int .i64 (CZ (EO x a w))) [[.int .u64 x]]) .no
 | _=>.no
def LS (x:Nd) (j:Nat):Nat:=cond x.lf 0 ((if x.l=(j:Int) then 1 else 0)+(if x.r=(j:Int) then 1 else 0))
def E5 (l:LI) (j:Nat):Nat:=(l.map fun w=>LS (CQ w.toInt) j).sum
def PN (dim n:Int) (i:Nat) (x:Nd):Bool:=
 cond x.lf true (!(decide (x.f≥dim))&&(!(x.l==x.r)&&(!(decide (min x.l x.r≤(i:Int)))&&!(decide (max x.l x.r≥n)))))
def IF (dim n:Int):Nat→LI→Bool
 | _,[]=>true
 | i,w :: r=>(ES w.toInt&&PN dim n i (CQ w.toInt))&&IF dim n (i+1) r
def RM (l:LI):Bool:=(List.range (l.length - 1)).all fun j=>E5 l (j+1)==1
def F7 (l:LI) (dim:Int):Bool:=(BI 1 l.length&&BI l.length 31)&&(IF dim (ic l.length) 0 l&&RM l)
def O9:C2
 | [.list false [.int .u64] l,.int .i64 dim]=>.ok (.bool (F7 l dim)) []
 | _=>.no
structure Md where
 d:Int
 c:Int
 b0:Int
 b1:Int
 b2:Int
 ts:LI
def GU (d c:Int) (t:IV):Bool:=!(decide ((t.cell 0).toInt < 0))&&(!(decide ((t.cell 0).toInt≥c))&&F7 (t.cell 1).toList d)
def FZ (c j b:Int):Bool:=DL b&&!(decide (j≥c)&&!(b==0))
def DX (m:Md):Bool:=
 (!(decide (m.d < 1))&&(!(decide (m.d > 4))&&(!(decide (m.c < 1))&&(!(decide (m.c > 3))&&BI m.ts.length 8)))) &&
  ((FZ m.c 0 m.b0&&(FZ m.c 1 m.b1&&FZ m.c 2 m.b2))&&m.ts.all (GU m.d m.c))
abbrev EU:List Kd:=[.z,.list false [.int .u64]]
def OZ:C2
 | [.agg [.int .i64 k,.list false [.int .u64] l],.bor [.int .i64 d,.int .i64 c,.int .i64 b0,.int .i64 b1,.int .i64 b2,.list true [.z,.list false [.int .u64]] ts]]=>
  .ok (.bool (!(GU d c (.agg [.int k,.list l])))) [[.int .i64 d,.int .i64 c,.int .i64 b0,.int .i64 b1,.int .i64 b2,.list true EU ts]]
 | _=>.no
def PO (d c:Int):LI→Int→Int
 | [],_ => -1
 | t :: r,i=>cond (GU d c t) (PO d c r (i+1)) i
def T1:C2
 | [.list true [.z,.list false [.int .u64]] l,.clo 73 [.bor [.int .i64 d,.int .i64 c,.int .i64 b0,.int .i64 b1,.int .i64 b2,.list true [.z,.list false [.int .u64]] ts]]]=>
  .ok (.int .i64 (PO d c l 0)) [[.int .i64 d,.int .i64 c,.int .i64 b0,.int .i64 b1,.int .i64 b2,.list true EU ts]]
 | _=>.no
def TZ:C2
 | [.list true [.z,.list false [.int .u64]] l,.clo 73 [.bor [.int .i64 d,.int .i64 c,.int .i64 b0,.int .i64 b1,.int .i64 b2,.list true [.z,.list false [.int .u64]] ts]]]=>
  .ok (.bool (!(l.all (GU d c)))) [[.int .i64 d,.int .i64 c,.int .i64 b0,.int .i64 b1,.int .i64 b2,.list true EU ts]]
 | _=>.no
def KT:C2
 | [.agg [.int .i64 d,.int .i64 c,.int .i64 b0,.int .i64 b1,.int .i64 b2,.list true [.z,.list false [.int .u64]] ts]]=>.ok (.bool (DX ⟨d,c,b0,b1,b2,ts⟩)) []
 | _=>.no
def Md.zero:Md:=⟨0,0,0,0,0,[]⟩
open Go Go.Proofs
def rU (N:Nat):Env:=DB [] [] 25 N
theorem Ce (N:Nat) (n w:Int):C6 (rU N) gB [.tmp 4] [[.bool]] [.i n,.i w]=(cond (decide (w < 1)) (some ((.bool false),[])) (cond (decide (w > 64)) (some ((.bool false),[])) (cond (decide (AA AH (AA AC (w - 1)) < 0)) none (cond (CB n (2 ^ min (AD (AA AH (AA AC (w - 1)))) (AJ AC))==0) (some ((.bool true),[])) (cond (decide (AA AH (AA AC (w - 1)) < 0)) none (some ((.bool (CB n (2 ^ min (AD (AA AH (AA AC (w - 1)))) (AJ AC)) == -1)),[]))))))):=by kernel_rfl
def rY (N:Nat):Env:=DB [] [] 21 N
theorem Ci (N:Nat) (n w:Int):C6 (rY N) gF [.tmp 4] [[.z]] [.i n,.i w]=(cond (decide (w < 1)) (some ((.i n),[])) (cond (decide (w≥64)) (some ((.i n),[])) (cond (decide (AA AH (AA AC (64 - w)) < 0)) none (cond (decide (AA AH (AA AC (64 - w)) < 0)) none (some ((.i (CB (AA AC (n*2 ^ min (AD (AA AH (AA AC (64 - w)))) (AJ AC))) (2 ^ min (AD (AA AH (AA AC (64 - w)))) (AJ AC)))),[])))))):=by kernel_rfl
def rZ (N:Nat):Env:=DB [] [] 21 N
theorem Cj (N:Nat) (atv w:Int):C6 (rZ N) gG [.tmp 4] [[.bool]] [.i atv,.i w]=(cond (decide (atv≥0)) (cond (decide (atv < 64)) (cond (decide (w≥1)) (some ((.bool (decide (w≤AA AC (64 - atv)))),[])) (some ((.bool false),[]))) (some ((.bool false),[]))) (some ((.bool false),[]))):=by kernel_rfl
def r7 (N:Nat):Env:=DB [] [] 7 N
theorem Ck (N:Nat) (w:Int):C6 (r7 N) gH [.tmp 2] [[.int .u64]] [.i w]=(cond (decide (AA AH (AA AC (64 - w)) < 0)) none (some ((.int .u64 (CB 18446744073709551615 (2 ^ min (AD (AA AH (AA AC (64 - w)))) (AJ AH)))),[]))):=by kernel_rfl
def rW (N:Nat):Env:=DB [(101,OT),(102,OU)] [] 30 N
theorem Cg (N:Nat) (x atv w y:Int):C6 (rW N) gD [.tmp 8] [[.int .u64]] [.int .u64 x,.i atv,.i w,.int .u64 y]=(cond (decide (0≤atv)&&decide (atv < 64)) (cond (! (decide (1≤w)&&decide (w≤64 - atv))) (some ((.int .u64 x),[])) (cond (decide (1≤w)&&decide (w≤64)) (cond (decide (AA AH atv < 0)) none (cond (decide (AA AH atv < 0)) none (some ((.int .u64 (AA AH (ic (BS (AN (AJ AH) (AA AH (ic (BS (AN (AJ AH) x &&& ~~~AN (AJ AH) (AA AH (JY w*2 ^ min (AD (AA AH atv)) (AJ AH))))))) ||| AN (AJ AH) (AA AH (ic (BS (AN (AJ AH) (AA AH (y*2 ^ min (AD (AA AH atv)) (AJ AH))) &&& AN (AJ AH) (AA AH (JY w*2 ^ min (AD (AA AH atv)) (AJ AH)))))))))))),[])))) none)) none):=by kernel_rfl
def rV (N:Nat):Env:=DB [(101,OT),(102,OU)] [] 18 N
theorem Cf (N:Nat) (x atv w:Int):C6 (rV N) gC [.tmp 6] [[.int .u64]] [.int .u64 x,.i atv,.i w]=(cond (decide (0≤atv)&&decide (atv < 64)) (cond (! (decide (1≤w)&&decide (w≤64 - atv))) (some ((.int .u64 0),[])) (cond (decide (AA AH atv < 0)) none (cond (decide (1≤w)&&decide (w≤64)) (some ((.int .u64 (AA AH (ic (BS (AN (AJ AH) (CB x (2 ^ min (AD (AA AH atv)) (AJ AH))) &&& AN (AJ AH) (JY w)))))),[])) none))) none):=by kernel_rfl
def rX (N:Nat):Env:=DB [(94,MF),(100,SL)] [] 14 N
theorem Ch (N:Nat) (x atv w:Int):C6 (rX N) gE [.tmp 6] [[.z]] [.int .u64 x,.i atv,.i w]=(cond (decide (0≤atv)&&(decide (atv < 64)&&(decide (1≤w)&&decide (w≤64 - atv)))) (cond (decide (w=32)) (some ((.i (GW (AA AC (EO x atv w)))),[])) none) none):=by kernel_rfl
def tB (N:Nat):Env:=DB [] [] 9 N
theorem Et (N:Nat) (n:Int):C6 (tB N) iK [.tmp 2] [[.bool]] [.i n]=(cond (decide (n≥1)) (some ((.bool (decide (n < 31))),[])) (some ((.bool false),[]))):=by kernel_rfl
def s8 (N:Nat):Env:=DB [(71,ME),(116,TT)] [] 43 N
theorem Ep (N:Nat) (u01:Bool) (u04 u00 n_At u02 u03:Int):C6 (s8 N) iH [.tmp 2] [[.bool]] [.agg [.bool u01,.i u04,.i u00,.i n_At,.i u02,.i u03]]=(cond u01 (cond (u01==true&&(u04==u04&&(u00==0&&(n_At==0&&(u02==0&&(u03==0&&true)))))) (some ((.bool (DL u04)),[])) (some ((.bool false),[]))) (cond (u04==0) (cond (decide (u00≥0)) (cond (decide (u00 < 4)) (cond (DL n_At) (cond (KX u02) (some ((.bool (KX u03)),[])) (some ((.bool false),[]))) (some ((.bool false),[]))) (some ((.bool false),[]))) (some ((.bool false),[]))) (some ((.bool false),[])))):=by kernel_rfl
def s7 (N:Nat):Env:=DB [(104,SJ),(103,TR)] [] 32 N
theorem Eo (N:Nat) (u01:Bool) (u04 u00 n_At u02 u03:Int):C6 (s7 N) iG [.tmp 2] [[.int .u64]] [.agg [.bool u01,.i u04,.i u00,.i n_At,.i u02,.i u03]]=(cond (!GG {lf:=u01,v:=u04,f:=u00,a:=n_At,l:=u02,r:=u03}) (some ((.int .u64 0),[])) (cond u01 (some ((.int .u64 (HB 9223372036854775808 0 32 (AA AH u04))),[])) (some ((.int .u64 (HB (HB (HB (HB 0 0 32 (AA AH n_At)) 32 4 (AA AH u00)) 40 8 (AA AH u02)) 48 8 (AA AH u03))),[])))):=by kernel_rfl
def tA (N:Nat):Env:=DB [(94,MF)] [] 11 N
theorem Es (N:Nat) (a w x:Int):C6 (tA N) iJ [.tmp 5] [[.z]] [.i a,.i w,.bor [.int .u64 x]]=(cond (decide (0≤a)&&(decide (a < 64)&&(decide (1≤w)&&decide (w≤64 - a)))) (some ((.i (AA AC (EO x a w))),[[.int .u64 x]])) none):=by kernel_rfl
def s9 (N:Nat):Env:=DB [(94,MF),(93,SK),(96,TQ),(95,TS)] [] 33 N
theorem Er (N:Nat) (w:Int):C6 (s9 N) iI [.cell 2 89,.tmp 3] [[.bool,.z,.z,.z,.z,.z],[.bool]] [.int .u64 w]=(cond (EO w 63 1==0) (cond (w==0) (some ((.tup [.agg [.bool false,.i 0,.i 0,.i 0,.i 0,.i 0],.bool false]),[])) (cond (F3 {lf:=false,v:=0,f:=CZ (EO w 32 4),a:=HY w,l:=CZ (EO w 40 8),r:=CZ (EO w 48 8)} != w) (some ((.tup [.agg [.bool false,.i 0,.i 0,.i 0,.i 0,.i 0],.bool false]),[])) (some ((.tup [.agg [.bool false,.i 0,.i (CZ (EO w 32 4)),.i (HY w),.i (CZ (EO w 40 8)),.i (CZ (EO w 48 8))],.bool true]),[])))) (cond (w==0) (some ((.tup [.agg [.bool false,.i 0,.i 0,.i 0,.i 0,.i 0],.bool false]),[])) (cond (F3 {lf:=true,v:=HY w,f:=0,a:=0,l:=0,r:=0} != w) (some ((.tup [.agg [.bool false,.i 0,.i 0,.i 0,.i 0,.i 0],.bool false]),[])) (some ((.tup [.agg [.bool true,.i (HY w),.i 0,.i 0,.i 0,.i 0],.bool true]),[]))))):=by kernel_rfl
open Go Go.Proofs
theorem eI {n:Int} (h0:0≤n) (h1:n < 18446744073709551616):AA AH n=n:=by
 rw [OD];omega
theorem dN:C5 PR B0 71 ME:=by
 refine DC [] [] ME [[.bool]] Tryz.func71 xX trivial ?_;intro vs r hwf h;unfold ME at h;split at h
 ·rename_i n w;cases hc:decide (w=32) with
  | false=>rw [hc] at h; simp [R.get] at h
  | true=>
   rw [hc,R.get_br,CP,R.get_ok] at h;have hc:=A4 hc;subst hc;refine ⟨0,?_⟩;rw [← h];refine (Ce 0 n 32).trans ?_;have e3:decide (AA AH (AA AC ((32:Int) - 1)) < 0)=false:=by kernel_rfl
   have e4:(2:Int) ^ min (AD (AA AH (AA AC ((32:Int) - 1)))) (AJ AC)=2147483648:=by kernel_rfl
   rw [e3,e4,AM (show ¬ (32:Int) < 1 by omega),AM (show ¬ (32:Int) > 64 by omega),CS,CS,CS,CS];have h0:=Int.fdiv_mul_add_fmod n 2147483648;have h1:=Int.fmod_nonneg_of_pos n (show (0:Int) < 2147483648 by omega);have h2:=Int.fmod_lt_of_pos n (show (0:Int) < 2147483648 by omega);generalize CB n 2147483648=q at h0 ⊢;generalize Int.fmod n 2147483648=m at h0 h1 h2;unfold DL;rw [ZJ,ZJ];cases hq:decide (q=0) with
   | true=>
    have hq:=A4 hq;rw [AE (show -2147483648≤n by omega),AE (show n≤2147483647 by omega)];rfl
   | false=>
    have hq:=A8 hq;cases hp:decide (q = -1) with
    | true=>
     have hp:=A4 hp;rw [AE (show -2147483648≤n by omega),AE (show n≤2147483647 by omega)];rfl
    | false=>
     have hp:=A8 hp;rw [CS];congr 3
     symm
     rw [Bool.and_eq_false_iff,CO,CO];omega
 ·simp [R.get] at h
theorem Jo:C5 PR B0 100 SL:=by
 refine DC [] [] SL [[.z]] Tryz.func100 yA trivial ?_;intro vs r hwf h;unfold SL at h;split at h
 ·rename_i n w;cases hc:decide (w=32) with
  | false=>rw [hc] at h; simp [R.get] at h
  | true=>
   rw [hc,R.get_br,CP,R.get_ok] at h;have hc:=A4 hc;subst hc;refine ⟨0,?_⟩;rw [← h];refine (Ci 0 n 32).trans ?_;have e3:decide (AA AH (AA AC ((64:Int) - 32)) < 0)=false:=by kernel_rfl
   have e4:min (AD (AA AH (AA AC ((64:Int) - 32)))) (AJ AC)=32:=by kernel_rfl
   rw [e3,e4,AM (show ¬ (32:Int) < 1 by omega),AM (show ¬ (32:Int)≥64 by omega),CS,CS,CS,CS];rfl
 ·simp [R.get] at h
theorem oX:C5 PR B0 101 OT:=by
 refine DC [] [] OT [[.bool]] Tryz.func101 yB trivial ?_;intro vs r hwf h;unfold OT at h;split at h
 ·rename_i a w;cases hc:(decide (0≤a)&&decide (a < 64)) with
  | false=>rw [hc] at h; simp [R.get] at h
  | true=>
   rw [hc,R.get_br,CP,R.get_ok] at h;rw [AI,AO,AO] at hc;refine ⟨0,?_⟩;rw [← h];refine (Cj 0 a w).trans ?_;have e:AA AC (64 - a)=64 - a:=DV (by omega) (by omega);have e1:decide (w≥1)=decide (1≤w):=rfl;rw [AE (show a≥0 by omega),AE hc.2,CP,CP,e,e1];cases decide (1≤w) <;> rfl
 ·simp [R.get] at h
theorem oY:C5 PR B0 102 OU:=by
 refine DC [] [] OU [[.int .u64]] Tryz.func102 yC trivial ?_;intro vs r hwf h;unfold OU at h;split at h
 ·rename_i w;cases hc:(decide (1≤w)&&decide (w≤64)) with
  | false=>rw [hc] at h; simp [R.get] at h
  | true=>
   rw [hc,R.get_br,CP,R.get_ok] at h;rw [AI,AO,AO] at hc;refine ⟨0,?_⟩;rw [← h];refine (Ck 0 w).trans ?_;have e:AA AC (64 - w)=64 - w:=DV (by omega) (by omega);have e2:AA AH (64 - w)=64 - w:=eI (by omega) (by omega);have e3:min (64 - w).toNat (AJ AH)=(64 - w).toNat:=by
    have:AJ AH=64:=rfl
    omega
   rw [e,e2,e3,AM (show ¬ (64 - w < 0) by omega),CS];rfl
 ·simp [R.get] at h
theorem j9 {a w:Int} (hc:(decide (0≤a)&&(decide (a < 64)&&(decide (1≤w)&&decide (w≤64 - a))))=true):0≤a∧a < 64∧1≤w∧w≤64 - a:=by
 simpa only [AI,AO] using hc
theorem Jl:C5 PR B0 104 SJ:=by
 refine DC [(101,OT),(102,OU)] [] SJ [[.int .u64]] Tryz.func104 xZ ⟨oX,oY,trivial⟩ ?_;intro vs r hwf h;unfold SJ at h;split at h
 ·rename_i x a w y;cases hc:(decide (0≤a)&&(decide (a < 64)&&(decide (1≤w)&&decide (w≤64 - a)))) with
  | false=>rw [hc] at h; simp [R.get] at h
  | true=>
   rw [hc,R.get_br,CP,R.get_ok] at h;obtain ⟨h1,h2,h3,h4⟩:=j9 hc;refine ⟨0,?_⟩;rw [← h];refine (Cg 0 x a w y).trans ?_;have e2:AA AH a=a:=eI (by omega) (by omega);have e3:min a.toNat (AJ AH)=a.toNat:=by
    have:AJ AH=64:=rfl
    omega
   rw [e2,e3,AE h1,AE h2,AE h3,AE h4,AE (show w≤64 by omega),AM (show ¬ a < 0 by omega)];simp only [BE,A5,CP,CS];rfl
 ·simp [R.get] at h
theorem dO:C5 PR B0 94 MF:=by
 refine DC [(101,OT),(102,OU)] [] MF [[.int .u64]] Tryz.func94 xY ⟨oX,oY,trivial⟩ ?_;intro vs r hwf h;unfold MF at h;split at h
 ·rename_i x a w;cases hc:(decide (0≤a)&&(decide (a < 64)&&(decide (1≤w)&&decide (w≤64 - a)))) with
  | false=>rw [hc] at h; simp [R.get] at h
  | true=>
   rw [hc,R.get_br,CP,R.get_ok] at h;obtain ⟨h1,h2,h3,h4⟩:=j9 hc;refine ⟨0,?_⟩;rw [← h];refine (Cf 0 x a w).trans ?_;have e2:AA AH a=a:=eI (by omega) (by omega);have e3:min a.toNat (AJ AH)=a.toNat:=by
    have:AJ AH=64:=rfl
    omega
   rw [e2,e3,AE h1,AE h2,AE h3,AE h4,AE (show w≤64 by omega),AM (show ¬ a < 0 by omega)];simp only [BE,A5,CP,CS];rfl
 ·simp [R.get] at h
theorem Jm:C5 PR B0 93 SK:=by
 refine DC [(94,MF),(100,SL)] [] SK [[.z]] Tryz.func93 x2 ⟨dO,Jo,trivial⟩ ?_;intro vs r hwf h;unfold SK at h;split at h
 ·rename_i x a w;cases hc:(decide (a=0)&&decide (w=32)) with
  | false=>rw [hc] at h; simp [R.get] at h
  | true=>
   rw [hc,R.get_br,CP,R.get_ok] at h;rw [AI,AO,AO] at hc;obtain ⟨rfl,rfl⟩:=hc;refine ⟨0,?_⟩;rw [← h];refine (Ch 0 x 0 32).trans ?_;rfl
 ·simp [R.get] at h
theorem Lm:C5 PR B0 116 TT:=by
 refine DC [] [] TT [[.bool]] Tryz.func116 z9 trivial ?_;intro vs r hwf h;unfold TT at h;split at h
 ·rename_i n;refine ⟨0,?_⟩;rw [R.get_ok] at h;rw [← h];refine (Et 0 n).trans ?_;unfold KX;have e1:decide (n≥1)=decide (1≤n):=rfl;rw [e1];cases decide (1≤n) <;> rfl
 ·simp [R.get] at h
theorem Lk:C5 PR B0 103 TR:=by
 refine DC [(71,ME),(116,TT)] [] TR [[.bool]] Tryz.func103 z6 ⟨dN,Lm,trivial⟩ ?_;intro vs r hwf h;unfold TR at h;split at h
 ·rename_i lf v f a l r';refine ⟨0,?_⟩;rw [← h];refine (Ep 0 lf v f a l r').trans ?_;simp only [R.get_ok,jI];unfold GG;cases lf with
  | true=>rfl
  | false=>rfl
 ·simp [R.get] at h
theorem Lj:C5 PR B0 96 TQ:=by
 refine DC [(104,SJ),(103,TR)] [] TQ [[.int .u64]] Tryz.func96 z5 ⟨Jl,Lk,trivial⟩ ?_;intro vs r hwf h;unfold TQ at h;split at h
 ·rename_i lf v f a l r';refine ⟨0,?_⟩;rw [← h];refine (Eo 0 lf v f a l r').trans ?_;unfold F3;cases GG ⟨lf,v,f,a,l,r'⟩ with
  | false=>rfl
  | true=>cases lf <;> rfl
 ·simp [R.get] at h
theorem Ll:C5 PR B0 95 TS:=by
 refine DC [(94,MF)] [] TS [[.z]] Tryz.func95 z8 ⟨dO,trivial⟩ ?_;intro vs r hwf h;unfold TS at h;split at h
 ·rename_i a w x;cases hc:(decide (0≤a)&&(decide (a < 64)&&(decide (1≤w)&&decide (w≤64 - a)))) with
  | false=>rw [hc] at h; simp [R.get] at h
  | true=>
   rw [hc,R.get_br,CP,R.get_ok] at h;refine ⟨0,?_⟩;rw [← h];refine (Es 0 a w x).trans ?_;rw [hc];rfl
 ·simp [R.get] at h
theorem YK:C5 PR B0 84 KU:=by
 refine DC [(94,MF),(93,SK),(96,TQ),(95,TS)] [] KU [[.bool,.z,.z,.z,.z,.z],[.bool]] Tryz.func84 z7 ⟨dO,Jm,Lj,Ll,trivial⟩ ?_;intro vs r hwf h;unfold KU at h;split at h
 ·rename_i w;refine ⟨0,?_⟩;rw [← h];refine (Er 0 w).trans ?_;rw [R.get_ok];unfold CQ ES IZ;cases (EO w 63 1==0) with
  | true=>
   simp only [BO];cases hw:(w==0) with
   | true=>rfl
   | false=>
    simp only [BB,BJ,BH];have e:(F3 ⟨false,0,CZ (EO w 32 4),HY w,CZ (EO w 40 8),CZ (EO w 48 8)⟩ != w)=!(F3 ⟨false,0,CZ (EO w 32 4),HY w,CZ (EO w 40 8),CZ (EO w 48 8)⟩==w):=rfl;rw [e];cases (F3 ⟨false,0,CZ (EO w 32 4),HY w,CZ (EO w 40 8),CZ (EO w 48 8)⟩==w) <;> rfl
  | false=>
   simp only [BB];cases hw:(w==0) with
   | true=>rfl
   | false=>
    simp only [BB,BJ,BH];have e:(F3 ⟨true,HY w,0,0,0,0⟩ != w)=!(F3 ⟨true,HY w,0,0,0,0⟩==w):=rfl;rw [e];cases (F3 ⟨true,HY w,0,0,0,0⟩==w) <;> rfl
 ·simp [R.get] at h
open Go Go.Proofs
def FH (N:Nat):Env:=DB [(84,KU)] [(5,⟨[0,1,4,5,23,24,25],[22],[]⟩),(17,⟨[4,85,86,87],[22],[]⟩)] 94 N
abbrev J7 (l0:LI) (x1:Int) (b4:Bool) (n5:Nat) (l23:LI) (x24 x25:Int) (lo22:LI):St:=⟨[(0,(.list false [.int .u64] l0)),(1,(.i x1)),(4,(.bool b4)),(5,(.row 22 0 n5)),(23,(.list false [.int .u64] l23)),(24,(.i x24)),(25,(.i x25))],[(22,(some (.row true 3 false [.z] lo22)))]⟩
abbrev OP (b4:Bool) (n85:Nat) (x86 x87:Int) (lo22:LI):St:=⟨[(4,(.bool b4)),(85,(.row 22 1 n85)),(86,(.i x86)),(87,(.i x87))],[(22,(some (.row true 3 false [.z] lo22)))]⟩
theorem Fs (N:Nat) (l:LI) (a1:Int):C6 (FH N) H6 [.tmp 4] [[.bool]] [.list false [.int .u64] l,.i a1]=(cond (decide (ic (AF l) < 1)) (some ((.bool false),[])) (cond (decide (ic (AF l) > 31)) (some ((.bool false),[])) (cond (A2 0 (TI.size (Env.tyd (FH N) 3))&&(A2 3 1000000&&decide (0≤ic (AF l)))&&(decide (ic (AF l)=ic (AF l))&&decide (ic (AF l)*ic (TI.bytes (Env.tyd (FH N) 3))≤ic DJ))) (C4 (FH N) (CR H6 [1,1,1,0,1,0,0]) ⟨[0,1,4,5,23,24,25],[22],[]⟩ N (J7 l a1 false (AD (ic (AF l))) l (ic (AF l)) 0 (vad (AD (ic (AF l))) (IV.int 0))) (CY 0 (C0 (FH N) (CR H6 [1,1,1,1]) (C1 (FH N) none [.tmp 4] [[.bool]])))) none))):=by kernel_rfl
theorem qQ (N:Nat) (l0:LI) (x1:Int) (b4:Bool) (n5:Nat) (l23:LI) (x24 x25:Int) (lo22:LI) (again:St→CU) (k:Out→St→CU):D9 (FH N) (CR H6 [1,1,1,0,1,0,0]) (J7 l0 x1 b4 n5 l23 x24 x25 lo22) (D4 again ⟨[0,1,4,5,23,24,25],[22],[]⟩ k)=(cond (decide (x25 < x24)) (cond (decide (0≤x25)&&decide (x25 < ic (AF l23))) (cond (!ES (IV.toInt (AG l23 (AD x25) default))) (k .ret (J7 l0 x1 false n5 l23 x24 x25 lo22)) (cond (Nd.lf (CQ (IV.toInt (AG l23 (AD x25) default)))) (again (J7 l0 x1 b4 n5 l23 x24 (AA AC (x25+1)) lo22)) (cond (decide (Nd.f (CQ (IV.toInt (AG l23 (AD x25) default)))≥x1)) (k .ret (J7 l0 x1 false n5 l23 x24 x25 lo22)) (cond (Nd.l (CQ (IV.toInt (AG l23 (AD x25) default)))==Nd.r (CQ (IV.toInt (AG l23 (AD x25) default)))) (k .ret (J7 l0 x1 false n5 l23 x24 x25 lo22)) (cond (decide (min (Nd.l (CQ (IV.toInt (AG l23 (AD x25) default)))) (Nd.r (CQ (IV.toInt (AG l23 (AD x25) default))))≤x25)) (k .ret (J7 l0 x1 false n5 l23 x24 x25 lo22)) (cond (decide (max (Nd.l (CQ (IV.toInt (AG l23 (AD x25) default)))) (Nd.r (CQ (IV.toInt (AG l23 (AD x25) default))))≥ic (AF l0))) (k .ret (J7 l0 x1 false n5 l23 x24 x25 lo22)) (cond (decide (0≤Nd.l (CQ (IV.toInt (AG l23 (AD x25) default))))&&decide (Nd.l (CQ (IV.toInt (AG l23 (AD x25) default))) < ic (n5 - 0))) (cond (decide (0≤Nd.l (CQ (IV.toInt (AG l23 (AD x25) default))))&&decide (Nd.l (CQ (IV.toInt (AG l23 (AD x25) default))) < ic (n5 - 0))) (cond (decide (0≤Nd.r (CQ (IV.toInt (AG l23 (AD x25) default))))&&decide (Nd.r (CQ (IV.toInt (AG l23 (AD x25) default))) < ic (n5 - 0))) (cond (decide (0≤Nd.r (CQ (IV.toInt (AG l23 (AD x25) default))))&&decide (Nd.r (CQ (IV.toInt (AG l23 (AD x25) default))) < ic (n5 - 0))) (again (J7 l0 x1 b4 n5 l23 x24 (AA AC (x25+1)) (vaH (vaH lo22 (0+AD (Nd.l (CQ (IV.toInt (AG l23 (AD x25) default))))) (HO false [Kd.int AC] (AG lo22 (0+AD (Nd.l (CQ (IV.toInt (AG l23 (AD x25) default))))) default) 0 [IV.int (AA AC (IV.toInt (AG lo22 (0+AD (Nd.l (CQ (IV.toInt (AG l23 (AD x25) default))))) default)+1))])) (0+AD (Nd.r (CQ (IV.toInt (AG l23 (AD x25) default))))) (HO false [Kd.int AC] (AG (vaH lo22 (0+AD (Nd.l (CQ (IV.toInt (AG l23 (AD x25) default))))) (HO false [Kd.int AC] (AG lo22 (0+AD (Nd.l (CQ (IV.toInt (AG l23 (AD x25) default))))) default) 0 [IV.int (AA AC (IV.toInt (AG lo22 (0+AD (Nd.l (CQ (IV.toInt (AG l23 (AD x25) default))))) default)+1))])) (0+AD (Nd.r (CQ (IV.toInt (AG l23 (AD x25) default))))) default) 0 [IV.int (AA AC (IV.toInt (AG (vaH lo22 (0+AD (Nd.l (CQ (IV.toInt (AG l23 (AD x25) default))))) (HO false [Kd.int AC] (AG lo22 (0+AD (Nd.l (CQ (IV.toInt (AG l23 (AD x25) default))))) default) 0 [IV.int (AA AC (IV.toInt (AG lo22 (0+AD (Nd.l (CQ (IV.toInt (AG l23 (AD x25) default))))) default)+1))])) (0+AD (Nd.r (CQ (IV.toInt (AG l23 (AD x25) default))))) default)+1))])))) none) none) none) none))))))) none) (k (.exit 0) (J7 l0 x1 b4 n5 l23 x24 x25 lo22))):=by kernel_rfl
theorem xJ (N:Nat) (l0:LI) (x1:Int) (b4:Bool) (n5:Nat) (l23:LI) (x24 x25:Int) (lo22:LI):(CY 0 (C0 (FH N) (CR H6 [1,1,1,1]) (C1 (FH N) none [.tmp 4] [[.bool]]))) (.exit 0) (J7 l0 x1 b4 n5 l23 x24 x25 lo22)=(cond (decide (0≤1)&&decide (1≤ic (n5 - 0))) (C4 (FH N) (CR H6 [1,1,1,1,0,1,0,0]) ⟨[4,85,86,87],[22],[]⟩ N (OP b4 (0+(n5 - 0)) (ic (0+(n5 - 0) - 1)) 0 lo22) (CY 2 (C0 (FH N) (CR H6 [1,1,1,1,1]) (C1 (FH N) none [.tmp 4] [[.bool]])))) none):=by kernel_rfl
theorem xK (N:Nat) (l0:LI) (x1:Int) (b4:Bool) (n5:Nat) (l23:LI) (x24 x25:Int) (lo22:LI):(CY 0 (C0 (FH N) (CR H6 [1,1,1,1]) (C1 (FH N) none [.tmp 4] [[.bool]]))) .ret (J7 l0 x1 b4 n5 l23 x24 x25 lo22)=(some ((.bool b4),[])):=by kernel_rfl
theorem qR (N:Nat) (b4:Bool) (n85:Nat) (x86 x87:Int) (lo22:LI) (again:St→CU) (k:Out→St→CU):D9 (FH N) (CR H6 [1,1,1,1,0,1,0,0]) (OP b4 n85 x86 x87 lo22) (D4 again ⟨[4,85,86,87],[22],[]⟩ k)=(cond (decide (x87 < x86)) (cond (decide (0≤x87)&&decide (x87 < ic (n85 - 1))) (cond (IV.toInt (AG lo22 (1+AD x87) default) != 1) (k .ret (OP false n85 x86 x87 lo22)) (again (OP b4 n85 x86 (AA AC (x87+1)) lo22))) none) (k (.exit 2) (OP b4 n85 x86 x87 lo22))):=by kernel_rfl
theorem xL (N:Nat) (b4:Bool) (n85:Nat) (x86 x87:Int) (lo22:LI):(CY 2 (C0 (FH N) (CR H6 [1,1,1,1,1]) (C1 (FH N) none [.tmp 4] [[.bool]]))) (.exit 2) (OP b4 n85 x86 x87 lo22)=(some ((.bool true),[])):=by kernel_rfl
theorem xM (N:Nat) (b4:Bool) (n85:Nat) (x86 x87:Int) (lo22:LI):(CY 2 (C0 (FH N) (CR H6 [1,1,1,1,1]) (C1 (FH N) none [.tmp 4] [[.bool]]))) .ret (OP b4 n85 x86 x87 lo22)=(some ((.bool b4),[])):=by kernel_rfl
def s6 (N:Nat):Env:=DB [(74,O9)] [] 22 N
theorem Ek (N:Nat) (k:Int) (l:LI) (d c b0 b1 b2:Int) (ts:LI):C6 (s6 N) iF [.tmp 3] [[.bool]] [.agg [.i k,.list false [.int .u64] l],.bor [.i d,.i c,.i b0,.i b1,.i b2,.list true [.z,.list false [.int .u64]] ts]]=(cond (decide (k < 0)) (some ((.bool true),[[.i d,.i c,.i b0,.i b1,.i b2,.list true [.z,.list false [.int .u64]] ts]])) (cond (decide (k≥c)) (some ((.bool true),[[.i d,.i c,.i b0,.i b1,.i b2,.list true [.z,.list false [.int .u64]] ts]])) (some ((.bool (!F7 l d)),[[.i d,.i c,.i b0,.i b1,.i b2,.list true [.z,.list false [.int .u64]] ts]])))):=by kernel_rfl
def KA (N:Nat):Env:=DB [(73,OZ)] [(2,⟨[0,1,4,7,8],[900000],[]⟩)] 19 N
abbrev OO (l0:LI) (x4 x7 x8 u01 u02 u03 u04 u05:Int) (u00:LI):St:=⟨[(0,(.list true [.z,.list false [.int .u64]] l0)),(1,(.clo 73 [.ptr 900000 0 0])),(4,(.i x4)),(7,(.i x7)),(8,(.i x8))],[(900000,(some (.box [.i u01,.i u02,.i u03,.i u04,.i u05,.list true [.z,.list false [.int .u64]] u00])))]⟩
theorem Fj (N:Nat) (l:LI) (d c b0 b1 b2:Int) (ts:LI):C6 (KA N) MR [.tmp 4] [[.z]] [.list true [.z,.list false [.int .u64]] l,.clo 73 [.bor [.i d,.i c,.i b0,.i b1,.i b2,.list true [.z,.list false [.int .u64]] ts]]]=(C4 (KA N) (CR MR [1,0,1,0,0]) ⟨[0,1,4,7,8],[900000],[]⟩ N (OO l 0 (ic (AF l)) 0 d c b0 b1 b2 ts) (CY 0 (C0 (KA N) (CR MR [1,1]) (C1 (KA N) (some [.i d,.i c,.i b0,.i b1,.i b2,.list true [.z,.list false [.int .u64]] ts]) [.tmp 4] [[.z]])))):=by kernel_rfl
theorem qP (N:Nat) (l0:LI) (x4 x7 x8 u01 u02 u03 u04 u05:Int) (u00:LI) (again:St→CU) (k:Out→St→CU):D9 (KA N) (CR MR [1,0,1,0,0]) (OO l0 x4 x7 x8 u01 u02 u03 u04 u05 u00) (D4 again ⟨[0,1,4,7,8],[900000],[]⟩ k)=(cond (decide (x8 < x7)) (cond (decide (0≤x8)&&decide (x8 < ic (AF l0))) (cond (!GU u01 u02 (IV.agg [IV.int (IV.toInt (IV.cell (AG l0 (AD x8) default) 0)),IV.list (IV.toList (IV.cell (AG l0 (AD x8) default) 1))])) (k .ret (OO l0 x8 x7 x8 u01 u02 u03 u04 u05 u00)) (again (OO l0 x4 x7 (AA AC (x8+1)) u01 u02 u03 u04 u05 u00))) none) (k (.exit 0) (OO l0 x4 x7 x8 u01 u02 u03 u04 u05 u00))):=by kernel_rfl
theorem xH (N:Nat) (d c b0 b1 b2:Int) (ts l0:LI) (x4 x7 x8 u01 u02 u03 u04 u05:Int) (u00:LI):(CY 0 (C0 (KA N) (CR MR [1,1]) (C1 (KA N) (some [.i d,.i c,.i b0,.i b1,.i b2,.list true [.z,.list false [.int .u64]] ts]) [.tmp 4] [[.z]]))) (.exit 0) (OO l0 x4 x7 x8 u01 u02 u03 u04 u05 u00)=(some ((.i (-1)),[[.i u01,.i u02,.i u03,.i u04,.i u05,.list true [.z,.list false [.int .u64]] u00]])):=by kernel_rfl
theorem xI (N:Nat) (d c b0 b1 b2:Int) (ts l0:LI) (x4 x7 x8 u01 u02 u03 u04 u05:Int) (u00:LI):(CY 0 (C0 (KA N) (CR MR [1,1]) (C1 (KA N) (some [.i d,.i c,.i b0,.i b1,.i b2,.list true [.z,.list false [.int .u64]] ts]) [.tmp 4] [[.z]]))) .ret (OO l0 x4 x7 x8 u01 u02 u03 u04 u05 u00)=(some ((.i x4),[[.i u01,.i u02,.i u03,.i u04,.i u05,.list true [.z,.list false [.int .u64]] u00]])):=by kernel_rfl
def tJ (N:Nat):Env:=DB [(90,T1)] [] 9 N
theorem Fi (N:Nat) (l:LI) (d c b0 b1 b2:Int) (ts:LI):C6 (tJ N) iS [.tmp 4] [[.bool]] [.list true [.z,.list false [.int .u64]] l,.clo 73 [.bor [.i d,.i c,.i b0,.i b1,.i b2,.list true [.z,.list false [.int .u64]] ts]]]=(some ((.bool (decide (PO d c l 0≥0))),[[.i d,.i c,.i b0,.i b1,.i b2,.list true [.z,.list false [.int .u64]] ts]])):=by kernel_rfl
def JM (N:Nat):Env:=DB [(71,ME),(73,OZ),(72,TZ)] [(4,⟨[1,2,30,31],[1,53005],[]⟩)] 54 N
abbrev HS (b2:Bool) (u01 u02 u03 x31 u04 u05 u06 u07 u08:Int) (u00:LI):St:=⟨[(1,(.ptr 1 0 0)),(2,(.bool b2)),(30,(.agg [.i u01,.i u02,.i u03])),(31,(.i x31))],[(1,(some (.box [.i u04,.i u05,.i u06,.i u07,.i u08,.list true [.z,.list false [.int .u64]] u00]))),(53005,none)]⟩
theorem Ej (N:Nat) (u04 u03 u00 u01 u02:Int) (u05:LI):C6 (JM N) LH [.tmp 2] [[.bool]] [.agg [.i u04,.i u03,.i u00,.i u01,.i u02,.list true [.z,.list false [.int .u64]] u05]]=(cond (decide (u04 < 1)) (some ((.bool false),[])) (cond (decide (u04 > 4)) (some ((.bool false),[])) (cond (decide (u03 < 1)) (some ((.bool false),[])) (cond (decide (u03 > 3)) (some ((.bool false),[])) (cond (decide (ic (AF u05) > 8)) (some ((.bool false),[])) (C4 (JM N) (CR LH [1,1,0,1,0,0]) ⟨[1,2,30,31],[1,53005],[]⟩ N (HS false u00 u01 u02 0 u04 u03 u00 u01 u02 u05) (CY 0 (C0 (JM N) (CR LH [1,1,1]) (C1 (JM N) none [.tmp 2] [[.bool]]))))))))):=by kernel_rfl
theorem qA (N:Nat) (b2:Bool) (u01 u02 u03 x31 u04 u05 u06 u07 u08:Int) (u00:LI) (again:St→CU) (k:Out→St→CU):D9 (JM N) (CR LH [1,1,0,1,0,0]) (HS b2 u01 u02 u03 x31 u04 u05 u06 u07 u08 u00) (D4 again ⟨[1,2,30,31],[1,53005],[]⟩ k)=(cond (decide (x31 < 3)) (cond (decide (x31=ic 0)) (cond (!DL u01) (k .ret (HS false u01 u02 u03 x31 u04 u05 u06 u07 u08 u00)) (cond (decide (x31≥u05)) (cond (u01 != 0) (k .ret (HS false u01 u02 u03 x31 u04 u05 u06 u07 u08 u00)) (again (HS b2 u01 u02 u03 (AA AC (x31+1)) u04 u05 u06 u07 u08 u00))) (again (HS b2 u01 u02 u03 (AA AC (x31+1)) u04 u05 u06 u07 u08 u00)))) (cond (decide (x31=ic 1)) (cond (!DL u02) (k .ret (HS false u01 u02 u03 x31 u04 u05 u06 u07 u08 u00)) (cond (decide (x31≥u05)) (cond (u02 != 0) (k .ret (HS false u01 u02 u03 x31 u04 u05 u06 u07 u08 u00)) (again (HS b2 u01 u02 u03 (AA AC (x31+1)) u04 u05 u06 u07 u08 u00))) (again (HS b2 u01 u02 u03 (AA AC (x31+1)) u04 u05 u06 u07 u08 u00)))) (cond (decide (x31=ic 2)) (cond (!DL u03) (k .ret (HS false u01 u02 u03 x31 u04 u05 u06 u07 u08 u00)) (cond (decide (x31≥u05)) (cond (u03 != 0) (k .ret (HS false u01 u02 u03 x31 u04 u05 u06 u07 u08 u00)) (again (HS b2 u01 u02 u03 (AA AC (x31+1)) u04 u05 u06 u07 u08 u00))) (again (HS b2 u01 u02 u03 (AA AC (x31+1)) u04 u05 u06 u07 u08 u00)))) none))) (k (.exit 0) (HS b2 u01 u02 u03 x31 u04 u05 u06 u07 u08 u00))):=by kernel_rfl
theorem wN (N:Nat) (b2:Bool) (u01 u02 u03 x31 u04 u05 u06 u07 u08:Int) (u00:LI):(CY 0 (C0 (JM N) (CR LH [1,1,1]) (C1 (JM N) none [.tmp 2] [[.bool]]))) (.exit 0) (HS b2 u01 u02 u03 x31 u04 u05 u06 u07 u08 u00)=(some ((.bool (!!List.all u00 (GU u04 u05))),[])):=by kernel_rfl
theorem wO (N:Nat) (b2:Bool) (u01 u02 u03 x31 u04 u05 u06 u07 u08:Int) (u00:LI):(CY 0 (C0 (JM N) (CR LH [1,1,1]) (C1 (JM N) none [.tmp 2] [[.bool]]))) .ret (HS b2 u01 u02 u03 x31 u04 u05 u06 u07 u08 u00)=(some ((.bool b2),[])):=by kernel_rfl
open Go Go.Proofs
theorem XT {l:LI} {i:Nat} {w:IV} (h:l[i]?=some w) (j:Nat):E5 (l.take (i+1)) j=E5 (l.take i) j+LS (CQ w.toInt) j:=by
 unfold E5;rw [List.take_add_one,h];simp
theorem Cc (x:Nd) (j:Nat):LS x j≤2:=by
 unfold LS;cases x.lf
 ·simp only [BB];split <;> split <;> omega
 ·simp only [BO];omega
theorem bV:∀ (l:LI) (j:Nat),E5 l j≤2*l.length
 | [],_=>AP _
 | w :: l,j=>by
  have:=bV l j
  have:=Cc (CQ w.toInt) j
  unfold E5 at *;simp only [A6,List.sum_cons,AT];omega
def NM (l:LI) (i:Nat):LI:=(List.range l.length).map fun j=>IV.int (E5 (l.take i) j:Nat)
theorem SI (l:LI) (i:Nat):(NM l i).length=l.length:=by simp [NM]
theorem QP (l:LI) (i:Nat) {j:Nat} (h:j < l.length):(NM l i)[j]?=some (IV.int (E5 (l.take i) j:Nat)):=by
 unfold NM;rw [BZ,List.getElem?_range h];rfl
theorem tV (l:LI):NM l 0=vad l.length (IV.int 0):=by
 apply List.ext_getElem?;intro j;by_cases h:j < l.length
 ·rw [QP l 0 h,List.getElem?_replicate,B1 h];simp [E5]
 ·rw [BF (by rw [SI]; omega),BF (by simp; omega)]
theorem tU {l:LI} {i:Nat} {w:IV} (h:l[i]?=some w) (hl:(CQ w.toInt).lf=true):NM l (i+1)=NM l i:=by
 unfold NM;congr 1
 funext j
 rw [XT h];unfold LS;rw [hl];rfl
theorem tT {l:LI} {i:Nat} {w:IV} (h:l[i]?=some w) (hl:(CQ w.toInt).lf=false) (hn:l.length≤31) {a b:Nat} (ha:(CQ w.toInt).l=(a:Int)) (hb:(CQ w.toInt).r=(b:Int)) (hab:a≠b) (al:a < l.length) (bl:b < l.length) :
  ((NM l i).set a (IV.int (AA AC (((NM l i).getD a default).toInt+1)))).set b (IV.int (AA AC ((((NM l i).set a (IV.int (AA AC (((NM l i).getD a default).toInt+1)))).getD b default).toInt+1)))=NM l (i+1):=by
 have hil:i < l.length:=(BV.1 h).1;have hsm:∀ j,E5 (l.take i) j≤62:=fun j=>by
  have:=bV (l.take i) j
  rw [A1] at this;omega
 have ga:((NM l i).getD a default).toInt=(E5 (l.take i) a:Nat):=by
  rw [BG,QP l i al];rfl
 have gb:(((NM l i).set a (IV.int (AA AC (((NM l i).getD a default).toInt+1)))).getD b default).toInt=(E5 (l.take i) b:Nat):=by
  rw [BG,vaP hab,QP l i bl];rfl
 rw [gb,ga,DV (by omega) (by have:=hsm a; omega),DV (by omega) (by have:=hsm b; omega)];apply List.ext_getElem?;intro j;by_cases hj:j < l.length
 ·rw [QP l (i+1) hj,XT h];have e:LS (CQ w.toInt) j=(if a=j then 1 else 0)+(if b=j then 1 else 0):=by
   unfold LS;rw [hl,ha,hb,BB];have e1:((a:Int)=(j:Int))↔a=j:=by omega
   have e2:((b:Int)=(j:Int))↔b=j:=by omega
   simp only [e1,e2]
  rw [e];by_cases h1:b=j
  ·subst h1;rw [va4 (by rw [vas,SI]; exact bl),A7 hab,B1 rfl];congr 2
  ·rw [vaP h1];by_cases h2:a=j
   ·subst h2;rw [va4 (by rw [SI]; exact al),B1 rfl,A7 h1];congr 2
   ·rw [vaP h2,QP l i hj,A7 h1,A7 h2];congr 2
 ·rw [BF (by rw [vas,vas,SI]; omega),BF (by rw [SI]; omega)]
abbrev Y2 (l:LI) (dim:Int) (b:Bool) (i:Int) (nm:LI):St:=
 ⟨[(0,(.list false [(.int .u64)] l)),(1,(.int .i64 dim)),(4,(.bool b)),(5,(.row 22 0 l.length)),(23,(.list false [(.int .u64)] l)),(24,(.int .i64 (ic l.length))),(25,(.int .i64 i))],[(22,(some (.row true 3 false [.z] nm)))]⟩
theorem eF (N:Nat) (l:LI) (dim:Int) (hl:l.length≤31) (K:Out→St→CU) (hK:∀ i nm,K .ret (Y2 l dim false i nm)=some (.bool false,[])):∀ (d i n:Nat),i+d=l.length→d < n →
  C4 (FH N) (CR H6 [1,1,1,0,1,0,0]) ⟨[0,1,4,5,23,24,25],[22],[]⟩ n (Y2 l dim false (i:Int) (NM l i)) K =
   cond (IF dim (ic l.length) i (l.drop i)) (K (.exit 0) (Y2 l dim false (ic l.length) (NM l l.length))) (some (.bool false,[]))
 | d,i,0,_,h=>absurd h (by omega)
 | 0,i,n+1,hd,_=>by
  have hi:i=l.length:=by omega
  subst hi;rw [DD,qQ];rw [AM (show ¬ ((l.length:Nat):Int) < ic l.length by simp only [ic]; omega),CS,CE];rfl
 | d+1,i,n+1,hd,hn=>by
  have hil:i < l.length:=by omega
  have hw:l[i]?=some l[i]:=AV hil;rw [DD,qQ,BC hil];have hg:l.getD (AD (i:Int)) default=l[i]:=by
   rw [BL,BG,hw];rfl
  rw [hg];generalize l[i]=w at hw ⊢;have ei:AA AC ((i:Int)+1)=((i+1:Nat):Int):=by
   rw [DV (by omega) (by omega)];omega
  rw [ei,AE (show (i:Int) < ic l.length by simp only [ic]; omega),CP,AE (show (0:Int)≤(i:Int) by omega),BE,CP];unfold IF;cases hb:ES w.toInt with
  | false=>
   simp only [BJ,CP,BY,CS];exact hK (i:Int) (NM l i)
  | true=>
   simp only [A5,CS,BH];unfold PN;cases hlf:(CQ w.toInt).lf with
   | true=>
    simp only [CP,BH];rw [← tU hw hlf];exact eF N l dim hl K hK d (i+1) n (by omega) (by omega)
   | false=>
    simp only [CS];cases h1:decide ((CQ w.toInt).f≥dim) with
    | true=>
     simp only [CP,A5,BY,CS];exact hK (i:Int) (NM l i)
    | false=>
    cases h2:((CQ w.toInt).l==(CQ w.toInt).r) with
    | true=>
     simp only [CP,CS,A5,BJ,BY,vax];exact hK (i:Int) (NM l i)
    | false=>
    cases h3:decide (min (CQ w.toInt).l (CQ w.toInt).r≤(i:Int)) with
    | true=>
     simp only [CP,CS,A5,BJ,BY,vax];exact hK (i:Int) (NM l i)
    | false=>
    cases h4:decide (max (CQ w.toInt).l (CQ w.toInt).r≥ic l.length) with
    | true=>
     simp only [CP,CS,A5,BJ,BY,vax];exact hK (i:Int) (NM l i)
    | false=>
     have g2:(CQ w.toInt).l≠(CQ w.toInt).r:=CG.1 h2;have g3:=A8 h3;have g4:=A8 h4;simp only [ic] at g4;obtain ⟨a,ha⟩:∃ a:Nat,(CQ w.toInt).l=(a:Int):=⟨(CQ w.toInt).l.toNat,by omega⟩;obtain ⟨b,hb'⟩:∃ b:Nat,(CQ w.toInt).r=(b:Int):=⟨(CQ w.toInt).r.toNat,by omega⟩;have hab:a≠b:=fun e=>g2 (by rw [ha,hb',e])
     have al:a < l.length:=by omega
     have bl:b < l.length:=by omega
     have hN:=tT hw hlf hl ha hb' hab al bl;rw [ha,hb'];rw [AE (show (0:Int)≤(a:Int) by omega),AE (show (0:Int)≤(b:Int) by omega),AE (show (a:Int) < ic (l.length - 0) by simp only [ic]; omega),AE (show (b:Int) < ic (l.length - 0) by simp only [ic]; omega)];simp only [CP,CS,BJ,BE,BH,BL,A0];refine Eq.trans ?_ (eF N l dim hl K hK d (i+1) n (by omega) (by omega));rw [← hN];rfl
abbrev Nz (l:LI) (b:Bool) (j:Int):St:=
 ⟨[(4,(.bool b)),(85,(.row 22 1 (0+(l.length - 0)))),(86,(.int .i64 (ic (0+(l.length - 0) - 1)))),(87,(.int .i64 j))],[(22,(some (.row true 3 false [.z] (NM l l.length))))]⟩
theorem mJ (N:Nat) (l:LI) (hl:l.length≤31):∀ (d j n:Nat),j+d=l.length - 1→d < n →
  C4 (FH N) (CR H6 [1,1,1,1,0,1,0,0]) ⟨[4,85,86,87],[22],[]⟩ n (Nz l false (j:Int)) (CY 2 (C0 (FH N) (CR H6 [1,1,1,1,1]) (C1 (FH N) none [(BD 4)] [[.bool]]))) =
   some (.bool ((va1 j d).all fun j=>E5 l (j+1)==1),[])
 | d,j,0,_,h=>absurd h (by omega)
 | 0,j,n+1,hd,_=>by
  rw [DD,qR,AM (show ¬ (j:Int) < ic (0+(l.length - 0) - 1) by simp only [ic]; omega),CS];exact xL N false _ _ _ _
 | d+1,j,n+1,hd,hn=>by
  have ej:AA AC ((j:Int)+1)=((j+1:Nat):Int):=by
   rw [DV (by omega) (by omega)];omega
  rw [DD,qR,ej,AE (show (j:Int) < ic (0+(l.length - 0) - 1) by simp only [ic]; omega),CP,AE (show (0:Int)≤(j:Int) by omega),BE,CP];have hg:((NM l l.length).getD (1+AD (j:Int)) default).toInt=(E5 l (j+1):Nat):=by
   rw [BL,Nat.add_comm 1 j,BG,QP l l.length (by omega),A9];rfl
  rw [hg,List.range'_succ,List.all_cons];have e:(((E5 l (j+1):Nat):Int) != 1)=!(E5 l (j+1)==1):=by
   show (!(((E5 l (j+1):Nat):Int)==1))=_;congr 1;rw [vaW,BR,BR];omega
  rw [e];cases (E5 l (j+1)==1) with
  | false=>
   rw [BJ,CP];exact xM N false _ _ _ _
  | true=>
   rw [A5,CS,BH];exact mJ N l hl d (j+1) n (by omega) (by omega)
theorem Nf (N:Nat) (l:LI) (dim:Int) (hl:l.length≤31) (h1:1≤l.length) (hN:40≤N) (i:Int) :
  (CY 0 (C0 (FH N) (CR H6 [1,1,1,1]) (C1 (FH N) none [(BD 4)] [[.bool]]))) (.exit 0) (Y2 l dim false i (NM l l.length))=some (.bool (RM l),[]):=by
 refine (xJ N l dim false l.length l (ic l.length) i (NM l l.length)).trans ?_;rw [AE (show (0:Nat)≤1 by omega),AE (show (1:Int)≤ic (l.length - 0) by simp only [ic]; omega),BE,CP]
 have:=mJ N l hl (l.length - 1) 0 N (by omega) (by omega)
 refine this.trans ?_;unfold RM;rw [List.range_eq_range']
theorem pG:C5 PR B0 74 O9:=by
 refine DC [(84,KU)] [(5,⟨[0,1,4,5,23,24,25],[22],[]⟩),(17,⟨[4,85,86,87],[22],[]⟩)] O9 [[.bool]] Tryz.func74 Au ⟨YK,trivial⟩ ?_;intro vs r hwf h;unfold O9 at h;split at h
 ·rename_i l dim;refine ⟨40,?_⟩;rw [R.get_ok] at h;rw [← h];refine (Fs 40 l dim).trans ?_;unfold F7;by_cases h1:1≤l.length
  ·by_cases h2:l.length≤31
   ·have eb:ic (TI.bytes (Env.tyd (FH 40) 3))=8:=rfl;rw [AM (show ¬ ic l.length < 1 by simp only [ic]; omega),AM (show ¬ ic l.length > 31 by simp only [ic]; omega),CS,CS,eb,
     AE (show (0:Int)≤ic l.length by simp only [ic]; omega),AE (show ic l.length=ic l.length from rfl),AE (show ic l.length*8≤ic DJ by unfold DJ; simp only [ic]; omega)]
    have e0:(A2 0 (TI.size (Env.tyd (FH 40) 3))&&(A2 3 1000000&&true)&&(true&&true))=true:=rfl;have e1:AD (ic l.length)=l.length:=by simp only [ic]; omega
    rw [e0,CP,e1,← tV,BX h1,BX h2];refine (eF 40 l dim h2 _ (fun i nm=>?_) l.length 0 40 (by omega) (by omega)).trans ?_
    ·exact xK 40 l dim false l.length l (ic l.length) i nm
    ·rw [CC,Nf 40 l dim h2 h1 (by omega)];cases IF dim (ic l.length) 0 l <;> rfl
   ·have e:BI l.length 31=false:=by
     cases hb:BI l.length 31 with
     | false=>rfl
     | true=>exact absurd (AK hb) h2
    rw [AM (show ¬ ic l.length < 1 by simp only [ic]; omega),AE (show ic l.length > 31 by simp only [ic]; omega),CS,CP,e,vax,BY]
  ·have e:BI 1 l.length=false:=by
    cases hb:BI 1 l.length with
    | false=>rfl
    | true=>exact absurd (AK hb) h1
   rw [AE (show ic l.length < 1 by simp only [ic]; omega),CP,e,BY,BY]
 ·simp [R.get] at h
theorem o8:C5 PR B0 73 OZ:=by
 refine DC [(74,O9)] [] OZ [[.bool]] Tryz.func73 zZ ⟨pG,trivial⟩ ?_;intro vs r hwf h;unfold OZ at h;split at h
 ·rename_i k l d c b0 b1 b2 ts;refine ⟨0,?_⟩;rw [R.get_ok] at h;rw [← h];refine (Ek 0 k l d c b0 b1 b2 ts).trans ?_;have e:GU d c (.agg [.int k,.list l])=(!(decide (k < 0))&&(!(decide (k≥c))&&F7 l d)):=rfl;rw [e];cases decide (k < 0) with
  | true=>rfl
  | false=>
   cases decide (k≥c) with
   | true=>rfl
   | false=>rfl
 ·simp [R.get] at h
abbrev Np (l:LI) (d c b0 b1 b2:Int) (ts:LI) (r i:Int):St:=
 ⟨[(0,(.list true [.z,(.list false [(.int .u64)])] l)),(1,(.clo 73 [(.ptr 900000 0 0)])),(4,(.int .i64 r)),(7,(.int .i64 (ic l.length))),(8,(.int .i64 i))],[(900000,(some (.box [(.int .i64 d),(.int .i64 c),(.int .i64 b0),(.int .i64 b1),(.int .i64 b2),(.list true [.z,(.list false [(.int .u64)])] ts)])))]⟩
theorem Na (d c:Int) (t:IV):GU d c (.agg [.int (IV.toInt (IV.cell t 0)),.list (IV.toList (IV.cell t 1))])=GU d c t:=rfl
theorem kQ (N:Nat) (l:LI) (hl:l.length≤strMax) (d c b0 b1 b2:Int) (ts:LI):∀ (m i n:Nat),i+m=l.length→m < n →
  C4 (KA N) (CR MR [1,0,1,0,0]) ⟨[0,1,4,7,8],[900000],[]⟩ n (Np l d c b0 b1 b2 ts 0 (i:Int)) (CY 0 (C0 (KA N) (CR MR [1,1]) (C1 (KA N) (some [(.int .i64 d),(.int .i64 c),(.int .i64 b0),(.int .i64 b1),(.int .i64 b2),(.list true [.z,(.list false [(.int .u64)])] ts)]) [(BD 4)] [[.z]]))) =
   some (.int .i64 (PO d c (l.drop i) (i:Int)),[[(.int .i64 d),(.int .i64 c),(.int .i64 b0),(.int .i64 b1),(.int .i64 b2),(.list true EU ts)]])
 | m,i,0,_,h=>absurd h (by omega)
 | 0,i,n+1,hd,_=>by
  have hi:i=l.length:=by omega
  subst hi;rw [DD,qP,AM (show ¬ ((l.length:Nat):Int) < ic l.length by simp only [ic]; omega),CS,CE];exact xH N d c b0 b1 b2 ts l 0 (ic l.length) (l.length:Int) d c b0 b1 b2 ts
 | m+1,i,n+1,hd,hn=>by
  have hil:i < l.length:=by omega
  have m':strMax=140737488355327:=rfl;have ei:AA AC ((i:Int)+1)=((i+1:Nat):Int):=by
   rw [DV (by omega) (by omega)];omega
  have hg:l.getD (AD (i:Int)) default=l[i]:=by
   rw [BL,BG,AV hil];rfl
  rw [DD,qP,ei,hg,Na,AE (show (i:Int) < ic l.length by simp only [ic]; omega),CP,AE (show (0:Int)≤(i:Int) by omega),BE,CP,BC hil,PO];cases GU d c l[i] with
  | true=>
   rw [A5,CS,CP];exact kQ N l hl d c b0 b1 b2 ts m (i+1) n (by omega) (by omega)
  | false=>
   rw [BJ,CP,CS];exact xI N d c b0 b1 b2 ts l (i:Int) (ic l.length) (i:Int) d c b0 b1 b2 ts
theorem Lv:C5 PR B0 90 T1:=by
 refine DC [(73,OZ)] [(2,⟨[0,1,4,7,8],[900000],[]⟩)] T1 [[.z]] Tryz.func90 An ⟨o8,trivial⟩ ?_;intro vs r hwf h;unfold T1 at h;split at h
 ·rename_i l d c b0 b1 b2 ts;refine ⟨l.length+1,?_⟩;rw [R.get_ok] at h;rw [← h];refine (Fj (l.length+1) l d c b0 b1 b2 ts).trans ?_;have hl:l.length≤strMax:=by
   have hb:=hwf (by simp [K4])
   have:=hb.1
   simp only [QG,wfL] at this;exact this.1
  exact kQ (l.length+1) l hl d c b0 b1 b2 ts l.length 0 (l.length+1) (by omega) (by omega)
 ·simp [R.get] at h
theorem kM (d c:Int):∀ (l:LI) (i:Nat),decide (PO d c l (i:Int)≥0)=!(l.all (GU d c))
 | [],i=>rfl
 | t :: l,i=>by
  unfold PO;rw [List.all_cons];cases GU d c t with
  | true=>
   rw [CP,BH];exact kM d c l (i+1)
  | false=>
   rw [CS,BY,AE (show (i:Int)≥0 by omega)];rfl
theorem Lu:C5 PR B0 72 TZ:=by
 refine DC [(90,T1)] [] TZ [[.bool]] Tryz.func72 Am ⟨Lv,trivial⟩ ?_;intro vs r hwf h;unfold TZ at h;split at h
 ·rename_i l d c b0 b1 b2 ts;refine ⟨0,?_⟩;rw [R.get_ok] at h;rw [← h];refine (Fi 0 l d c b0 b1 b2 ts).trans ?_
  have:=kM d c l 0
  rw [show ((0:Nat):Int)=0 from rfl] at this;rw [this]
 ·simp [R.get] at h
abbrev SC (d c b0 b1 b2:Int) (ts:LI) (b:Bool) (i:Int):St:=
 ⟨[(1,(.ptr 1 0 0)),(2,(.bool b)),(30,(.agg [(.int .i64 b0),(.int .i64 b1),(.int .i64 b2)])),(31,(.int .i64 i))],[(1,(some (.box [(.int .i64 d),(.int .i64 c),(.int .i64 b0),(.int .i64 b1),(.int .i64 b2),(.list true [.z,(.list false [(.int .u64)])] ts)]))),(53005,none)]⟩
theorem uE (c j b:Int) {α:Type _} (x y:α):cond (!DL b) y (cond (decide (j≥c)) (cond (b != 0) y x) x)=cond (FZ c j b) x y:=by
 unfold FZ;have e:(b != 0)=!(b==0):=rfl;rw [e];cases DL b <;> cases decide (j≥c) <;> cases (b==0) <;> rfl
theorem ZK (N:Nat) (d c b0 b1 b2:Int) (ts:LI) (j:Nat) (b:Int) (h:(j=0∧b=b0)∨(j=1∧b=b1)∨(j=2∧b=b2)) (again:St→CU) (k:Out→St→CU) :
  D9 (JM N) (CR LH [1,1,0,1,0,0]) (SC d c b0 b1 b2 ts false (j:Int)) (D4 again ⟨[1,2,30,31],[1,53005],[]⟩ k) =
   cond (FZ c (j:Int) b) (again (SC d c b0 b1 b2 ts false ((j+1:Nat):Int))) (k .ret (SC d c b0 b1 b2 ts false (j:Int))):=by
 rw [qA];have ej:AA AC ((j:Int)+1)=((j+1:Nat):Int):=by
  rw [DV (by omega) (by omega)];omega
 rw [ej,← uE,AE (show (j:Int) < 3 by omega),CP];rcases h with ⟨rfl,rfl⟩ | ⟨rfl,rfl⟩ | ⟨rfl,rfl⟩ <;> rfl
theorem YJ:C5 PR B0 49 KT:=by
 refine DC [(71,ME),(73,OZ),(72,TZ)] [(4,⟨[1,2,30,31],[1,53005],[]⟩)] KT [[.bool]] Tryz.func49 zY ⟨dN,o8,Lu,trivial⟩ ?_;intro vs r hwf h;unfold KT at h;split at h
 ·rename_i d c b0 b1 b2 ts;refine ⟨6,?_⟩;rw [R.get_ok] at h;rw [← h];refine (Ej 6 d c b0 b1 b2 ts).trans ?_;have run:C4 (JM 6) (CR LH [1,1,0,1,0,0]) ⟨[1,2,30,31],[1,53005],[]⟩ 6 (SC d c b0 b1 b2 ts false 0) (CY 0 (C0 (JM 6) (CR LH [1,1,1]) (C1 (JM 6) none [(BD 2)] [[.bool]]))) =
    some (.bool ((FZ c 0 b0&&(FZ c 1 b1&&FZ c 2 b2))&&ts.all (GU d c)),[]):=by
   have e0:SC d c b0 b1 b2 ts false 0=SC d c b0 b1 b2 ts false ((0:Nat):Int):=rfl;have R2:=fun j=>wO 6 false b0 b1 b2 j d c b0 b1 b2 ts
   have R1:=fun j=>wN 6 false b0 b1 b2 j d c b0 b1 b2 ts
   rw [e0,DD,ZK 6 d c b0 b1 b2 ts 0 b0 (by simp),R2];cases h0:FZ c ((0:Nat):Int) b0 with
   | false=>rfl
   | true=>
    rw [CP,DD,ZK 6 d c b0 b1 b2 ts 1 b1 (by simp),R2];cases h1:FZ c ((1:Nat):Int) b1 with
    | false=>rfl
    | true=>
     rw [CP,DD,ZK 6 d c b0 b1 b2 ts 2 b2 (by simp),R2];cases h2:FZ c ((2:Nat):Int) b2 with
     | false=>rfl
     | true=>
      rw [CP,DD,qA,AM (show ¬ ((2+1:Nat):Int) < 3 by omega),CS,R1,Bool.not_not];rfl
  unfold DX;cases decide (d < 1) with
  | true=>rfl
  | false=>
  cases decide (d > 4) with
  | true=>rfl
  | false=>
  cases decide (c < 1) with
  | true=>rfl
  | false=>
  cases decide (c > 3) with
  | true=>rfl
  | false=>
   simp only [CS,BJ,BH];by_cases h8:ts.length≤8
   ·rw [AM (show ¬ ic ts.length > 8 by simp only [ic]; omega),CS,BX h8,BH];exact run
   ·have e:BI ts.length 8=false:=by
     cases hb:BI ts.length 8 with
     | false=>rfl
     | true=>exact absurd (AK hb) h8
    rw [AE (show ic ts.length > 8 by simp only [ic]; omega),CP,e,BY]
 ·simp [R.get] at h
open Go
def nm (x:IV) (j:Nat):Nat:=cond (x.cell 0).toBool 0 ((if (x.cell 4).toInt=(j:Int) then 1 else 0)+(if (x.cell 5).toInt=(j:Int) then 1 else 0))
open Go
theorem bY {w:Int} (h:ES w=true):F3 (CQ w)=w∧GG (CQ w)=true:=by
 have hn:CQ w=IZ w:=by unfold CQ; rw [h]; rfl
 unfold ES at h;simp only [AI,CF,BR,CG] at h;rw [hn];refine ⟨h.2,?_⟩;cases hr:GG (IZ w) with
 | true=>rfl
 | false=>
  have:=h.2
  unfold F3 at this;rw [hr] at this;exact absurd this.symm h.1
theorem vN (d:Int):1≤Q4 d∧Q4 d≤3:=(I3 (n:=d) (lo:=1) (hi:=3) (by omega) (by omega) (by omega)).2
theorem u9 (d:Int):1≤PH d∧PH d≤3:=(I3 (n:=d) (lo:=1) (hi:=3) (by omega) (by omega) (by omega)).2
def Cb (d c:Int) (bias ts:LI):Md:=⟨Q4 d,PH c,PC c bias 0,PC c bias 1,PC c bias 2,eG d c ts⟩
open Go
abbrev DP:List Kd:=[.bool,.z,.z]
def R5 (x:IV):Bool:=(x.cell 0).toBool
def L2 (x:IV):Int:=(x.cell 1).toInt
def OB (x:IV):Int:=(x.cell 2).toInt
def YM (x y:IV):Bool:=R5 x==R5 y&&(L2 x==L2 y&&OB x==OB y)
def Mn (x:IV):Bool:=!(R5 x&&!(L2 x==0&&OB x==0))&&(decide (0≤L2 x)&&decide (L2 x≤4))
def Mp (l:LI):Bool:=decide (1≤l.length)&&(decide (l.length≤65536)&&l.all Mn)
def HX:LI→LI→Bool
 | [],[]=>true
 | x :: l,y :: m=>YM x y&&HX l m
 | _,_=>false
def SP:C2
 | [.list true [.bool,.z,.z] l,.list true [.bool,.z,.z] m]=>.ok (.bool (HX l m)) []
 | _=>.no
structure Vd where
 kind:Int
 proof:LI
 w0:Int
 w1:Int
 w2:Int
 w3:Int
 twin:Int
 spent:Int
def Vd.none:Vd:=⟨0,[],0,0,0,0,0,0⟩
def Vd.V (v:Vd):V:=.agg [.int .i64 v.kind,.list true DP v.proof,.int .i64 v.w0,.int .i64 v.w1,.int .i64 v.w2,.int .i64 v.w3,.int .i64 v.twin,.int .i64 v.spent]
def Vd.bare (v:Vd):Bool:=v.w0==0&&(v.w1==0&&(v.w2==0&&(v.w3==0&&v.twin==0)))
def Vd.right (v:Vd):Bool:=
 decide (0≤v.spent)&&(decide (v.spent≤65536) &&
  (v.kind==1&&(v.bare&&Mp v.proof)||(v.kind==2&&v.proof.isEmpty||(v.kind==3||v.kind==4)&&(v.bare&&v.proof.isEmpty))))
def R9 (a b:Vd):Bool:=a.kind==b.kind&&(HX a.proof b.proof&&(a.w0==b.w0&&(a.w1==b.w1&&(a.w2==b.w2&&(a.w3==b.w3&&(a.twin==b.twin&&a.spent==b.spent))))))
def ST:C2
 | [.agg [.int .i64 k,.list true [.bool,.z,.z] p,.int .i64 a,.int .i64 b,.int .i64 c,.int .i64 d,.int .i64 t,.int .i64 s],
  .agg [.int .i64 k',.list true [.bool,.z,.z] p',.int .i64 a',.int .i64 b',.int .i64 c',.int .i64 d',.int .i64 t',.int .i64 s']]=>.ok (.bool (R9 ⟨k,p,a,b,c,d,t,s⟩ ⟨k',p',a',b',c',d',t',s'⟩)) []
 | _=>.no
open Go
def Nd.cs (x:Nd):List FM.V:=[.bool x.lf,.int .i64 x.v,.int .i64 x.f,.int .i64 x.a,.int .i64 x.l,.int .i64 x.r]
def Nd.V (x:Nd):FM.V:=.agg x.cs
def Md.cs (m:Md):List FM.V:=[.int .i64 m.d,.int .i64 m.c,.int .i64 m.b0,.int .i64 m.b1,.int .i64 m.b2,.list true [.z,.list false [.int .u64]] m.ts]
def Md.V (m:Md):FM.V:=.agg m.cs
def Qy.cs (q:Qy):List FM.V:=[.int .i64 q.k,.int .i64 q.c,.int .i64 q.a0,.int .i64 q.b0,.int .i64 q.a1,.int .i64 q.b1,.int .i64 q.a2,.int .i64 q.b2,.int .i64 q.a3,.int .i64 q.b3,.int .i64 q.a4,.int .i64 q.b4,.int .i64 q.lo,.int .i64 q.hi,.int .i64 q.ft,.bool q.fl,.int .i64 q.bu]
def Vd.cs (v:Vd):List FM.V:=[.int .i64 v.kind,.list true [.bool,.z,.z] v.proof,.int .i64 v.w0,.int .i64 v.w1,.int .i64 v.w2,.int .i64 v.w3,.int .i64 v.twin,.int .i64 v.spent]
def Ak.cs (a:Ak):List FM.V:=[.int .i64 a.k,.int .i64 a.c,.int .i64 a.lo,.int .i64 a.size,.int .i64 a.ft,.int .i64 a.bu,.bool a.fl,.list false [.z] a.sp]
def Ak.V (a:Ak):FM.V:=.agg a.cs
structure Sp where
 lo:Int
 hi:Int
def Sp.cs (s:Sp):List FM.V:=[.int .i64 s.lo,.int .i64 s.hi]
def Sp.V (s:Sp):FM.V:=.agg s.cs
structure Bx where
 s0:Sp
 s1:Sp
 s2:Sp
 s3:Sp
 s4:Sp
def Bx.g (b:Bx):Nat→Sp
 | 0=>b.s0
 | 1=>b.s1
 | 2=>b.s2
 | 3=>b.s3
 | _=>b.s4
def Bx.p (b:Bx) (s:Sp):Nat→Bx
 | 0=>⟨s,b.s1,b.s2,b.s3,b.s4⟩
 | 1=>⟨b.s0,s,b.s2,b.s3,b.s4⟩
 | 2=>⟨b.s0,b.s1,s,b.s3,b.s4⟩
 | 3=>⟨b.s0,b.s1,b.s2,s,b.s4⟩
 | _=>⟨b.s0,b.s1,b.s2,b.s3,s⟩
def Bx.cs (b:Bx):List FM.V:=[.int .i64 b.s0.lo,.int .i64 b.s0.hi,.int .i64 b.s1.lo,.int .i64 b.s1.hi,.int .i64 b.s2.lo,.int .i64 b.s2.hi,.int .i64 b.s3.lo,.int .i64 b.s3.hi,.int .i64 b.s4.lo,.int .i64 b.s4.hi]
def Bx.V (b:Bx):FM.V:=.agg b.cs
structure Pt where
 p0:Int
 p1:Int
 p2:Int
 p3:Int
def Pt.cs (p:Pt):List FM.V:=[.int .i64 p.p0,.int .i64 p.p1,.int .i64 p.p2,.int .i64 p.p3]
def Pt.V (p:Pt):FM.V:=.agg p.cs
def Pt.g (p:Pt):Nat→Int
 | 0=>p.p0
 | 1=>p.p1
 | 2=>p.p2
 | _=>p.p3
def spOf?:List FM.V→Option Sp
 | [.int .i64 a,.int .i64 b]=>some ⟨a,b⟩
 | _=>none
def ptOf?:List FM.V→Option Pt
 | [.int .i64 a,.int .i64 b,.int .i64 c,.int .i64 d]=>some ⟨a,b,c,d⟩
 | _=>none
def bxOf?:List FM.V→Option Bx
 | [.int .i64 a0,.int .i64 b0,.int .i64 a1,.int .i64 b1,.int .i64 a2,.int .i64 b2,.int .i64 a3,.int .i64 b3,.int .i64 a4,.int .i64 b4]=>some ⟨⟨a0,b0⟩,⟨a1,b1⟩,⟨a2,b2⟩,⟨a3,b3⟩,⟨a4,b4⟩⟩
 | _=>none
def mdOf?:List FM.V→Option Md
 | [.int .i64 d,.int .i64 c,.int .i64 b0,.int .i64 b1,.int .i64 b2,.list true [.z,.list false [.int .u64]] ts]=>some ⟨d,c,b0,b1,b2,ts⟩
 | _=>none
def qyOf?:List FM.V→Option Qy
 | [.int .i64 k,.int .i64 c,.int .i64 a0,.int .i64 b0,.int .i64 a1,.int .i64 b1,.int .i64 a2,.int .i64 b2,.int .i64 a3,.int .i64 b3,.int .i64 a4,.int .i64 b4,.int .i64 lo,.int .i64 hi,.int .i64 ft,.bool fl,.int .i64 bu]=>
  some ⟨k,c,a0,b0,a1,b1,a2,b2,a3,b3,a4,b4,lo,hi,ft,fl,bu⟩
 | _=>none
def M7 {α:Type} (of:List FM.V→Option α) (v:FM.V) (k:α→R):R:=
 match v with
 | .agg l=>match of l with | some x=>k x | none=>.no
 | _=>.no
abbrev SB (v:FM.V) (k:Sp→R):R:=M7 spOf? v k
abbrev LC (v:FM.V) (k:Pt→R):R:=M7 ptOf? v k
abbrev FO (v:FM.V) (k:Bx→R):R:=M7 bxOf? v k
abbrev FY (v:FM.V) (k:Md→R):R:=M7 mdOf? v k
abbrev FP (v:FM.V) (k:Qy→R):R:=M7 qyOf? v k
theorem QH {α:Type} {of:List FM.V→Option α} {v:FM.V} {k:α→R} {z:FM.V × List (List FM.V)} (h:(M7 of v k).get=some z):∃ l x,v = .agg l∧of l=some x∧(k x).get=some z:=by
 unfold M7 at h;split at h
 ·rename_i l;split at h
  ·rename_i x hx;exact ⟨l,x,rfl,hx,h⟩
  ·simp [R.get] at h
 ·simp [R.get] at h
theorem V0 {v:FM.V} {k:Sp→R} {z:FM.V × List (List FM.V)} (h:(SB v k).get=some z):∃ x:Sp,v=x.V∧(k x).get=some z:=by
 obtain ⟨l,x,rfl,hx,h⟩:=QH h;unfold spOf? at hx;split at hx
 ·simp only [AB] at hx;subst hx;exact ⟨_,rfl,h⟩
 ·cases hx
theorem L7 {v:FM.V} {k:Pt→R} {z:FM.V × List (List FM.V)} (h:(LC v k).get=some z):∃ x:Pt,v=x.V∧(k x).get=some z:=by
 obtain ⟨l,x,rfl,hx,h⟩:=QH h;unfold ptOf? at hx;split at hx
 ·simp only [AB] at hx;subst hx;exact ⟨_,rfl,h⟩
 ·cases hx
theorem FU {v:FM.V} {k:Bx→R} {z:FM.V × List (List FM.V)} (h:(FO v k).get=some z):∃ x:Bx,v=x.V∧(k x).get=some z:=by
 obtain ⟨l,x,rfl,hx,h⟩:=QH h;unfold bxOf? at hx;split at hx
 ·simp only [AB] at hx;subst hx;exact ⟨_,rfl,h⟩
 ·cases hx
theorem F8 {v:FM.V} {k:Md→R} {z:FM.V × List (List FM.V)} (h:(FY v k).get=some z):∃ x:Md,v=x.V∧(k x).get=some z:=by
 obtain ⟨l,x,rfl,hx,h⟩:=QH h;unfold mdOf? at hx;split at hx
 ·simp only [AB] at hx;subst hx;exact ⟨_,rfl,h⟩
 ·cases hx
theorem FV {v:FM.V} {k:Qy→R} {z:FM.V × List (List FM.V)} (h:(FP v k).get=some z):∃ x:Qy,v=x.V∧(k x).get=some z:=by
 obtain ⟨l,x,rfl,hx,h⟩:=QH h;unfold qyOf? at hx;split at hx
 ·simp only [AB] at hx;subst hx;exact ⟨_,rfl,h⟩
 ·cases hx
def Sp.emp (s:Sp):Bool:=decide (s.lo > s.hi)
def Sp.has (s:Sp) (n:Int):Bool:=decide (s.lo≤n)&&decide (n≤s.hi)
def L1 (lo hi:Int):Sp:=cond (decide (lo > hi)) ⟨1,0⟩ ⟨lo,hi⟩
def Sp.meet (a b:Sp):Sp:=L1 (max a.lo b.lo) (min a.hi b.hi)
def Sp.cutL (s:Sp) (a:Int):Sp:=L1 s.lo (min s.hi a)
def Sp.cutH (s:Sp) (a:Int):Sp:=cond (decide (a≥s.hi)) ⟨1,0⟩ (L1 (max s.lo (CZ (a+1))) s.hi)
def O8:C2
 | []=>.ok (.agg [.int .i64 1,.int .i64 0]) []
 | _=>.no
def T3:C2
 | [.int .i64 lo,.int .i64 hi]=>.ok (L1 lo hi).V []
 | _=>.no
def O7:C2
 | [s]=>SB s fun s=>.ok (.bool (s.emp)) []
 | _=>.no
def T2:C2
 | [s,.int .i64 n]=>SB s fun s=>.ok (.bool (s.has n)) []
 | _=>.no
def V8:C2
 | [s,.int .i64 n]=>SB s fun s=>.ok (.tup [(s.cutL n).V,(s.cutH n).V]) []
 | _=>.no
def Bx.I (b:Bx):IV:=.agg [.int b.s0.lo,.int b.s0.hi,.int b.s1.lo,.int b.s1.hi,.int b.s2.lo,.int b.s2.hi,.int b.s3.lo,.int b.s3.hi,.int b.s4.lo,.int b.s4.hi]
abbrev cI (x:IV) (j:Nat):Int:=(x.cell j).toInt
def C8 (x:IV):Bx:=⟨⟨cI x 0,cI x 1⟩,⟨cI x 2,cI x 3⟩,⟨cI x 4,cI x 5⟩,⟨cI x 6,cI x 7⟩,⟨cI x 8,cI x 9⟩⟩
abbrev D1:List Kd:=[.z,.z,.z,.z,.z,.z,.z,.z,.z,.z]
def Bx.emp (b:Bx):Bool:=b.s0.emp||(b.s1.emp||(b.s2.emp||(b.s3.emp||b.s4.emp)))
def NI:Bx:=⟨⟨0,0⟩,⟨0,0⟩,⟨0,0⟩,⟨0,0⟩,⟨0,0⟩⟩
def E3 (i:Int):Bool:=decide (0≤i)&&decide (i < 5)
def Bx.cutL (b:Bx) (i a:Int):Bx:=b.p ((b.g i.toNat).cutL a) i.toNat
def Bx.cutH (b:Bx) (i a:Int):Bx:=b.p ((b.g i.toNat).cutH a) i.toNat
def Bx.meet (a b:Bx):Bx:=⟨a.s0.meet b.s0,a.s1.meet b.s1,a.s2.meet b.s2,a.s3.meet b.s3,a.s4.meet b.s4⟩
def Pt.p (p:Pt) (x:Int):Nat→Pt
 | 0=>⟨x,p.p1,p.p2,p.p3⟩
 | 1=>⟨p.p0,x,p.p2,p.p3⟩
 | 2=>⟨p.p0,p.p1,x,p.p3⟩
 | _=>⟨p.p0,p.p1,p.p2,x⟩
def Bx.low (b:Bx):Pt:=⟨b.s0.lo,b.s1.lo,b.s2.lo,b.s3.lo⟩
def Bx.has (b:Bx) (p:Pt) (t:Int):Bool:=b.s0.has p.p0&&(b.s1.has p.p1&&(b.s2.has p.p2&&(b.s3.has p.p3&&b.s4.has t)))
def KR:C2
 | [b]=>FO b fun b=>.ok (.bool (b.emp)) []
 | _=>.no
def SO:C2
 | [b]=>FO b fun b=>.ok b.low.V []
 | _=>.no
def OV:C2
 | [b,.int .i64 i,.int .i64 a]=>FO b fun b=>.br (E3 i) (.ok (.tup [(b.cutL i a).V,(b.cutH i a).V]) []) .no
 | _=>.no
def FR (l:LI) (p:Pt):Nat→Int→Int × Nd
 | 0,_=>(-1,Nd.zero)
 | n+1,a=>
  cond (decide (a≥ic l.length)) (-1,Nd.zero)
   (cond (!(ES (l.getD a.toNat default).toInt)) (-1,Nd.zero)
    (cond (CQ (l.getD a.toNat default).toInt).lf (a,CQ (l.getD a.toNat default).toInt)
     (cond (decide (p.g (CQ (l.getD a.toNat default).toInt).f.toNat≤(CQ (l.getD a.toNat default).toInt).a)) (FR l p n (CQ (l.getD a.toNat default).toInt).l) (FR l p n (CQ (l.getD a.toNat default).toInt).r))))
def PL (l:LI) (p:Pt):Int:=(FR l p 31 0).1
def WO (l:LI) (p:Pt):Nd:=(FR l p 31 0).2
def T5:C2
 | [.list false [.int .u64] l,p]=>LC p fun p=>.ok (.tup [.int .i64 (PL l p),(WO l p).V]) []
 | _=>.no
def HG (l:LI) (p:Pt):Int:=(WO l p).v
def T4:C2
 | [.list false [.int .u64] l,p]=>LC p fun p=>.ok (.int .i64 (HG l p)) []
 | _=>.no
def H5 (m:Md) (c:Int):Int:=cond (c==0) m.b0 (cond (c==1) m.b1 m.b2)
abbrev OC (t:IV):Int:=cI t 0
abbrev D2 (t:IV):LI:=(t.cell 1).toList
def NT (c:Int) (p:Pt):LI→Int→Int
 | [],s=>s
 | t :: r,s=>NT c p r (cond (OC t==c) (s+HG (D2 t) p) s)
def FA (m:Md) (c:Int):Bool:=decide (0≤c)&&decide (c < m.c)
def TP:C2
 | [m,.int .i64 k,p]=>FY m fun m=>LC p fun p=>.br (DX m&&FA m k) (.ok (.int .i64 (NT k p m.ts (H5 m k))) []) .no
 | _=>.no
def CW (m:Md) (k:Int) (p:Pt):Int:=cond (DX m&&FA m k) (NT k p m.ts (H5 m k)) 0
def TN:C2
 | [m,.int .i64 k,p]=>FY m fun m=>LC p fun p=>.ok (.int .i64 (CW m k p)) []
 | _=>.no
def PP (x:Int):List Int→List Int
 | []=>[x]
 | y :: r=>cond (decide (x≤y)) (x :: y :: r) (y :: PP x r)
def HR:List Int→List Int
 | []=>[]
 | x :: r=>PP x (HR r)
def G6:Int→List Int→List Int
 | _,[]=>[]
 | p,x :: r=>cond (x==p) (G6 x r) (x :: G6 x r)
def GE:List Int→List Int
 | []=>[]
 | x :: r=>x :: G6 x r
def LB (f:Int) (w:IV):List Int:=cond (!(CQ w.toInt).lf&&(CQ w.toInt).f==f) [(CQ w.toInt).a] []
def IK (ts:LI) (f:Int):List Int:=ts.flatMap fun t=>(D2 t).flatMap (LB f)
def G3 (ts:LI) (f:Int):List Int:=GE (HR (IK ts f))
def iZ (l:List Int):LI:=l.map IV.int
def TO:C2
 | [m,.int .i64 f]=>FY m fun m=>.br (DX m) (.ok (.vec 3 false [.z] (iZ (G3 m.ts f))) []) .no
 | _=>.no
def W1:Ip:=⟨3,false,fun rs l=>match rs with
 | []=>some (iZ (HR (l.map IV.toInt)))
 | _=>none⟩
def WZ:Ip:=⟨3,true,fun rs l=>match rs with
 | []=>some (iZ (GE (l.map IV.toInt)))
 | _=>none⟩
def IC (a b:Int) (l:List Int):List Int:=l.filter fun t=>!(decide (t < a)||decide (t≥b))
def W0:Ip:=⟨3,true,fun rs l=>match rs with
 | [.clo f [.bor [.int .i64 a,.int .i64 b]]]=>cond (AZ f 65) (some (iZ (IC a b (l.map IV.toInt)))) none
 | _=>none⟩
def Qy.bx (q:Qy):Bx:=⟨⟨q.a0,q.b0⟩,⟨q.a1,q.b1⟩,⟨q.a2,q.b2⟩,⟨q.a3,q.b3⟩,⟨q.a4,q.b4⟩⟩
def F6 (d i:Int) (s:Sp):Bool:=!(decide (i≥d)&&!((s.lo==0)&&(s.hi==0)))&&(!s.emp&&(DL s.lo&&DL s.hi))
def P6 (b:Bx) (d:Int):Bool:=F6 d 0 b.s0&&(F6 d 1 b.s1&&(F6 d 2 b.s2&&(F6 d 3 b.s3&&F6 d 4 b.s4)))
def TY:C2
 | [b,.int .i64 d]=>FO b fun b=>.ok (.bool (P6 b d)) []
 | _=>.no
def JC (m:Md) (q:Qy):Bool:=
 cond (q.k==1) (decide (q.lo≤q.hi)&&((q.ft==0)&&!q.fl))
  (cond (q.k==2) (decide (m.c≥2)&&((q.lo==0)&&((q.hi==0)&&((q.ft==0)&&!q.fl))))
   (cond (q.k==3) (decide (q.ft≥0)&&(decide (q.ft < m.d)&&((q.lo==0)&&(q.hi==0)))) false))
def EI (m:Md) (q:Qy):Bool:=DX m&&(decide (q.c≥0)&&(decide (q.c < m.c)&&(decide (q.bu≥0)&&(decide (q.bu≤65536)&&(P6 q.bx m.d&&JC m q)))))
def EL (q:Qy):Bool:=(q.k==3)&&(decide (q.ft≥0)&&decide (q.ft < 4))
def II (q:Qy):Bx:=q.bx.p (cond (EL q) (q.bx.g q.ft.toNat) ⟨0,0⟩) 4
def F5 (q:Qy) (p:Pt) (t:Int):Pt:=cond (EL q) (p.p t q.ft.toNat) p
def Hk (m:Md) (q:Qy) (p:Pt) (own:Int):Bool:=(List.range m.c.toNat).any fun c=>!((c:Int)==q.c)&&decide (CW m (c:Int) p≥own)
def F9 (m:Md) (q:Qy) (p:Pt) (t:Int):Bool:=
 EI m q &&
  cond (q.k==1) (!(Sp.has ⟨q.lo,q.hi⟩ (CW m q.c p)))
   (cond (q.k==2) (Hk m q p (CW m q.c p))
    (cond (decide (p.g q.ft.toNat≥t)) false
     (cond q.fl (decide (CW m q.c (F5 q p t) > CW m q.c p)) (decide (CW m q.c (F5 q p t) < CW m q.c p)))))
def JW (n:Nd) (i:Nat) (own:LI):LI:=
 cond n.lf own ((own.set n.l.toNat ((C8 (own.getD i default)).cutL n.f n.a).I).set n.r.toNat ((C8 (own.getD i default)).cutH n.f n.a).I)
def RQ (b:Bx) (v:Int):IV:=.agg [.int b.s0.lo,.int b.s0.hi,.int b.s1.lo,.int b.s1.hi,.int b.s2.lo,.int b.s2.hi,.int b.s3.lo,.int b.s3.hi,.int b.s4.lo,.int b.s4.hi,.int v]
abbrev E4 (x:IV):Int:=cI x 10
abbrev FT:List Kd:=[.z,.z,.z,.z,.z,.z,.z,.z,.z,.z,.z]
def HM:LI→Nat→LI→LI→LI
 | [],_,_,out=>out
 | w :: r,i,own,out=>HM r (i+1) (JW (CQ w.toInt) i own) (cond ((CQ w.toInt).lf&&!(C8 (own.getD i default)).emp) (out++[RQ (C8 (own.getD i default)) (CQ w.toInt).v]) out)
def EV (l:LI) (b:Bx):LI:=cond (F7 l 4&&!b.emp) (HM l 0 ((vad l.length NI.I).set 0 b.I) []) []
def TM:C2
 | [.list false [.int .u64] l,b]=>FO b fun b=>.ok (.list true FT (EV l b)) []
 | _=>.no
def LR:LI→Int→Int
 | [],a=>a
 | x :: r,a=>LR r (min a (E4 x))
def LQ:LI→Int→Int
 | [],a=>a
 | x :: r,a=>LQ r (max a (E4 x))
def RS (ps:LI):Int:=LR ps (E4 (ps.getD 0 default))
def RR (ps:LI):Int:=LQ ps (E4 (ps.getD 0 default))
def L3 (l:LI) (b:Bx):Bool:=!((EV l b).isEmpty)
def GS (l:LI) (b:Bx):Int:=cond (L3 l b) (RS (EV l b)) 0
def GR (l:LI) (b:Bx):Int:=cond (L3 l b) (RR (EV l b)) 0
def SN:C2
 | [.list false [.int .u64] l,b]=>FO b fun b=>.ok (.tup [.int .i64 (GS l b),.int .i64 (GR l b),.bool (L3 l b)]) []
 | _=>.no
def I2 (h:LI→Int) (c:Int):LI→Int→Int
 | [],s=>s
 | t :: r,s=>I2 h c r (cond (OC t==c) (s+h (D2 t)) s)
def E9 (m:Md) (c:Int) (b:Bx):Bool:=DX m&&(FA m c&&!b.emp)
def EX (m:Md) (c:Int) (b:Bx):Int:=cond (E9 m c b) (I2 (fun l=>GS l b) c m.ts (H5 m c)) 0
def D6 (m:Md) (c:Int) (b:Bx):Int:=cond (E9 m c b) (I2 (fun l=>GR l b) c m.ts (H5 m c)) 0
def MG:C2
 | [m,.int .i64 k,b]=>FY m fun m=>FO b fun b=>.ok (.tup [.int .i64 (EX m k b),.int .i64 (D6 m k b),.bool (E9 m k b)]) []
 | _=>.no
def K2 (m:Md) (c lo:Int) (b:Bx):Nat→Int→Int→Bool→Int
 | 0,_,a,_=>a
 | n+1,i,a,z=>cond (i==c) (K2 m c lo b n (i+1) a z)
  (cond (!z||decide (lo - D6 m i b < a)) (K2 m c lo b n (i+1) (lo - D6 m i b) true) (K2 m c lo b n (i+1) a z))
def NX (m:Md) (c:Int) (b:Bx):Bool:=E9 m c b&&decide (m.c≥2)
def U9 (m:Md) (c:Int) (b:Bx):Int:=cond (NX m c b) (K2 m c (EX m c b) b m.c.toNat 0 0 false) 0
def SM:C2
 | [m,.int .i64 k,b]=>FY m fun m=>FO b fun b=>.ok (.tup [.int .i64 (U9 m k b),.bool (NX m k b)]) []
 | _=>.no
def I9 (q:Qy) (b:Bx):Bx:=cond (EL q) (b.p ⟨0,0⟩ 4) b
def JI (q:Qy) (b:Bx):Bx:=cond (EL q) ((b.p b.s4 q.ft.toNat).p ⟨0,0⟩ 4) b
def RN (q:Qy) (b:Bx):Bool:=EL q&&(!b.emp&&decide ((b.g q.ft.toNat).lo < b.s4.hi))
def KW (m:Md) (q:Qy) (b:Bx):Bool:=EL q&&(E9 m q.c (I9 q b)&&E9 m q.c (JI q b))
def UL (m:Md) (q:Qy) (b:Bx):Int:=cond (KW m q b) (EX m q.c (JI q b) - D6 m q.c (I9 q b)) 0
def UK (m:Md) (q:Qy) (b:Bx):Int:=cond (KW m q b) (D6 m q.c (JI q b) - EX m q.c (I9 q b)) 0
def FI (m:Md) (q:Qy) (b:Bx):Bool:=
 EI m q &&
  cond b.emp true
   (cond (q.k==1) (E9 m q.c b&&(decide (q.lo≤EX m q.c b)&&decide (D6 m q.c b≤q.hi)))
    (cond (q.k==2) (NX m q.c b&&decide (U9 m q.c b > 0))
     (cond (!(RN q b)) true
      (cond q.fl (KW m q b&&decide (UK m q b≤0)) (KW m q b&&decide (UL m q b≥0))))))
def HL (q:Qy) (i:Int):Int:=cond (decide (i≥0)&&decide (i < 4)) i (cond ((i==4)&&(q.k==3)) q.ft (-1))
def EB (m:Md) (q:Qy) (b:Bx) (i:Nat):List Int:=
 cond (decide (HL q (i:Int) < 0)) [] (IC (b.g i).lo (b.g i).hi (G3 m.ts (HL q (i:Int))))
def HD (m:Md) (q:Qy) (b:Bx):Nat→Nat→Option (Int × Int)
 | 0,_=>none
 | n+1,i=>cond (decide ((EB m q b i).length > 0)) (some ((i:Int),(EB m q b i).getD (((EB m q b i).length - 1) / 2) 0)) (HD m q b n (i+1))
def DF (m:Md) (q:Qy) (b:Bx):Option (Int × Int):=HD m q b 5 0
def TX:C2
 | [m,q]=>FY m fun m=>FP q fun q=>.ok (.bool (JC m q)) []
 | _=>.no
def MN:C2
 | [m,q]=>FY m fun m=>FP q fun q=>.ok (.bool (EI m q)) []
 | _=>.no
def O2:C2
 | [q]=>FP q fun q=>.ok (.bool (EL q)) []
 | _=>.no
def KS:C2
 | [q]=>FP q fun q=>.ok (.bool (EL q)) []
 | _=>.no
def TW:C2
 | [q]=>FP q fun q=>.ok (II q).V []
 | _=>.no
def TV:C2
 | [q,p,.int .i64 t]=>FP q fun q=>LC p fun p=>.ok (F5 q p t).V []
 | _=>.no
def TU:C2
 | [m,q,p,.int .i64 t]=>FY m fun m=>FP q fun q=>LC p fun p=>.ok (.bool (F9 m q p t)) []
 | _=>.no
def TC:C2
 | [q,b]=>FP q fun q=>FO b fun b=>.ok (I9 q b).V []
 | _=>.no
def TF:C2
 | [q,b]=>FP q fun q=>FO b fun b=>.ok (JI q b).V []
 | _=>.no
def TE:C2
 | [q,b]=>FP q fun q=>FO b fun b=>.ok (.bool (RN q b)) []
 | _=>.no
def TB:C2
 | [m,q,b]=>FY m fun m=>FP q fun q=>FO b fun b=>.ok (.tup [.int .i64 (UL m q b),.int .i64 (UK m q b),.bool (KW m q b)]) []
 | _=>.no
def TG:C2
 | [m,q,b]=>FY m fun m=>FP q fun q=>FO b fun b=>.ok (.bool (FI m q b)) []
 | _=>.no
def TH:C2
 | [b]=>FO b fun b=>.ok (.tup [b.low.V,.int .i64 b.s4.hi]) []
 | _=>.no
def TL:C2
 | [q,.int .i64 i]=>FP q fun q=>.ok (.int .i64 (HL q i)) []
 | _=>.no
def TK:C2
 | [m,q,b,.int .i64 i]=>FY m fun m=>FP q fun q=>FO b fun b=>.br (DX m&&E3 i) (.ok (.list false [.z] (iZ (EB m q b i.toNat))) []) .no
 | _=>.no
def E1 (o:Option (Int × Int)):Int:=match o with | none=>0 | some (i,_)=>i
def FG (o:Option (Int × Int)):Int:=match o with | none=>0 | some (_,a)=>a
def TJ:C2
 | [m,q,b]=>FY m fun m=>FP q fun q=>FO b fun b=>.br (DX m) (.ok (.tup [.int .i64 (E1 (DF m q b)),.int .i64 (FG (DF m q b)),.bool (DF m q b).isSome]) []) .no
 | _=>.no
structure Sr where
 left:LI
 proof:LI
 v:Vd
 spent:Int
def J1 (s:Bool) (p a:Int):IV:=.agg [.bool s,.int p,.int a]
def C7 (l:LI):Bx:=C8 (l.getD (l.length - 1) default)
def HA (l:LI):LI:=l.take (l.length - 1)
def D5 (m:Md) (q:Qy) (s:Sr):Sr:=
 cond (FI m q (C7 s.left)) ⟨HA s.left,s.proof++[J1 true 0 0],cond (ic (s.left.length - 1)==0) ⟨1,s.proof++[J1 true 0 0],0,0,0,0,0,0⟩ s.v,s.spent+1⟩
  (cond (F9 m q (C7 s.left).low (C7 s.left).s4.hi) ⟨HA s.left,s.proof,⟨2,[],(C7 s.left).s0.lo,(C7 s.left).s1.lo,(C7 s.left).s2.lo,(C7 s.left).s3.lo,(C7 s.left).s4.hi,0⟩,s.spent+1⟩
   (cond (DF m q (C7 s.left)).isSome
    ⟨HA s.left++[((C7 s.left).cutH (E1 (DF m q (C7 s.left))) (FG (DF m q (C7 s.left)))).I,((C7 s.left).cutL (E1 (DF m q (C7 s.left))) (FG (DF m q (C7 s.left)))).I],
     s.proof++[J1 false (E1 (DF m q (C7 s.left))) (FG (DF m q (C7 s.left)))],s.v,s.spent+1⟩
    ⟨HA s.left,s.proof,⟨3,[],0,0,0,0,0,0⟩,s.spent+1⟩))
def EJ (q:Qy) (s:Sr):Bool:=!(s.v.kind==0)||decide (s.spent≥q.bu)
def FL (m:Md) (q:Qy):Nat→Sr→Sr
 | 0,s=>s
 | n+1,s=>cond (EJ q s) s (FL m q n (D5 m q s))
def NY (m:Md) (q:Qy):Sr:=cond (EI m q) ⟨[(II q).I],[],Vd.none,0⟩ ⟨[],[],⟨4,[],0,0,0,0,0,0⟩,0⟩
def GH (s:Sr):Vd:=⟨cond (s.v.kind==0) 3 s.v.kind,s.v.proof,s.v.w0,s.v.w1,s.v.w2,s.v.w3,s.v.twin,s.spent⟩
def LY (m:Md) (q:Qy):Vd:=GH (FL m q (q.bu.toNat+1) (NY m q))
def EE (m:Md) (q:Qy) (r:List FM.V):List FM.V:=m.cs++(q.cs++r)
def seOf? (l:List FM.V):Option (Md × Qy × List FM.V):=
 match mdOf? (l.take 6),qyOf? ((l.drop 6).take 17) with
 | some m,some q=>some (m,q,(l.drop 6).drop 17)
 | _,_=>none
abbrev bD (l:LI):FM.V:=.vec 31 true D1 l
abbrev Bm (l:LI):FM.V:=.vec 71 true DP l
abbrev WT (l:LI):FM.V:=.list true DP l
def SA (v:Vd) (vp:FM.V) (sp:Int):List FM.V:=[.int .i64 v.kind,vp,.int .i64 v.w0,.int .i64 v.w1,.int .i64 v.w2,.int .i64 v.w3,.int .i64 v.twin,.int .i64 v.spent,.int .i64 sp]
def KN (t:Nat) (m:Md) (q:Qy) (s:Sr):List FM.V:=
 EE m q (match t with
  | 0=>bD s.left :: Bm s.proof :: SA s.v .zs s.spent
  | 1=>bD s.left :: .zs :: SA s.v .zs s.spent
  | 2=>bD s.left :: WT s.proof :: SA s.v (WT s.v.proof) s.spent
  | _=>.zs :: .zs :: SA s.v .zs s.spent)
def srT?:List FM.V→Option (Nat × Sr)
 | [.vec 31 true [.z,.z,.z,.z,.z,.z,.z,.z,.z,.z] l,.vec 71 true [.bool,.z,.z] p,.int .i64 k,.zs,.int .i64 a,.int .i64 b,.int .i64 c,.int .i64 d,.int .i64 t,.int .i64 vs,.int .i64 sp]=>some (0,⟨l,p,⟨k,[],a,b,c,d,t,vs⟩,sp⟩)
 | [.vec 31 true [.z,.z,.z,.z,.z,.z,.z,.z,.z,.z] l,.zs,.int .i64 k,.zs,.int .i64 a,.int .i64 b,.int .i64 c,.int .i64 d,.int .i64 t,.int .i64 vs,.int .i64 sp]=>some (1,⟨l,[],⟨k,[],a,b,c,d,t,vs⟩,sp⟩)
 | [.vec 31 true [.z,.z,.z,.z,.z,.z,.z,.z,.z,.z] l,.list true [.bool,.z,.z] p,.int .i64 k,.list true [.bool,.z,.z] vp,.int .i64 a,.int .i64 b,.int .i64 c,.int .i64 d,.int .i64 t,.int .i64 vs,.int .i64 sp]=>some (2,⟨l,p,⟨k,vp,a,b,c,d,t,vs⟩,sp⟩)
 | [.zs,.zs,.int .i64 k,.zs,.int .i64 a,.int .i64 b,.int .i64 c,.int .i64 d,.int .i64 t,.int .i64 vs,.int .i64 sp]=>some (3,⟨[],[],⟨k,[],a,b,c,d,t,vs⟩,sp⟩)
 | _=>none
def Y1 (v:FM.V) (k:Nat→Md→Qy→Sr→R):R:=
 match v with
 | .bor l=>match seOf? l with
  | some (m,q,r)=>match srT? r with
   | some (t,s)=>k t m q s
   | none=>.no
  | none=>.no
 | _=>.no
def YP (m:Md) (q:Qy) (t:Nat) (s:Sr):Nat:=
 cond (FI m q (C7 s.left)) (cond (ic (s.left.length - 1)==0) 2 0)
  (cond (F9 m q (C7 s.left).low (C7 s.left).s4.hi) t (cond (DF m q (C7 s.left)).isSome 0 t))
def O3:C2
 | [m,q]=>FY m fun m=>FP q fun q=>.br (EI m q) (.ok (.bor (KN 1 m q ⟨[(II q).I],[],Vd.none,0⟩)) []) (.ok (.bor (KN 3 m q ⟨[],[],⟨4,[],0,0,0,0,0,0⟩,0⟩)) [])
 | _=>.no
def O5:C2
 | [x]=>Y1 x fun t m q s=>
  .br (EJ q s) (.ok (.bool false) [KN t m q s])
   (.br (BI t 1&&(EI m q&&(decide (0≤s.spent)&&(A2 0 s.left.length&&(BI s.left.length 100000&&BI s.proof.length 100000)))))
    (.br (FI m q (C7 s.left)) (.br (ic (s.left.length - 1)==0) (.ok (.bool true) [KN 2 m q (D5 m q s)]) (.ok (.bool true) [KN 0 m q (D5 m q s)]))
     (.br (F9 m q (C7 s.left).low (C7 s.left).s4.hi) (.ok (.bool true) [KN t m q (D5 m q s)])
      (.br (DF m q (C7 s.left)).isSome (.ok (.bool true) [KN 0 m q (D5 m q s)]) (.ok (.bool true) [KN t m q (D5 m q s)])))) .no)
 | _=>.no
def O6:C2
 | [x]=>Y1 x fun t m q s=>.br (BI s.v.proof.length 100000) (.ok (GH s).V [KN t m q s]) .no
 | _=>.no
def O4:C2
 | [m,q]=>FY m fun m=>FP q fun q=>.ok (LY m q).V []
 | _=>.no
def V7:C2
 | [.list true [.bool,.z,.z] l]=>.br (BI l.length 100000) (.ok (.vec 71 true DP l) []) .no
 | _=>.no
open Go Go.Proofs
def tN (N:Nat):Env:=DB [] [] 2 N
theorem Fo (N:Nat):C6 (tN N) iW [.cell 0 29] [[.z,.z]] []=(some ((.agg [.i 1,.i 0]),[])):=by kernel_rfl
def tO (N:Nat):Env:=DB [(82,O8)] [] 12 N
theorem Fp (N:Nat) (lo hi:Int):C6 (tO N) iX [.cell 4 29] [[.z,.z]] [.i lo,.i hi]=(cond (decide (lo > hi)) (some ((.agg [.i 1,.i 0]),[])) (some ((.agg [.i lo,.i hi]),[]))):=by kernel_rfl
def tL (N:Nat):Env:=DB [] [] 8 N
theorem Fl (N:Nat) (s:Sp):C6 (tL N) iU [.tmp 2] [[.bool]] [(Sp.V s)]=(some ((.bool (decide (Sp.lo s > Sp.hi s))),[])):=by kernel_rfl
def tM (N:Nat):Env:=DB [] [] 15 N
theorem Fm (N:Nat) (s:Sp) (n:Int):C6 (tM N) iV [.tmp 4] [[.bool]] [(Sp.V s),.i n]=(cond (decide (Sp.lo s≤n)) (some ((.bool (decide (n≤Sp.hi s))),[])) (some ((.bool false),[]))):=by kernel_rfl
def tK (N:Nat):Env:=DB [(82,O8),(81,T3)] [] 29 N
theorem Fk (N:Nat) (s:Sp) (atv:Int):C6 (tK N) iT [.cell 4 29,.cell 5 29] [[.z,.z],[.z,.z]] [(Sp.V s),.i atv]=(cond (decide (atv≥Sp.hi s)) (some ((.tup [(Sp.V (L1 (Sp.lo s) (min (Sp.hi s) atv))),.agg [.i 1,.i 0]]),[])) (some ((.tup [(Sp.V (L1 (Sp.lo s) (min (Sp.hi s) atv))),(Sp.V (L1 (max (Sp.lo s) (AA AC (atv+1))) (Sp.hi s)))]),[]))):=by kernel_rfl
def HI (N:Nat):Env:=DB [(84,KU)] [(3,⟨[0,3,4,5,6,9],[3,5],[]⟩)] 46 N
abbrev IN (p:Pt) (l0:LI) (x4 x6 x9:Int) (u00:Bool) (u01 u02 u03 u04 u05:Int):St:=⟨[(0,(.list false [.int .u64] l0)),(3,(.ptr 3 0 0)),(4,(.i x4)),(5,(.ptr 5 0 0)),(6,(.i x6)),(9,(.i x9))],[(3,(some (.box (Pt.cs p)))),(5,(some (.box [.bool u00,.i u01,.i u02,.i u03,.i u04,.i u05])))]⟩
theorem Fv (N:Nat) (l:LI) (p:Pt):C6 (HI N) JU [.tmp 4,.cell 5 89] [[.z],[.bool,.z,.z,.z,.z,.z]] [.list false [.int .u64] l,(Pt.V p)]=(C4 (HI N) (CR JU [1,1,0,1,0,0]) ⟨[0,3,4,5,6,9],[3,5],[]⟩ N (IN p l 0 0 0 false 0 0 0 0 0) (CY 0 (C0 (HI N) (CR JU [1,1,1]) (C1 (HI N) none [.tmp 4,.cell 5 89] [[.z],[.bool,.z,.z,.z,.z,.z]])))):=by kernel_rfl
theorem qT (N:Nat) (p:Pt) (l0:LI) (x4 x6 x9:Int) (u00:Bool) (u01 u02 u03 u04 u05:Int) (again:St→CU) (k:Out→St→CU):D9 (HI N) (CR JU [1,1,0,1,0,0]) (IN p l0 x4 x6 x9 u00 u01 u02 u03 u04 u05) (D4 again ⟨[0,3,4,5,6,9],[3,5],[]⟩ k)=(cond (decide (x9 < 31)) (cond (decide (x6≥ic (AF l0))) (k (.exit 0) (IN p l0 x4 x6 x9 u00 u01 u02 u03 u04 u05)) (cond (decide (0≤x6)&&decide (x6 < ic (AF l0))) (cond (!ES (IV.toInt (AG l0 (AD x6) default))) (k .ret (IN p l0 (-1) x6 x9 false 0 0 0 0 0)) (cond (Nd.lf (CQ (IV.toInt (AG l0 (AD x6) default)))) (k .ret ⟨[(0,(.list false [.int .u64] l0)),(3,(.ptr 3 0 0)),(4,(.i x6)),(5,(.ptr 5 0 0)),(6,(.i x6)),(9,(.i x9))],[(3,(some (.box (Pt.cs p)))),(5,(some (.box (Nd.cs (CQ (IV.toInt (AG l0 (AD x6) default)))))))]⟩) (cond (decide (Nd.f (CQ (IV.toInt (AG l0 (AD x6) default)))=ic 0)) (cond (decide (Pt.p0 p≤Nd.a (CQ (IV.toInt (AG l0 (AD x6) default))))) (again (IN p l0 x4 (Nd.l (CQ (IV.toInt (AG l0 (AD x6) default)))) (AA AC (x9+1)) u00 u01 u02 u03 u04 u05)) (again (IN p l0 x4 (Nd.r (CQ (IV.toInt (AG l0 (AD x6) default)))) (AA AC (x9+1)) u00 u01 u02 u03 u04 u05))) (cond (decide (Nd.f (CQ (IV.toInt (AG l0 (AD x6) default)))=ic 1)) (cond (decide (Pt.p1 p≤Nd.a (CQ (IV.toInt (AG l0 (AD x6) default))))) (again (IN p l0 x4 (Nd.l (CQ (IV.toInt (AG l0 (AD x6) default)))) (AA AC (x9+1)) u00 u01 u02 u03 u04 u05)) (again (IN p l0 x4 (Nd.r (CQ (IV.toInt (AG l0 (AD x6) default)))) (AA AC (x9+1)) u00 u01 u02 u03 u04 u05))) (cond (decide (Nd.f (CQ (IV.toInt (AG l0 (AD x6) default)))=ic 2)) (cond (decide (Pt.p2 p≤Nd.a (CQ (IV.toInt (AG l0 (AD x6) default))))) (again (IN p l0 x4 (Nd.l (CQ (IV.toInt (AG l0 (AD x6) default)))) (AA AC (x9+1)) u00 u01 u02 u03 u04 u05)) (again (IN p l0 x4 (Nd.r (CQ (IV.toInt (AG l0 (AD x6) default)))) (AA AC (x9+1)) u00 u01 u02 u03 u04 u05))) (cond (decide (Nd.f (CQ (IV.toInt (AG l0 (AD x6) default)))=ic 3)) (cond (decide (Pt.p3 p≤Nd.a (CQ (IV.toInt (AG l0 (AD x6) default))))) (again (IN p l0 x4 (Nd.l (CQ (IV.toInt (AG l0 (AD x6) default)))) (AA AC (x9+1)) u00 u01 u02 u03 u04 u05)) (again (IN p l0 x4 (Nd.r (CQ (IV.toInt (AG l0 (AD x6) default)))) (AA AC (x9+1)) u00 u01 u02 u03 u04 u05))) none)))))) none)) (k (.exit 0) (IN p l0 x4 x6 x9 u00 u01 u02 u03 u04 u05))):=by kernel_rfl
theorem j8 (N:Nat) (p:Pt) (l0:LI) (x4 x6 x9:Int) (u00:Bool) (u01 u02 u03 u04 u05:Int):(CY 0 (C0 (HI N) (CR JU [1,1,1]) (C1 (HI N) none [.tmp 4,.cell 5 89] [[.z],[.bool,.z,.z,.z,.z,.z]]))) (.exit 0) (IN p l0 x4 x6 x9 u00 u01 u02 u03 u04 u05)=(some ((.tup [.i (-1),.agg [.bool false,.i 0,.i 0,.i 0,.i 0,.i 0]]),[])):=by kernel_rfl
theorem xN (N:Nat) (p:Pt) (l0:LI) (x4 x6 x9:Int) (u00:Bool) (u01 u02 u03 u04 u05:Int):(CY 0 (C0 (HI N) (CR JU [1,1,1]) (C1 (HI N) none [.tmp 4,.cell 5 89] [[.z],[.bool,.z,.z,.z,.z,.z]]))) .ret (IN p l0 x4 x6 x9 u00 u01 u02 u03 u04 u05)=(some ((.tup [.i x4,.agg [.bool u00,.i u01,.i u02,.i u03,.i u04,.i u05]]),[])):=by kernel_rfl
def tP (N:Nat):Env:=DB [(99,T5)] [] 15 N
theorem Fu (N:Nat) (l:LI) (p:Pt):C6 (tP N) iY [.tmp 4] [[.z]] [.list false [.int .u64] l,(Pt.V p)]=(some ((.i (Nd.v (WO l p))),[])):=by kernel_rfl
def H3 (N:Nat):Env:=DB [(92,T4)] [(3,⟨[1,5,6,7,15,16,17],[5],[]⟩)] 33 N
abbrev NA (p:Pt) (x1 x6 x7:Int) (l15:LI) (x16 x17:Int):St:=⟨[(1,(.i x1)),(5,(.ptr 5 0 0)),(6,(.i x6)),(7,(.i x7)),(15,(.list true EU l15)),(16,(.i x16)),(17,(.i x17))],[(5,(some (.box (Pt.cs p))))]⟩
theorem Em (N:Nat) (m:Md) (u00:Int) (p:Pt):C6 (H3 N) KE [.tmp 6] [[.z]] [(Md.V m),.i u00,(Pt.V p)]=(cond (decide (u00=ic 0)) (C4 (H3 N) (CR KE [1,1,0,1,0,0]) ⟨[1,5,6,7,15,16,17],[5],[]⟩ N (NA p u00 0 (Md.b0 m) (Md.ts m) (ic (AF (Md.ts m))) 0) (CY 0 (C0 (H3 N) (CR KE [1,1,1]) (C1 (H3 N) none [.tmp 6] [[.z]])))) (cond (decide (u00=ic 1)) (C4 (H3 N) (CR KE [1,1,0,1,0,0]) ⟨[1,5,6,7,15,16,17],[5],[]⟩ N (NA p u00 0 (Md.b1 m) (Md.ts m) (ic (AF (Md.ts m))) 0) (CY 0 (C0 (H3 N) (CR KE [1,1,1]) (C1 (H3 N) none [.tmp 6] [[.z]])))) (cond (decide (u00=ic 2)) (C4 (H3 N) (CR KE [1,1,0,1,0,0]) ⟨[1,5,6,7,15,16,17],[5],[]⟩ N (NA p u00 0 (Md.b2 m) (Md.ts m) (ic (AF (Md.ts m))) 0) (CY 0 (C0 (H3 N) (CR KE [1,1,1]) (C1 (H3 N) none [.tmp 6] [[.z]])))) none))):=by kernel_rfl
theorem qD (N:Nat) (p:Pt) (x1 x6 x7:Int) (l15:LI) (x16 x17:Int) (again:St→CU) (k:Out→St→CU):D9 (H3 N) (CR KE [1,1,0,1,0,0]) (NA p x1 x6 x7 l15 x16 x17) (D4 again ⟨[1,5,6,7,15,16,17],[5],[]⟩ k)=(cond (decide (x17 < x16)) (cond (decide (0≤x17)&&decide (x17 < ic (AF l15))) (cond (IV.toInt (IV.cell (AG l15 (AD x17) default) 0)==x1) (again (NA p x1 x6 (AA AC (x7+HG (IV.toList (IV.cell (AG l15 (AD x17) default) 1)) p)) l15 x16 (AA AC (x17+1)))) (again (NA p x1 x6 x7 l15 x16 (AA AC (x17+1))))) none) (k (.exit 0) (NA p x1 x6 x7 l15 x16 x17))):=by kernel_rfl
theorem wR (N:Nat) (p:Pt) (x1 x6 x7:Int) (l15:LI) (x16 x17:Int):(CY 0 (C0 (H3 N) (CR KE [1,1,1]) (C1 (H3 N) none [.tmp 6] [[.z]]))) (.exit 0) (NA p x1 x6 x7 l15 x16 x17)=(some ((.i x7),[])):=by kernel_rfl
def s5 (N:Nat):Env:=DB [(49,KT),(80,TP)] [] 24 N
theorem Ei (N:Nat) (m:Md) (u00:Int) (p:Pt):C6 (s5 N) iE [.tmp 6] [[.z]] [(Md.V m),.i u00,(Pt.V p)]=(cond (!DX m) (some ((.i 0),[])) (cond (decide (u00 < 0)) (some ((.i 0),[])) (cond (decide (u00≥Md.c m)) (some ((.i 0),[])) (cond (DX m&&FA m u00) (some ((.i (NT u00 p (Md.ts m) (H5 m u00))),[])) none)))):=by kernel_rfl
def r8 (N:Nat):Env:=DB [(75,O7)] [(2,⟨[2,5,6],[],[]⟩)] 12 N
def r9 (N:Nat):Env:=DB [] [(3,⟨[1,2,3,5],[1,2,3],[]⟩)] 16 N
open Go Go.Proofs
def JN (N:Nat):Env:=XS [(49,KT),(84,KU)] [(86,WZ),(85,W1)] [(5,⟨[1,4,5,16,17,18],[500],[⟨.tmp 5,500,3,false,[.z]⟩]⟩),(8,⟨[1,4,5,16,17,18,23,24,25],[500],[⟨.tmp 5,500,3,false,[.z]⟩]⟩)] 54 N
abbrev SH (x1:Int) (n5:Nat) (l16:LI) (x17 x18:Int) (u00:LI):St:=⟨[(1,(.i x1)),(4,.zs),(5,(.row 500 0 n5)),(16,(.list true EU l16)),(17,(.i x17)),(18,(.i x18))],[(500,(some (.row true 3 false [.z] u00)))]⟩
abbrev OL (x1:Int) (n5:Nat) (l16:LI) (x17 x18:Int) (l23:LI) (x24 x25:Int) (u00:LI):St:=⟨[(1,(.i x1)),(4,.zs),(5,(.row 500 0 n5)),(16,(.list true EU l16)),(17,(.i x17)),(18,(.i x18)),(23,(.list false [.int .u64] l23)),(24,(.i x24)),(25,(.i x25))],[(500,(some (.row true 3 false [.z] u00)))]⟩
theorem El (N:Nat) (m:Md) (u00:Int):C6 (JN N) KD [.tmp 4] [] [(Md.V m),.i u00]=(cond (!DX m) (some (.any,[])) (C4 (JN N) (CR KD [1,1,1,0,1,0,0]) ⟨[1,4,5,16,17,18],[500],[⟨(.tmp 5),500,3,false,[.z]⟩]⟩ N (SH u00 0 (Md.ts m) (ic (AF (Md.ts m))) 0 []) (CY 0 (C0 (JN N) (CR KD [1,1,1,1]) (C1 (JN N) none [.tmp 4] []))))):=by kernel_rfl
theorem qB (N:Nat) (x1:Int) (n5:Nat) (l16:LI) (x17 x18:Int) (u00:LI) (again:St→CU) (k:Out→St→CU):D9 (JN N) (CR KD [1,1,1,0,1,0,0]) (SH x1 n5 l16 x17 x18 u00) (D4 again ⟨[1,4,5,16,17,18],[500],[⟨(.tmp 5),500,3,false,[.z]⟩]⟩ k)=(cond (decide (x18 < x17)) (cond (decide (0≤x18)&&decide (x18 < ic (AF l16))) (C4 (JN N) (CR KD [1,1,1,0,1,0,0,1,1,0,0,1,1,0,0]) ⟨[1,4,5,16,17,18,23,24,25],[500],[⟨(.tmp 5),500,3,false,[.z]⟩]⟩ N (OL x1 n5 l16 x17 x18 (IV.toList (IV.cell (AG l16 (AD x18) default) 1)) (ic (AF (IV.toList (IV.cell (AG l16 (AD x18) default) 1)))) 0 u00) (CY 2 (CY 1 (C0 (JN N) (CR KD [1,1,1,0,1,0,0,1,1,1]) (D4 again ⟨[1,4,5,16,17,18],[500],[⟨(.tmp 5),500,3,false,[.z]⟩]⟩ k))))) none) (k (.exit 0) (SH x1 n5 l16 x17 x18 u00))):=by kernel_rfl
theorem qC (N:Nat) (x1:Int) (n5:Nat) (l16:LI) (x17 x18:Int) (l23:LI) (x24 x25:Int) (u00:LI) (again:St→CU) (k:Out→St→CU):D9 (JN N) (CR KD [1,1,1,0,1,0,0,1,1,0,0,1,1,0,0]) (OL x1 n5 l16 x17 x18 l23 x24 x25 u00) (D4 again ⟨[1,4,5,16,17,18,23,24,25],[500],[⟨(.tmp 5),500,3,false,[.z]⟩]⟩ k)=(cond (decide (x25 < x24)) (cond (decide (0≤x25)&&decide (x25 < ic (AF l23))) (cond (!Nd.lf (CQ (IV.toInt (AG l23 (AD x25) default)))) (cond (Nd.f (CQ (IV.toInt (AG l23 (AD x25) default)))==x1) (cond (decide ((n5+1)*8≤DJ)) (again (OL x1 (n5+1) l16 x17 x18 l23 x24 (AA AC (x25+1)) (AU n5 u00++[IV.int (Nd.a (CQ (IV.toInt (AG l23 (AD x25) default))))]))) none) (again (OL x1 n5 l16 x17 x18 l23 x24 (AA AC (x25+1)) u00))) (again (OL x1 n5 l16 x17 x18 l23 x24 (AA AC (x25+1)) u00))) none) (k (.exit 2) (OL x1 n5 l16 x17 x18 l23 x24 x25 u00))):=by kernel_rfl
theorem wP (N:Nat) (x1:Int) (n5:Nat) (l16:LI) (x17 x18:Int) (u00:LI):(CY 0 (C0 (JN N) (CR KD [1,1,1,1]) (C1 (JN N) none [.tmp 4] []))) (.exit 0) (SH x1 n5 l16 x17 x18 u00)=(cond (AZ n5 (AF u00)) (cond (AZ (AF (iZ (HR (va5 IV.toInt u00)))) (AF u00)) (cond (AZ n5 (AF (iZ (HR (va5 IV.toInt u00))))) (cond (BI (AF (iZ (GE (va5 IV.toInt (iZ (HR (va5 IV.toInt u00))))))) (AF (iZ (HR (va5 IV.toInt u00))))) (some ((.vec 3 false [.z] (AU (AF (iZ (GE (va5 IV.toInt (iZ (HR (va5 IV.toInt u00))))))) (iZ (GE (va5 IV.toInt (iZ (HR (va5 IV.toInt u00)))))))),[])) none) none) none) none):=by kernel_rfl
theorem wQ (N:Nat) (again:St→CU) (k:Out→St→CU) (x1:Int) (n5:Nat) (l16:LI) (x17 x18:Int) (l23:LI) (x24 x25:Int) (u00:LI):(CY 2 (CY 1 (C0 (JN N) (CR KD [1,1,1,0,1,0,0,1,1,1]) (D4 again ⟨[1,4,5,16,17,18],[500],[⟨(.tmp 5),500,3,false,[.z]⟩]⟩ k)))) (.exit 2) (OL x1 n5 l16 x17 x18 l23 x24 x25 u00)=(again (SH x1 n5 l16 x17 (AA AC (x18+1)) u00)):=by kernel_rfl
def sZ (N:Nat):Env:=DB [] [] 23 N
theorem Eg (N:Nat) (q:Qy) (u00:Int):C6 (sZ N) iD [.tmp 4] [[.z]] [(Qy.V q),.i u00]=(cond (decide (u00≥0)) (cond (decide (u00 < 4)) (some ((.i u00),[])) (cond (u00==4) (cond (Qy.k q==3) (some ((.i (Qy.ft q)),[])) (some ((.i (-1)),[]))) (some ((.i (-1)),[])))) (cond (u00==4) (cond (Qy.k q==3) (some ((.i (Qy.ft q)),[])) (some ((.i (-1)),[]))) (some ((.i (-1)),[])))):=by kernel_rfl
def fA (N:Nat):Env:=XS [(62,TL),(64,TO)] [(63,W0)] [] 24 N
def tF (N:Nat):Env:=DB [] [] 71 N
theorem Ey (N:Nat) (m:Md) (a1:Qy):C6 (tF N) iO [.tmp 4] [[.bool]] [(Md.V m),(Qy.V a1)]=(cond (Qy.k a1==1) (cond (decide (Qy.lo a1≤Qy.hi a1)) (cond (Qy.ft a1==0) (some ((.bool (!Qy.fl a1)),[])) (some ((.bool false),[]))) (some ((.bool false),[]))) (cond (Qy.k a1==2) (cond (decide (Md.c m≥2)) (cond (Qy.lo a1==0) (cond (Qy.hi a1==0) (cond (Qy.ft a1==0) (some ((.bool (!Qy.fl a1)),[])) (some ((.bool false),[]))) (some ((.bool false),[]))) (some ((.bool false),[]))) (some ((.bool false),[]))) (cond (Qy.k a1==3) (cond (decide (Qy.ft a1≥0)) (cond (decide (Qy.ft a1 < Md.d m)) (cond (Qy.lo a1==0) (some ((.bool (Qy.hi a1==0)),[])) (some ((.bool false),[]))) (some ((.bool false),[]))) (some ((.bool false),[]))) (some ((.bool false),[]))))):=by kernel_rfl
def tC (N:Nat):Env:=DB [(49,KT),(51,TX),(50,TY)] [] 41 N
theorem Ev (N:Nat) (m:Md) (q:Qy):C6 (tC N) iL [.tmp 4] [[.bool]] [(Md.V m),(Qy.V q)]=(cond (DX m) (cond (decide (Qy.c q≥0)) (cond (decide (Qy.c q < Md.c m)) (cond (decide (Qy.bu q≥0)) (cond (decide (Qy.bu q≤65536)) (cond (P6 {s0:={lo:=Qy.a0 q,hi:=Qy.b0 q},s1:={lo:=Qy.a1 q,hi:=Qy.b1 q},s2:={lo:=Qy.a2 q,hi:=Qy.b2 q},s3:={lo:=Qy.a3 q,hi:=Qy.b3 q},s4:={lo:=Qy.a4 q,hi:=Qy.b4 q}} (Md.d m)) (some ((.bool (JC m q)),[])) (some ((.bool false),[]))) (some ((.bool false),[]))) (some ((.bool false),[]))) (some ((.bool false),[]))) (some ((.bool false),[]))) (some ((.bool false),[]))):=by kernel_rfl
def tG (N:Nat):Env:=DB [] [] 16 N
theorem Ez (N:Nat) (q:Qy):C6 (tG N) iP [.tmp 2] [[.bool]] [(Qy.V q)]=(cond (Qy.k q==3) (cond (decide (Qy.ft q≥0)) (some ((.bool (decide (Qy.ft q < 4))),[])) (some ((.bool false),[]))) (some ((.bool false),[]))):=by kernel_rfl
def tE (N:Nat):Env:=DB [(38,O2)] [] 16 N
theorem Ex (N:Nat) (q:Qy):C6 (tE N) iN [.cell 2 31] [[.z,.z,.z,.z,.z,.z,.z,.z,.z,.z]] [(Qy.V q)]=(cond (EL q) (cond (decide (Qy.ft q=ic 0)) (some ((.agg [.i (Qy.a0 q),.i (Qy.b0 q),.i (Qy.a1 q),.i (Qy.b1 q),.i (Qy.a2 q),.i (Qy.b2 q),.i (Qy.a3 q),.i (Qy.b3 q),.i (Qy.a0 q),.i (Qy.b0 q)]),[])) (cond (decide (Qy.ft q=ic 1)) (some ((.agg [.i (Qy.a0 q),.i (Qy.b0 q),.i (Qy.a1 q),.i (Qy.b1 q),.i (Qy.a2 q),.i (Qy.b2 q),.i (Qy.a3 q),.i (Qy.b3 q),.i (Qy.a1 q),.i (Qy.b1 q)]),[])) (cond (decide (Qy.ft q=ic 2)) (some ((.agg [.i (Qy.a0 q),.i (Qy.b0 q),.i (Qy.a1 q),.i (Qy.b1 q),.i (Qy.a2 q),.i (Qy.b2 q),.i (Qy.a3 q),.i (Qy.b3 q),.i (Qy.a2 q),.i (Qy.b2 q)]),[])) (cond (decide (Qy.ft q=ic 3)) (some ((.agg [.i (Qy.a0 q),.i (Qy.b0 q),.i (Qy.a1 q),.i (Qy.b1 q),.i (Qy.a2 q),.i (Qy.b2 q),.i (Qy.a3 q),.i (Qy.b3 q),.i (Qy.a3 q),.i (Qy.b3 q)]),[])) (cond (decide (Qy.ft q=ic 4)) (some ((.agg [.i (Qy.a0 q),.i (Qy.b0 q),.i (Qy.a1 q),.i (Qy.b1 q),.i (Qy.a2 q),.i (Qy.b2 q),.i (Qy.a3 q),.i (Qy.b3 q),.i 0,.i 0]),[])) none))))) (some ((.agg [.i (Qy.a0 q),.i (Qy.b0 q),.i (Qy.a1 q),.i (Qy.b1 q),.i (Qy.a2 q),.i (Qy.b2 q),.i (Qy.a3 q),.i (Qy.b3 q),.i 0,.i 0]),[]))):=by kernel_rfl
def tD (N:Nat):Env:=DB [(38,O2)] [] 14 N
theorem Ew (N:Nat) (q:Qy) (p:Pt) (twin:Int):C6 (tD N) iM [.cell 6 43] [[.z,.z,.z,.z]] [(Qy.V q),(Pt.V p),.i twin]=(cond (EL q) (cond (decide (Qy.ft q=ic 0)) (some ((.agg [.i twin,.i (Pt.p1 p),.i (Pt.p2 p),.i (Pt.p3 p)]),[])) (cond (decide (Qy.ft q=ic 1)) (some ((.agg [.i (Pt.p0 p),.i twin,.i (Pt.p2 p),.i (Pt.p3 p)]),[])) (cond (decide (Qy.ft q=ic 2)) (some ((.agg [.i (Pt.p0 p),.i (Pt.p1 p),.i twin,.i (Pt.p3 p)]),[])) (cond (decide (Qy.ft q=ic 3)) (some ((.agg [.i (Pt.p0 p),.i (Pt.p1 p),.i (Pt.p2 p),.i twin]),[])) none)))) (some ((Pt.V p),[]))):=by kernel_rfl
def H4 (N:Nat):Env:=DB [(58,TN),(29,MN),(60,TV),(59,T2)] [(9,⟨[4,5,6,8,9,36,37],[4,5,6],[]⟩)] 75 N
abbrev NB (m:Md) (a1:Qy) (a2:Pt) (b8:Bool) (x9 x36 x37:Int):St:=⟨[(4,(.ptr 4 0 0)),(5,(.ptr 5 0 0)),(6,(.ptr 6 0 0)),(8,(.bool b8)),(9,(.i x9)),(36,(.i x36)),(37,(.i x37))],[(4,(some (.box (Md.cs m)))),(5,(some (.box (Qy.cs a1)))),(6,(some (.box (Pt.cs a2))))]⟩
theorem Eu (N:Nat) (m:Md) (a1:Qy) (a2:Pt) (a3:Int):C6 (H4 N) JT [.tmp 8] [[.bool]] [(Md.V m),(Qy.V a1),(Pt.V a2),.i a3]=(cond (!EI m a1) (some ((.bool false),[])) (cond (Qy.k a1==1) (some ((.bool (!Sp.has {lo:=Qy.lo a1,hi:=Qy.hi a1} (CW m (Qy.c a1) a2))),[])) (cond (Qy.k a1==2) (C4 (H4 N) (CR JT [1,1,1,0,1,0,1,1,1,0,0,1,0,0]) ⟨[4,5,6,8,9,36,37],[4,5,6],[]⟩ N (NB m a1 a2 false (CW m (Qy.c a1) a2) (Md.c m) 0) (CY 1 (C0 (H4 N) (CR JT [1,1,1,0,1,0,1,1,1,0,1]) (CY 0 (C0 (H4 N) (CR JT [1,1,1,1]) (C1 (H4 N) none [.tmp 8] [[.bool]])))))) (cond (decide (Qy.ft a1=ic 0)) (cond (decide (Pt.p0 a2≥a3)) (some ((.bool false),[])) (cond (Qy.fl a1) (some ((.bool (decide (CW m (Qy.c a1) (F5 a1 a2 a3) > CW m (Qy.c a1) a2))),[])) (some ((.bool (decide (CW m (Qy.c a1) (F5 a1 a2 a3) < CW m (Qy.c a1) a2))),[])))) (cond (decide (Qy.ft a1=ic 1)) (cond (decide (Pt.p1 a2≥a3)) (some ((.bool false),[])) (cond (Qy.fl a1) (some ((.bool (decide (CW m (Qy.c a1) (F5 a1 a2 a3) > CW m (Qy.c a1) a2))),[])) (some ((.bool (decide (CW m (Qy.c a1) (F5 a1 a2 a3) < CW m (Qy.c a1) a2))),[])))) (cond (decide (Qy.ft a1=ic 2)) (cond (decide (Pt.p2 a2≥a3)) (some ((.bool false),[])) (cond (Qy.fl a1) (some ((.bool (decide (CW m (Qy.c a1) (F5 a1 a2 a3) > CW m (Qy.c a1) a2))),[])) (some ((.bool (decide (CW m (Qy.c a1) (F5 a1 a2 a3) < CW m (Qy.c a1) a2))),[])))) (cond (decide (Qy.ft a1=ic 3)) (cond (decide (Pt.p3 a2≥a3)) (some ((.bool false),[])) (cond (Qy.fl a1) (some ((.bool (decide (CW m (Qy.c a1) (F5 a1 a2 a3) > CW m (Qy.c a1) a2))),[])) (some ((.bool (decide (CW m (Qy.c a1) (F5 a1 a2 a3) < CW m (Qy.c a1) a2))),[])))) none))))))):=by kernel_rfl
theorem qE (N:Nat) (m:Md) (a1:Qy) (a2:Pt) (b8:Bool) (x9 x36 x37:Int) (again:St→CU) (k:Out→St→CU):D9 (H4 N) (CR JT [1,1,1,0,1,0,1,1,1,0,0,1,0,0]) (NB m a1 a2 b8 x9 x36 x37) (D4 again ⟨[4,5,6,8,9,36,37],[4,5,6],[]⟩ k)=(cond (decide (x37 < x36)) (cond (x37 != Qy.c a1) (cond (decide (CW m x37 a2≥x9)) (k .ret (NB m a1 a2 true x9 x36 x37)) (again (NB m a1 a2 b8 x9 x36 (AA AC (x37+1))))) (again (NB m a1 a2 b8 x9 x36 (AA AC (x37+1))))) (k (.exit 1) (NB m a1 a2 b8 x9 x36 x37))):=by kernel_rfl
theorem wS (N:Nat) (m:Md) (a1:Qy) (a2:Pt) (b8:Bool) (x9 x36 x37:Int):(CY 1 (C0 (H4 N) (CR JT [1,1,1,0,1,0,1,1,1,0,1]) (CY 0 (C0 (H4 N) (CR JT [1,1,1,1]) (C1 (H4 N) none [.tmp 8] [[.bool]]))))) (.exit 1) (NB m a1 a2 b8 x9 x36 x37)=(some ((.bool false),[])):=by kernel_rfl
theorem wT (N:Nat) (m:Md) (a1:Qy) (a2:Pt) (b8:Bool) (x9 x36 x37:Int):(CY 1 (C0 (H4 N) (CR JT [1,1,1,0,1,0,1,1,1,0,1]) (CY 0 (C0 (H4 N) (CR JT [1,1,1,1]) (C1 (H4 N) none [.tmp 8] [[.bool]]))))) .ret (NB m a1 a2 b8 x9 x36 x37)=(some ((.bool b8),[])):=by kernel_rfl
def tH (N:Nat):Env:=DB [(71,ME),(75,O7)] [(2,⟨[1,4,7,8],[],[]⟩)] 35 N
open Go Go.Proofs
def LG (N:Nat):Env:=DB [(35,OV),(52,KR),(84,KU),(74,O9)] [(7,⟨[4,5,6,24,25,26],[20,500],[⟨.tmp 6,500,131,true,[.z,.z,.z,.z,.z,.z,.z,.z,.z,.z,.z]⟩]⟩)] 79 N
abbrev OK (n5 n6:Nat) (l24:LI) (x25 x26:Int) (lo20 u00:LI):St:=⟨[(4,.zs),(5,(.row 20 0 n5)),(6,(.row 500 0 n6)),(24,(.list false [.int .u64] l24)),(25,(.i x25)),(26,(.i x26))],[(20,(some (.row true 31 true D1 lo20))),(500,(some (.row true 131 true FT u00)))]⟩
theorem Eh (N:Nat) (l:LI) (a1:Bx):C6 (LG N) NP [.tmp 4] [[.list true [.z,.z,.z,.z,.z,.z,.z,.z,.z,.z,.z]]] [.list false [.int .u64] l,(Bx.V a1)]=(cond (!F7 l 4) (some ((.list true FT []),[])) (cond (Bx.emp a1) (some ((.list true FT []),[])) (cond (true&&(true&&decide (0≤ic (AF l)))&&(decide (ic (AF l)=ic (AF l))&&decide (ic (AF l)*ic 80≤ic DJ))) (cond (decide (0≤0)&&decide (0 < ic (AD (ic (AF l)) - 0))) (C4 (LG N) (CR NP [1,1,1,1,1,0,1,0,0]) ⟨[4,5,6,24,25,26],[20,500],[⟨(.tmp 6),500,131,true,FT⟩]⟩ N (OK (AD (ic (AF l))) 0 l (ic (AF l)) 0 (vaH (vad (AD (ic (AF l))) (IV.agg [IV.int 0,IV.int 0,IV.int 0,IV.int 0,IV.int 0,IV.int 0,IV.int 0,IV.int 0,IV.int 0,IV.int 0])) 0 (Bx.I a1)) []) (CY 0 (C0 (LG N) (CR NP [1,1,1,1,1,1]) (C1 (LG N) none [.tmp 4] [[.list true FT]])))) none) none))):=by kernel_rfl
theorem p9 (N n5 n6:Nat) (l24:LI) (x25 x26:Int) (lo20 u00:LI) (again:St→CU) (k:Out→St→CU):D9 (LG N) (CR NP [1,1,1,1,1,0,1,0,0]) (OK n5 n6 l24 x25 x26 lo20 u00) (D4 again ⟨[4,5,6,24,25,26],[20,500],[⟨(.tmp 6),500,131,true,FT⟩]⟩ k)=(cond (decide (x26 < x25)) (cond (decide (0≤x26)&&decide (x26 < ic (AF l24))) (cond (!Nd.lf (CQ (IV.toInt (AG l24 (AD x26) default)))) (cond (decide (0≤x26)&&decide (x26 < ic (n5 - 0))) (cond (E3 (Nd.f (CQ (IV.toInt (AG l24 (AD x26) default))))) (cond (decide (0≤Nd.l (CQ (IV.toInt (AG l24 (AD x26) default))))&&decide (Nd.l (CQ (IV.toInt (AG l24 (AD x26) default))) < ic (n5 - 0))) (cond (decide (0≤Nd.r (CQ (IV.toInt (AG l24 (AD x26) default))))&&decide (Nd.r (CQ (IV.toInt (AG l24 (AD x26) default))) < ic (n5 - 0))) (again (OK n5 n6 l24 x25 (AA AC (x26+1)) (vaH (vaH lo20 (0+AD (Nd.l (CQ (IV.toInt (AG l24 (AD x26) default))))) (Bx.I (Bx.cutL (C8 (AG lo20 (0+AD x26) default)) (Nd.f (CQ (IV.toInt (AG l24 (AD x26) default)))) (Nd.a (CQ (IV.toInt (AG l24 (AD x26) default))))))) (0+AD (Nd.r (CQ (IV.toInt (AG l24 (AD x26) default))))) (Bx.I (Bx.cutH (C8 (AG lo20 (0+AD x26) default)) (Nd.f (CQ (IV.toInt (AG l24 (AD x26) default)))) (Nd.a (CQ (IV.toInt (AG l24 (AD x26) default))))))) u00)) none) none) none) none) (cond (decide (0≤x26)&&decide (x26 < ic (n5 - 0))) (cond (!Bx.emp (C8 (AG lo20 (0+AD x26) default))) (cond (decide (0≤x26)&&decide (x26 < ic (n5 - 0))) (cond (decide ((n6+1)*88≤DJ)) (again (OK n5 (n6+1) l24 x25 (AA AC (x26+1)) lo20 (AU n6 u00++[(RQ (C8 (AG lo20 (0+AD x26) default)) (Nd.v (CQ (IV.toInt (AG l24 (AD x26) default)))))]))) none) none) (again (OK n5 n6 l24 x25 (AA AC (x26+1)) lo20 u00))) none)) none) (k (.exit 0) (OK n5 n6 l24 x25 x26 lo20 u00))):=by kernel_rfl
theorem wM (N n5 n6:Nat) (l24:LI) (x25 x26:Int) (lo20 u00:LI):(CY 0 (C0 (LG N) (CR NP [1,1,1,1,1,1]) (C1 (LG N) none [.tmp 4] [[.list true FT]]))) (.exit 0) (OK n5 n6 l24 x25 x26 lo20 u00)=(some ((.list true FT (B5 0 (AU n6 u00))),[])):=by kernel_rfl
def LE (N:Nat):Env:=DB [(91,TM)] [(6,⟨[4,5,6,8,9,26,27,28],[],[]⟩)] 43 N
abbrev SF (x4 x5:Int) (b6:Bool) (x8 x9:Int) (l26:LI) (x27 x28:Int):St:=⟨[(4,(.i x4)),(5,(.i x5)),(6,(.bool b6)),(8,(.i x8)),(9,(.i x9)),(26,(.list true FT l26)),(27,(.i x27)),(28,(.i x28))],[]⟩
theorem Cn (N:Nat) (l:LI) (b:Bx):C6 (LE N) NK [.tmp 4,.tmp 5,.tmp 6] [[.z],[.z],[.bool]] [.list false [.int .u64] l,(Bx.V b)]=(cond (ic (AF (EV l b))==0) (some ((.tup [.i 0,.i 0,.bool false]),[])) (cond (decide (0≤0)&&decide (0 < ic (AF (EV l b)))) (cond (decide (0≤0)&&decide (0 < ic (AF (EV l b)))) (C4 (LE N) (CR NK [1,1,1,1,0,1,0,0]) ⟨[4,5,6,8,9,26,27,28],[],[]⟩ N (SF 0 0 false (IV.toInt (IV.cell (AG (EV l b) (AD 0) default) 10)) (IV.toInt (IV.cell (AG (EV l b) (AD 0) default) 10)) (EV l b) (ic (AF (EV l b))) 0) (CY 0 (C0 (LE N) (CR NK [1,1,1,1,1]) (C1 (LE N) none [.tmp 4,.tmp 5,.tmp 6] [[.z],[.z],[.bool]])))) none) none)):=by kernel_rfl
theorem pO (N:Nat) (x4 x5:Int) (b6:Bool) (x8 x9:Int) (l26:LI) (x27 x28:Int) (again:St→CU) (k:Out→St→CU):D9 (LE N) (CR NK [1,1,1,1,0,1,0,0]) (SF x4 x5 b6 x8 x9 l26 x27 x28) (D4 again ⟨[4,5,6,8,9,26,27,28],[],[]⟩ k)=(cond (decide (x28 < x27)) (cond (decide (0≤x28)&&decide (x28 < ic (AF l26))) (again (SF x4 x5 b6 (min x8 (IV.toInt (IV.cell (AG l26 (AD x28) default) 10))) (max x9 (IV.toInt (IV.cell (AG l26 (AD x28) default) 10))) l26 x27 (AA AC (x28+1)))) none) (k (.exit 0) (SF x4 x5 b6 x8 x9 l26 x27 x28))):=by kernel_rfl
theorem vW (N:Nat) (x4 x5:Int) (b6:Bool) (x8 x9:Int) (l26:LI) (x27 x28:Int):(CY 0 (C0 (LE N) (CR NK [1,1,1,1,1]) (C1 (LE N) none [.tmp 4,.tmp 5,.tmp 6] [[.z],[.z],[.bool]]))) (.exit 0) (SF x4 x5 b6 x8 x9 l26 x27 x28)=(some ((.tup [.i x8,.i x9,.bool true]),[])):=by kernel_rfl
def ET (N:Nat):Env:=DB [(76,SN),(52,KR),(49,KT)] [(5,⟨[1,5,6,7,8,9,10,42,43,44],[5],[]⟩)] 69 N
abbrev I4 (a2:Bx) (x1 x6 x7:Int) (b8:Bool) (x9 x10:Int) (l42:LI) (x43 x44:Int):St:=⟨[(1,(.i x1)),(5,(.ptr 5 0 0)),(6,(.i x6)),(7,(.i x7)),(8,(.bool b8)),(9,(.i x9)),(10,(.i x10)),(42,(.list true EU l42)),(43,(.i x43)),(44,(.i x44))],[(5,(some (.box (Bx.cs a2))))]⟩
theorem Cm (N:Nat) (m:Md) (a1:Int) (a2:Bx):C6 (ET N) F1 [.tmp 6,.tmp 7,.tmp 8] [[.z],[.z],[.bool]] [(Md.V m),.i a1,(Bx.V a2)]=(cond (!DX m) (some ((.tup [.i 0,.i 0,.bool false]),[])) (cond (decide (a1 < 0)) (some ((.tup [.i 0,.i 0,.bool false]),[])) (cond (decide (a1≥Md.c m)) (some ((.tup [.i 0,.i 0,.bool false]),[])) (cond (Bx.emp a2) (some ((.tup [.i 0,.i 0,.bool false]),[])) (cond (decide (a1=ic 0)) (cond (decide (a1=ic 0)) (C4 (ET N) (CR F1 [1,1,1,0,1,0,0]) ⟨[1,5,6,7,8,9,10,42,43,44],[5],[]⟩ N (I4 a2 a1 0 0 false (Md.b0 m) (Md.b0 m) (Md.ts m) (ic (AF (Md.ts m))) 0) (CY 0 (C0 (ET N) (CR F1 [1,1,1,1]) (C1 (ET N) none [.tmp 6,.tmp 7,.tmp 8] [[.z],[.z],[.bool]])))) (cond (decide (a1=ic 1)) (C4 (ET N) (CR F1 [1,1,1,0,1,0,0]) ⟨[1,5,6,7,8,9,10,42,43,44],[5],[]⟩ N (I4 a2 a1 0 0 false (Md.b0 m) (Md.b1 m) (Md.ts m) (ic (AF (Md.ts m))) 0) (CY 0 (C0 (ET N) (CR F1 [1,1,1,1]) (C1 (ET N) none [.tmp 6,.tmp 7,.tmp 8] [[.z],[.z],[.bool]])))) (cond (decide (a1=ic 2)) (C4 (ET N) (CR F1 [1,1,1,0,1,0,0]) ⟨[1,5,6,7,8,9,10,42,43,44],[5],[]⟩ N (I4 a2 a1 0 0 false (Md.b0 m) (Md.b2 m) (Md.ts m) (ic (AF (Md.ts m))) 0) (CY 0 (C0 (ET N) (CR F1 [1,1,1,1]) (C1 (ET N) none [.tmp 6,.tmp 7,.tmp 8] [[.z],[.z],[.bool]])))) none))) (cond (decide (a1=ic 1)) (cond (decide (a1=ic 0)) (C4 (ET N) (CR F1 [1,1,1,0,1,0,0]) ⟨[1,5,6,7,8,9,10,42,43,44],[5],[]⟩ N (I4 a2 a1 0 0 false (Md.b1 m) (Md.b0 m) (Md.ts m) (ic (AF (Md.ts m))) 0) (CY 0 (C0 (ET N) (CR F1 [1,1,1,1]) (C1 (ET N) none [.tmp 6,.tmp 7,.tmp 8] [[.z],[.z],[.bool]])))) (cond (decide (a1=ic 1)) (C4 (ET N) (CR F1 [1,1,1,0,1,0,0]) ⟨[1,5,6,7,8,9,10,42,43,44],[5],[]⟩ N (I4 a2 a1 0 0 false (Md.b1 m) (Md.b1 m) (Md.ts m) (ic (AF (Md.ts m))) 0) (CY 0 (C0 (ET N) (CR F1 [1,1,1,1]) (C1 (ET N) none [.tmp 6,.tmp 7,.tmp 8] [[.z],[.z],[.bool]])))) (cond (decide (a1=ic 2)) (C4 (ET N) (CR F1 [1,1,1,0,1,0,0]) ⟨[1,5,6,7,8,9,10,42,43,44],[5],[]⟩ N (I4 a2 a1 0 0 false (Md.b1 m) (Md.b2 m) (Md.ts m) (ic (AF (Md.ts m))) 0) (CY 0 (C0 (ET N) (CR F1 [1,1,1,1]) (C1 (ET N) none [.tmp 6,.tmp 7,.tmp 8] [[.z],[.z],[.bool]])))) none))) (cond (decide (a1=ic 2)) (cond (decide (a1=ic 0)) (C4 (ET N) (CR F1 [1,1,1,0,1,0,0]) ⟨[1,5,6,7,8,9,10,42,43,44],[5],[]⟩ N (I4 a2 a1 0 0 false (Md.b2 m) (Md.b0 m) (Md.ts m) (ic (AF (Md.ts m))) 0) (CY 0 (C0 (ET N) (CR F1 [1,1,1,1]) (C1 (ET N) none [.tmp 6,.tmp 7,.tmp 8] [[.z],[.z],[.bool]])))) (cond (decide (a1=ic 1)) (C4 (ET N) (CR F1 [1,1,1,0,1,0,0]) ⟨[1,5,6,7,8,9,10,42,43,44],[5],[]⟩ N (I4 a2 a1 0 0 false (Md.b2 m) (Md.b1 m) (Md.ts m) (ic (AF (Md.ts m))) 0) (CY 0 (C0 (ET N) (CR F1 [1,1,1,1]) (C1 (ET N) none [.tmp 6,.tmp 7,.tmp 8] [[.z],[.z],[.bool]])))) (cond (decide (a1=ic 2)) (C4 (ET N) (CR F1 [1,1,1,0,1,0,0]) ⟨[1,5,6,7,8,9,10,42,43,44],[5],[]⟩ N (I4 a2 a1 0 0 false (Md.b2 m) (Md.b2 m) (Md.ts m) (ic (AF (Md.ts m))) 0) (CY 0 (C0 (ET N) (CR F1 [1,1,1,1]) (C1 (ET N) none [.tmp 6,.tmp 7,.tmp 8] [[.z],[.z],[.bool]])))) none))) none))))))):=by kernel_rfl
theorem pN (N:Nat) (a2:Bx) (x1 x6 x7:Int) (b8:Bool) (x9 x10:Int) (l42:LI) (x43 x44:Int) (again:St→CU) (k:Out→St→CU):D9 (ET N) (CR F1 [1,1,1,0,1,0,0]) (I4 a2 x1 x6 x7 b8 x9 x10 l42 x43 x44) (D4 again ⟨[1,5,6,7,8,9,10,42,43,44],[5],[]⟩ k)=(cond (decide (x44 < x43)) (cond (decide (0≤x44)&&decide (x44 < ic (AF l42))) (cond (IV.toInt (IV.cell (AG l42 (AD x44) default) 0) != x1) (again (I4 a2 x1 x6 x7 b8 x9 x10 l42 x43 (AA AC (x44+1)))) (again (I4 a2 x1 x6 x7 b8 (AA AC (x9+GS (IV.toList (IV.cell (AG l42 (AD x44) default) 1)) a2)) (AA AC (x10+GR (IV.toList (IV.cell (AG l42 (AD x44) default) 1)) a2)) l42 x43 (AA AC (x44+1))))) none) (k (.exit 0) (I4 a2 x1 x6 x7 b8 x9 x10 l42 x43 x44))):=by kernel_rfl
theorem vV (N:Nat) (a2:Bx) (x1 x6 x7:Int) (b8:Bool) (x9 x10:Int) (l42:LI) (x43 x44:Int):(CY 0 (C0 (ET N) (CR F1 [1,1,1,1]) (C1 (ET N) none [.tmp 6,.tmp 7,.tmp 8] [[.z],[.z],[.bool]]))) (.exit 0) (I4 a2 x1 x6 x7 b8 x9 x10 l42 x43 x44)=(some ((.tup [.i x9,.i x10,.bool true]),[])):=by kernel_rfl
def LD (N:Nat):Env:=DB [(53,MG)] [(6,⟨[1,3,5,6,7,8,11,12,33,34],[3,5],[]⟩)] 62 N
abbrev M9 (m:Md) (b:Bx) (x1 x6:Int) (b7:Bool) (x8 x11:Int) (b12:Bool) (x33 x34:Int):St:=⟨[(1,(.i x1)),(3,(.ptr 3 0 0)),(5,(.ptr 5 0 0)),(6,(.i x6)),(7,(.bool b7)),(8,(.i x8)),(11,(.i x11)),(12,(.bool b12)),(33,(.i x33)),(34,(.i x34))],[(3,(some (.box (Md.cs m)))),(5,(some (.box (Bx.cs b))))]⟩
theorem Cl (N:Nat) (m:Md) (u00:Int) (b:Bx):C6 (LD N) NJ [.tmp 6,.tmp 7] [[.z],[.bool]] [(Md.V m),.i u00,(Bx.V b)]=(cond (!E9 m u00 b) (some ((.tup [.i 0,.bool false]),[])) (cond (decide (Md.c m < 2)) (some ((.tup [.i 0,.bool false]),[])) (C4 (LD N) (CR NJ [1,1,1,1,0,1,0,0]) ⟨[1,3,5,6,7,8,11,12,33,34],[3,5],[]⟩ N (M9 m b u00 0 false (EX m u00 b) 0 false (Md.c m) 0) (CY 0 (C0 (LD N) (CR NJ [1,1,1,1,1]) (C1 (LD N) none [.tmp 6,.tmp 7] [[.z],[.bool]])))))):=by kernel_rfl
theorem pM (N:Nat) (m:Md) (b:Bx) (x1 x6:Int) (b7:Bool) (x8 x11:Int) (b12:Bool) (x33 x34:Int) (again:St→CU) (k:Out→St→CU):D9 (LD N) (CR NJ [1,1,1,1,0,1,0,0]) (M9 m b x1 x6 b7 x8 x11 b12 x33 x34) (D4 again ⟨[1,3,5,6,7,8,11,12,33,34],[3,5],[]⟩ k)=(cond (decide (x34 < x33)) (cond (x34==x1) (again (M9 m b x1 x6 b7 x8 x11 b12 x33 (AA AC (x34+1)))) (cond (!b12) (again (M9 m b x1 x6 b7 x8 (AA AC (x8 - D6 m x34 b)) true x33 (AA AC (x34+1)))) (cond (decide (AA AC (x8 - D6 m x34 b) < x11)) (again (M9 m b x1 x6 b7 x8 (AA AC (x8 - D6 m x34 b)) true x33 (AA AC (x34+1)))) (again (M9 m b x1 x6 b7 x8 x11 b12 x33 (AA AC (x34+1))))))) (k (.exit 0) (M9 m b x1 x6 b7 x8 x11 b12 x33 x34))):=by kernel_rfl
theorem vU (N:Nat) (m:Md) (b:Bx) (x1 x6:Int) (b7:Bool) (x8 x11:Int) (b12:Bool) (x33 x34:Int):(CY 0 (C0 (LD N) (CR NJ [1,1,1,1,1]) (C1 (LD N) none [.tmp 6,.tmp 7] [[.z],[.bool]]))) (.exit 0) (M9 m b x1 x6 b7 x8 x11 b12 x33 x34)=(some ((.tup [.i x11,.bool true]),[])):=by kernel_rfl
def sW (N:Nat):Env:=DB [] [] 16 N
theorem Ec (N:Nat) (q:Qy):C6 (sW N) iA [.tmp 2] [[.bool]] [(Qy.V q)]=(cond (Qy.k q==3) (cond (decide (Qy.ft q≥0)) (some ((.bool (decide (Qy.ft q < 4))),[])) (some ((.bool false),[]))) (some ((.bool false),[]))):=by kernel_rfl
def sT (N:Nat):Env:=DB [(77,KS)] [] 10 N
theorem Dz (N:Nat) (q:Qy) (b:Bx):C6 (sT N) g9 [.cell 4 31] [[.z,.z,.z,.z,.z,.z,.z,.z,.z,.z]] [(Qy.V q),(Bx.V b)]=(cond (EL q) (some ((.agg [.i (Sp.lo (Bx.s0 b)),.i (Sp.hi (Bx.s0 b)),.i (Sp.lo (Bx.s1 b)),.i (Sp.hi (Bx.s1 b)),.i (Sp.lo (Bx.s2 b)),.i (Sp.hi (Bx.s2 b)),.i (Sp.lo (Bx.s3 b)),.i (Sp.hi (Bx.s3 b)),.i 0,.i 0]),[])) (some ((Bx.V b),[]))):=by kernel_rfl
def sV (N:Nat):Env:=DB [(77,KS)] [] 15 N
theorem Eb (N:Nat) (q:Qy) (b:Bx):C6 (sV N) hZ [.cell 4 31] [[.z,.z,.z,.z,.z,.z,.z,.z,.z,.z]] [(Qy.V q),(Bx.V b)]=(cond (EL q) (cond (decide (Qy.ft q=ic 0)) (some ((.agg [.i (Sp.lo (Bx.s4 b)),.i (Sp.hi (Bx.s4 b)),.i (Sp.lo (Bx.s1 b)),.i (Sp.hi (Bx.s1 b)),.i (Sp.lo (Bx.s2 b)),.i (Sp.hi (Bx.s2 b)),.i (Sp.lo (Bx.s3 b)),.i (Sp.hi (Bx.s3 b)),.i 0,.i 0]),[])) (cond (decide (Qy.ft q=ic 1)) (some ((.agg [.i (Sp.lo (Bx.s0 b)),.i (Sp.hi (Bx.s0 b)),.i (Sp.lo (Bx.s4 b)),.i (Sp.hi (Bx.s4 b)),.i (Sp.lo (Bx.s2 b)),.i (Sp.hi (Bx.s2 b)),.i (Sp.lo (Bx.s3 b)),.i (Sp.hi (Bx.s3 b)),.i 0,.i 0]),[])) (cond (decide (Qy.ft q=ic 2)) (some ((.agg [.i (Sp.lo (Bx.s0 b)),.i (Sp.hi (Bx.s0 b)),.i (Sp.lo (Bx.s1 b)),.i (Sp.hi (Bx.s1 b)),.i (Sp.lo (Bx.s4 b)),.i (Sp.hi (Bx.s4 b)),.i (Sp.lo (Bx.s3 b)),.i (Sp.hi (Bx.s3 b)),.i 0,.i 0]),[])) (cond (decide (Qy.ft q=ic 3)) (some ((.agg [.i (Sp.lo (Bx.s0 b)),.i (Sp.hi (Bx.s0 b)),.i (Sp.lo (Bx.s1 b)),.i (Sp.hi (Bx.s1 b)),.i (Sp.lo (Bx.s2 b)),.i (Sp.hi (Bx.s2 b)),.i (Sp.lo (Bx.s4 b)),.i (Sp.hi (Bx.s4 b)),.i 0,.i 0]),[])) (cond (decide (Qy.ft q=ic 4)) (some ((.agg [.i (Sp.lo (Bx.s0 b)),.i (Sp.hi (Bx.s0 b)),.i (Sp.lo (Bx.s1 b)),.i (Sp.hi (Bx.s1 b)),.i (Sp.lo (Bx.s2 b)),.i (Sp.hi (Bx.s2 b)),.i (Sp.lo (Bx.s3 b)),.i (Sp.hi (Bx.s3 b)),.i 0,.i 0]),[])) none))))) (some ((Bx.V b),[]))):=by kernel_rfl
def sU (N:Nat):Env:=DB [(52,KR),(77,KS)] [] 23 N
theorem Ea (N:Nat) (q:Qy) (b:Bx):C6 (sU N) hU [.tmp 4] [[.bool]] [(Qy.V q),(Bx.V b)]=(cond (EL q) (cond (!Bx.emp b) (cond (decide (Qy.ft q=ic 0)) (some ((.bool (decide (Sp.lo (Bx.s0 b) < Sp.hi (Bx.s4 b)))),[])) (cond (decide (Qy.ft q=ic 1)) (some ((.bool (decide (Sp.lo (Bx.s1 b) < Sp.hi (Bx.s4 b)))),[])) (cond (decide (Qy.ft q=ic 2)) (some ((.bool (decide (Sp.lo (Bx.s2 b) < Sp.hi (Bx.s4 b)))),[])) (cond (decide (Qy.ft q=ic 3)) (some ((.bool (decide (Sp.lo (Bx.s3 b) < Sp.hi (Bx.s4 b)))),[])) (cond (decide (Qy.ft q=ic 4)) (some ((.bool (decide (Sp.lo (Bx.s4 b) < Sp.hi (Bx.s4 b)))),[])) none))))) (some ((.bool false),[]))) (some ((.bool false),[]))):=by kernel_rfl
def sS (N:Nat):Env:=DB [(53,MG),(78,TC),(79,TF),(77,KS)] [] 54 N
theorem Dy (N:Nat) (m:Md) (q:Qy) (b:Bx):C6 (sS N) g8 [.tmp 6,.tmp 7,.tmp 8] [[.z],[.z],[.bool]] [(Md.V m),(Qy.V q),(Bx.V b)]=(cond (!EL q) (some ((.tup [.i 0,.i 0,.bool false]),[])) (cond (!E9 m (Qy.c q) (I9 q b)) (some ((.tup [.i 0,.i 0,.bool false]),[])) (cond (!E9 m (Qy.c q) (JI q b)) (some ((.tup [.i 0,.i 0,.bool false]),[])) (some ((.tup [.i (AA AC (EX m (Qy.c q) (JI q b) - D6 m (Qy.c q) (I9 q b))),.i (AA AC (D6 m (Qy.c q) (JI q b) - EX m (Qy.c q) (I9 q b))),.bool true]),[]))))):=by kernel_rfl
def sX (N:Nat):Env:=DB [(54,SM),(53,MG),(52,KR),(56,TB),(55,TE),(29,MN)] [] 86 N
theorem Ed (N:Nat) (m:Md) (a1:Qy) (a2:Bx):C6 (sX N) iB [.tmp 6] [[.bool]] [(Md.V m),(Qy.V a1),(Bx.V a2)]=(cond (!EI m a1) (some ((.bool false),[])) (cond (Bx.emp a2) (some ((.bool true),[])) (cond (Qy.k a1==1) (cond (E9 m (Qy.c a1) a2) (cond (decide (Qy.lo a1≤EX m (Qy.c a1) a2)) (some ((.bool (decide (D6 m (Qy.c a1) a2≤Qy.hi a1))),[])) (some ((.bool false),[]))) (some ((.bool false),[]))) (cond (Qy.k a1==2) (cond (NX m (Qy.c a1) a2) (some ((.bool (decide (U9 m (Qy.c a1) a2 > 0))),[])) (some ((.bool false),[]))) (cond (!RN a1 a2) (some ((.bool true),[])) (cond (Qy.fl a1) (cond (KW m a1 a2) (some ((.bool (decide (UK m a1 a2≤0))),[])) (some ((.bool false),[]))) (cond (KW m a1 a2) (some ((.bool (decide (UL m a1 a2≥0))),[])) (some ((.bool false),[]))))))))):=by kernel_rfl
def sY (N:Nat):Env:=DB [(57,SO)] [] 9 N
theorem Ee (N:Nat) (b:Bx):C6 (sY N) iC [.cell 2 43,.tmp 3] [[.z,.z,.z,.z],[.z]] [(Bx.V b)]=(some ((.tup [(Pt.V (Bx.low b)),.i (Sp.hi (Bx.s4 b))]),[])):=by kernel_rfl
def J9 (N:Nat):Env:=DB [(37,TK)] [(2,⟨[3,4,5,6,7,8,11],[3,4,5],[]⟩)] 31 N
abbrev OJ (m:Md) (q:Qy) (b:Bx) (x6 x7:Int) (b8:Bool) (x11:Int):St:=⟨[(3,(.ptr 3 0 0)),(4,(.ptr 4 0 0)),(5,(.ptr 5 0 0)),(6,(.i x6)),(7,(.i x7)),(8,(.bool b8)),(11,(.i x11))],[(3,(some (.box (Md.cs m)))),(4,(some (.box (Qy.cs q)))),(5,(some (.box (Bx.cs b))))]⟩
theorem Ef (N:Nat) (m:Md) (q:Qy) (b:Bx):C6 (J9 N) MQ [.tmp 6,.tmp 7,.tmp 8] [[.z],[.z],[.bool]] [(Md.V m),(Qy.V q),(Bx.V b)]=(C4 (J9 N) (CR MQ [1,0,1,0,0]) ⟨[3,4,5,6,7,8,11],[3,4,5],[]⟩ N (OJ m q b 0 0 false 0) (CY 0 (C0 (J9 N) (CR MQ [1,1]) (C1 (J9 N) none [.tmp 6,.tmp 7,.tmp 8] [[.z],[.z],[.bool]])))):=by kernel_rfl
theorem p8 (N:Nat) (m:Md) (q:Qy) (b:Bx) (x6 x7:Int) (b8:Bool) (x11:Int) (again:St→CU) (k:Out→St→CU):D9 (J9 N) (CR MQ [1,0,1,0,0]) (OJ m q b x6 x7 b8 x11) (D4 again ⟨[3,4,5,6,7,8,11],[3,4,5],[]⟩ k)=(cond (decide (x11 < 5)) (cond (DX m&&E3 x11) (cond (decide (ic (AF (iZ (EB m q b (AD x11)))) > 0)) (cond (decide (0≤AA AC (Int.tdiv (AA AC (ic (AF (iZ (EB m q b (AD x11)))) - 1)) 2))&&decide (AA AC (Int.tdiv (AA AC (ic (AF (iZ (EB m q b (AD x11)))) - 1)) 2) < ic (AF (iZ (EB m q b (AD x11)))))) (k .ret (OJ m q b x11 (IV.toInt (AG (iZ (EB m q b (AD x11))) (AD (AA AC (Int.tdiv (AA AC (ic (AF (iZ (EB m q b (AD x11)))) - 1)) 2))) default)) true x11)) none) (again (OJ m q b x6 x7 b8 (AA AC (x11+1))))) none) (k (.exit 0) (OJ m q b x6 x7 b8 x11))):=by kernel_rfl
theorem wK (N:Nat) (m:Md) (q:Qy) (b:Bx) (x6 x7:Int) (b8:Bool) (x11:Int):(CY 0 (C0 (J9 N) (CR MQ [1,1]) (C1 (J9 N) none [.tmp 6,.tmp 7,.tmp 8] [[.z],[.z],[.bool]]))) (.exit 0) (OJ m q b x6 x7 b8 x11)=(some ((.tup [.i 0,.i 0,.bool false]),[])):=by kernel_rfl
theorem wL (N:Nat) (m:Md) (q:Qy) (b:Bx) (x6 x7:Int) (b8:Bool) (x11:Int):(CY 0 (C0 (J9 N) (CR MQ [1,1]) (C1 (J9 N) none [.tmp 6,.tmp 7,.tmp 8] [[.z],[.z],[.bool]]))) .ret (OJ m q b x6 x7 b8 x11)=(some ((.tup [.i x6,.i x7,.bool b8]),[])):=by kernel_rfl
open Go Go.Proofs
set_option maxRecDepth 100000
theorem kO {i:Int} (h:E3 i=true):i=0∨i=1∨i=2∨i=3∨i=4:=by
 unfold E3 at h;simp only [AI,AO] at h;omega
theorem pF:C5 PR B0 82 O8:=by
 refine DC [] [] O8 [[.z,.z]] Tryz.func82 Ar trivial ?_;intro vs r hwf h;unfold O8 at h;split at h
 ·rw [R.get_ok] at h;exact ⟨0,(Fo 0).trans h⟩
 ·simp [R.get] at h
theorem Ly:C5 PR B0 81 T3:=by
 refine DC [(82,O8)] [] T3 [[.z,.z]] Tryz.func81 As ⟨pF,trivial⟩ ?_;intro vs r hwf h;unfold T3 at h;split at h
 ·rename_i lo hi;rw [R.get_ok] at h;refine ⟨0,?_⟩;rw [← h];refine (Fp 0 lo hi).trans ?_;unfold L1;cases decide (lo > hi) <;> rfl
 ·simp [R.get] at h
theorem pE:C5 PR B0 75 O7:=by
 refine DC [] [] O7 [[.bool]] Tryz.func75 Ap trivial ?_;intro vs r hwf h;unfold O7 at h;split at h
 ·rename_i s;replace h:=V0 h;obtain ⟨s,rfl,h⟩:=h;rw [R.get_ok] at h;exact ⟨0,(Fl 0 s).trans h⟩
 ·simp [R.get] at h
theorem Lx:C5 PR B0 59 T2:=by
 refine DC [] [] T2 [[.bool]] Tryz.func59 Aq trivial ?_;intro vs r hwf h;unfold T2 at h;split at h
 ·rename_i s n;replace h:=V0 h;obtain ⟨s,rfl,h⟩:=h;rw [R.get_ok] at h;refine ⟨0,?_⟩;rw [← h];refine (Fm 0 s n).trans ?_;unfold Sp.has;cases decide (s.lo≤n) <;> rfl
 ·simp [R.get] at h
theorem Lw:C5 PR B0 61 V8:=by
 refine DC [(82,O8),(81,T3)] [] V8 [[.z,.z],[.z,.z]] Tryz.func61 Ao ⟨pF,Ly,trivial⟩ ?_;intro vs r hwf h;unfold V8 at h;split at h
 ·rename_i s n;replace h:=V0 h;obtain ⟨s,rfl,h⟩:=h;rw [R.get_ok] at h;refine ⟨0,?_⟩;rw [← h];refine (Fk 0 s n).trans ?_;unfold Sp.cutH;cases decide (n≥s.hi) <;> rfl
 ·simp [R.get] at h
theorem Iu (b:Bx):C6 (r8 6) gI [.tmp 2] [[.bool]] [b.V] =
 cond b.s0.emp (some (.bool true,[])) (cond b.s1.emp (some (.bool true,[])) (cond b.s2.emp (some (.bool true,[])) (cond b.s3.emp (some (.bool true,[])) (cond b.s4.emp (some (.bool true,[])) (some (.bool false,[])))))):=by kernel_rfl
theorem YH:C5 PR B0 52 KR:=by
 refine DC [(75,O7)] [(2,⟨[2,5,6],[],[]⟩)] KR [[.bool]] Tryz.func52 yH ⟨pE,trivial⟩ ?_;intro vs r hwf h;unfold KR at h;split at h
 ·rename_i b;replace h:=FU h;obtain ⟨b,rfl,h⟩:=h;rw [R.get_ok] at h;refine ⟨6,?_⟩;rw [← h];refine (Iu b).trans ?_;unfold Bx.emp;cases b.s0.emp <;> cases b.s1.emp <;> cases b.s2.emp <;> cases b.s3.emp <;> cases b.s4.emp <;> rfl
 ·simp [R.get] at h
theorem Iv (b:Bx):C6 (r9 5) gJ [.cell 2 43] [[.z,.z,.z,.z]] [b.V]=some (b.low.V,[]):=by kernel_rfl
theorem Jr:C5 PR B0 57 SO:=by
 refine DC [] [(3,⟨[1,2,3,5],[1,2,3],[]⟩)] SO [[.z,.z,.z,.z]] Tryz.func57 yI trivial ?_;intro vs r hwf h;unfold SO at h;split at h
 ·rename_i b;replace h:=FU h;obtain ⟨b,rfl,h⟩:=h;rw [R.get_ok] at h;exact ⟨5,(Iv b).trans h⟩
 ·simp [R.get] at h
theorem oZ:C5 PR B0 35 OV:=by
 refine DC [(61,V8)] [] OV [[.z,.z,.z,.z,.z,.z,.z,.z,.z,.z],[.z,.z,.z,.z,.z,.z,.z,.z,.z,.z]] Tryz.func35 yG ⟨Lw,trivial⟩ ?_;intro vs r hwf h;unfold OV at h;split at h
 ·rename_i b i a;replace h:=FU h;obtain ⟨b,rfl,h⟩:=h;cases hg:(E3 i) with
  | false=>rw [hg] at h; simp [R.get] at h
  | true=>
  rw [hg,R.get_br,CP,R.get_ok] at h;refine ⟨0,?_⟩;rw [← h];rcases kO hg with rfl | rfl | rfl | rfl | rfl <;> kernel_rfl
 ·simp [R.get] at h
theorem o9:C5 PR B0 38 O2:=by
 refine DC [] [] O2 [[.bool]] Tryz.func38 Af trivial ?_;intro vs r hwf h;unfold O2 at h;split at h
 ·rename_i q;replace h:=FV h;obtain ⟨q,rfl,h⟩:=h;rw [R.get_ok] at h;refine ⟨0,?_⟩;rw [← h];refine (Ez 0 q).trans ?_;unfold EL;cases (q.k==3) <;> cases decide (q.ft≥0) <;> rfl
 ·simp [R.get] at h
theorem YI:C5 PR B0 77 KS:=by
 refine DC [] [] KS [[.bool]] Tryz.func77 zQ trivial ?_;intro vs r hwf h;unfold KS at h;split at h
 ·rename_i q;replace h:=FV h;obtain ⟨q,rfl,h⟩:=h;rw [R.get_ok] at h;refine ⟨0,?_⟩;rw [← h];refine (Ec 0 q).trans ?_;unfold EL;cases (q.k==3) <;> cases decide (q.ft≥0) <;> rfl
 ·simp [R.get] at h
theorem VJ {q:Qy} (h:EL q=true):q.ft=0∨q.ft=1∨q.ft=2∨q.ft=3:=by
 unfold EL at h;simp only [AI,AO] at h;omega
theorem Kt:C5 PR B0 78 TC:=by
 refine DC [(77,KS)] [] TC [[.z,.z,.z,.z,.z,.z,.z,.z,.z,.z]] Tryz.func78 zN ⟨YI,trivial⟩ ?_;intro vs r hwf h;unfold TC at h;split at h
 ·rename_i q b;replace h:=FV h;obtain ⟨q,rfl,h⟩:=h;replace h:=FU h;obtain ⟨b,rfl,h⟩:=h;rw [R.get_ok] at h;refine ⟨0,?_⟩;rw [← h];refine (Dz 0 q b).trans ?_;unfold I9;cases EL q <;> rfl
 ·simp [R.get] at h
theorem Kv:C5 PR B0 79 TF:=by
 refine DC [(77,KS)] [] TF [[.z,.z,.z,.z,.z,.z,.z,.z,.z,.z]] Tryz.func79 zP ⟨YI,trivial⟩ ?_;intro vs r hwf h;unfold TF at h;split at h
 ·rename_i q b;replace h:=FV h;obtain ⟨q,rfl,h⟩:=h;replace h:=FU h;obtain ⟨b,rfl,h⟩:=h;rw [R.get_ok] at h;refine ⟨0,?_⟩;rw [← h];refine (Eb 0 q b).trans ?_;unfold JI;cases hp:EL q with
  | false=>rfl
  | true=>rcases VJ hp with e | e | e | e <;> rw [e] <;> rfl
 ·simp [R.get] at h
theorem Ku:C5 PR B0 55 TE:=by
 refine DC [(52,KR),(77,KS)] [] TE [[.bool]] Tryz.func55 zO ⟨YH,YI,trivial⟩ ?_;intro vs r hwf h;unfold TE at h;split at h
 ·rename_i q b;replace h:=FV h;obtain ⟨q,rfl,h⟩:=h;replace h:=FU h;obtain ⟨b,rfl,h⟩:=h;rw [R.get_ok] at h;refine ⟨0,?_⟩;rw [← h];refine (Ea 0 q b).trans ?_;unfold RN;cases hp:EL q with
  | false=>rfl
  | true=>cases b.emp <;> rcases VJ hp with e | e | e | e <;> rw [e] <;> rfl
 ·simp [R.get] at h
theorem Lq:C5 PR B0 16 TW:=by
 refine DC [(38,O2)] [] TW [[.z,.z,.z,.z,.z,.z,.z,.z,.z,.z]] Tryz.func16 Ad ⟨o9,trivial⟩ ?_;intro vs r hwf h;unfold TW at h;split at h
 ·rename_i q;replace h:=FV h;obtain ⟨q,rfl,h⟩:=h;rw [R.get_ok] at h;refine ⟨0,?_⟩;rw [← h];refine (Ex 0 q).trans ?_;unfold II;cases hp:EL q with
  | false=>rfl
  | true=>rcases VJ hp with e | e | e | e <;> rw [e] <;> rfl
 ·simp [R.get] at h
theorem Lo:C5 PR B0 60 TV:=by
 refine DC [(38,O2)] [] TV [[.z,.z,.z,.z]] Tryz.func60 Ac ⟨o9,trivial⟩ ?_;intro vs r hwf h;unfold TV at h;split at h
 ·rename_i q p t;replace h:=FV h;obtain ⟨q,rfl,h⟩:=h;replace h:=L7 h;obtain ⟨p,rfl,h⟩:=h;rw [R.get_ok] at h;refine ⟨0,?_⟩;rw [← h];refine (Ew 0 q p t).trans ?_;unfold F5;cases hp:EL q with
  | false=>rfl
  | true=>rcases VJ hp with e | e | e | e <;> rw [e] <;> rfl
 ·simp [R.get] at h
def P7 (d i:Int) (s:Sp) (rest:CU):CU:=
 cond (decide (i≥d)) (cond (!((s.lo==0)&&((s.hi==0)&&true))) (some (.bool false,[])) (cond s.emp (some (.bool false,[])) (cond (!(DL s.lo)) (some (.bool false,[])) (cond (!(DL s.hi)) (some (.bool false,[])) rest))))
  (cond s.emp (some (.bool false,[])) (cond (!(DL s.lo)) (some (.bool false,[])) (cond (!(DL s.hi)) (some (.bool false,[])) rest)))
theorem VN (d i:Int) (s:Sp) (rest:CU):P7 d i s rest=cond (F6 d i s) rest (some (.bool false,[])):=by
 unfold P7 F6;rw [vaI];cases decide (i≥d) <;> cases ((s.lo==0)&&(s.hi==0)) <;> cases s.emp <;> cases DL s.lo <;> cases DL s.hi <;> rfl
theorem Ix (b:Bx) (d:Int):C6 (tH 6) iQ [.tmp 4] [[.bool]] [b.V,.int .i64 d]=P7 d 0 b.s0 (P7 d 1 b.s1 (P7 d 2 b.s2 (P7 d 3 b.s3 (P7 d 4 b.s4 (some (.bool true,[])))))):=by kernel_rfl
theorem Ls:C5 PR B0 50 TY:=by
 refine DC [(71,ME),(75,O7)] [(2,⟨[1,4,7,8],[],[]⟩)] TY [[.bool]] Tryz.func50 Ag ⟨dN,pE,trivial⟩ ?_;intro vs r hwf h;unfold TY at h;split at h
 ·rename_i b d;replace h:=FU h;obtain ⟨b,rfl,h⟩:=h;rw [R.get_ok] at h;refine ⟨6,?_⟩;rw [← h];refine (Ix b d).trans ?_;rw [VN,VN,VN,VN,VN];unfold P6;cases F6 d 0 b.s0 <;> cases F6 d 1 b.s1 <;> cases F6 d 2 b.s2 <;> cases F6 d 3 b.s3 <;> cases F6 d 4 b.s4 <;> rfl
 ·simp [R.get] at h
theorem Lr:C5 PR B0 51 TX:=by
 refine DC [] [] TX [[.bool]] Tryz.func51 Ae trivial ?_;intro vs r hwf h;unfold TX at h;split at h
 ·rename_i m q;replace h:=F8 h;obtain ⟨m,rfl,h⟩:=h;replace h:=FV h;obtain ⟨q,rfl,h⟩:=h;rw [R.get_ok] at h;refine ⟨0,?_⟩;rw [← h];refine (Ey 0 m q).trans ?_;unfold JC;cases (q.k==1) <;> cases (q.k==2) <;> cases (q.k==3) <;> cases decide (q.lo≤q.hi) <;> cases (q.ft==0) <;> cases decide (m.c≥2) <;> cases (q.lo==0) <;> cases (q.hi==0) <;> cases decide (q.ft≥0) <;> cases decide (q.ft < m.d) <;> rfl
 ·simp [R.get] at h
theorem dW:C5 PR B0 29 MN:=by
 refine DC [(49,KT),(51,TX),(50,TY)] [] MN [[.bool]] Tryz.func29 Ab ⟨YJ,Lr,Ls,trivial⟩ ?_;intro vs r hwf h;unfold MN at h;split at h
 ·rename_i m q;replace h:=F8 h;obtain ⟨m,rfl,h⟩:=h;replace h:=FV h;obtain ⟨q,rfl,h⟩:=h;rw [R.get_ok] at h;refine ⟨0,?_⟩;rw [← h];refine (Ev 0 m q).trans ?_;unfold EI Qy.bx;generalize P6 _ _=rg;cases DX m <;> cases decide (q.c≥0) <;> cases decide (q.c < m.c) <;> cases decide (q.bu≥0) <;> cases decide (q.bu≤65536) <;> cases rg <;> rfl
 ·simp [R.get] at h
theorem PZ {w:Int} (hb:ES w=true) (hl:(CQ w).lf=false):(0≤(CQ w).f∧(CQ w).f < 4)∧(1≤(CQ w).l∧(CQ w).l < 31)∧(1≤(CQ w).r∧(CQ w).r < 31)∧DL (CQ w).a=true:=by
 have h:=(bY hb).2;unfold GG at h;rw [hl,CS] at h;unfold KX at h;simp only [AI,AO] at h;exact ⟨⟨h.2.1,h.2.2.1⟩,h.2.2.2.2.1,h.2.2.2.2.2,h.2.2.2.1⟩
theorem mC (w:Int):DL (CQ w).v=true:=by
 cases hb:ES w with
 | false=>
  have e:CQ w=Nd.zero:=by unfold CQ; rw [hb]; rfl
  rw [e];rfl
 | true=>
  have h:=(bY hb).2;unfold GG at h;cases hl:(CQ w).lf with
  | true=>
   rw [hl,CP,AI] at h;exact h.2
  | false=>
   rw [hl,CS,AI,BR] at h;rw [h.1];rfl
abbrev eW (l:LI) (p:Pt) (a j:Int):St:=
 ⟨[(0,(.list false [(.int .u64)] l)),(3,(.ptr 3 0 0)),(4,(.int .i64 0)),(5,(.ptr 5 0 0)),(6,(.int .i64 a)),(9,(.int .i64 j))],[(3,(some (.box (Pt.cs p)))),(5,(some (.box [(.bool false),(.int .i64 0),(.int .i64 0),(.int .i64 0),(.int .i64 0),(.int .i64 0)])))]⟩
theorem Z6 (N:Nat) (l:LI) (p:Pt):∀ (m j n:Nat) (a:Int),0≤a→j+m=31→m < n →
  C4 (HI N) (CR JU [1,1,0,1,0,0]) ⟨[0,3,4,5,6,9],[3,5],[]⟩ n (eW l p a (j:Int)) (CY 0 (C0 (HI N) (CR JU [1,1,1]) (C1 (HI N) none [(BD 4),(vbd 5 89)] [[.z],[.bool,.z,.z,.z,.z,.z]]))) =
   some (.tup [.int .i64 (FR l p m a).1,(FR l p m a).2.V],[])
 | m,j,0,a,_,_,h=>absurd h (by omega)
 | 0,j,n+1,a,ha,hd,_=>by
  have hj:j=31:=by omega
  subst hj;rw [DD,qT,AM (show ¬ ((31:Nat):Int) < 31 by omega),CS];exact j8 N p l _ _ _ _ _ _ _ _ _
 | m+1,j,n+1,a,ha,hd,hn=>by
  have ej:AA AC ((j:Int)+1)=((j+1:Nat):Int):=FN (by omega);rw [DD,qT,AE (show (j:Int) < 31 by omega),CP,FR,ej];cases hge:decide (a≥ic l.length) with
  | true=>
   rw [CP,CP];exact j8 N p l _ _ _ _ _ _ _ _ _
  | false=>
   have hge:=A8 hge;rw [CS,CS,AE ha,AE (show a < ic l.length by omega),BE,CP];generalize (l.getD a.toNat default).toInt=w;cases hb:ES w with
   | false=>
    rw [BJ,CP,CP];exact xN N p l _ _ _ _ _ _ _ _ _
   | true=>
    rw [A5,CS,CS];cases hl:(CQ w).lf with
    | true=>
     rw [CP,CP];rfl
    | false=>
     obtain ⟨⟨f0,f4⟩,⟨l1,l31⟩,⟨r1,r31⟩,_⟩:=PZ hb hl;rw [CS,CS];have step:∀ c:Bool,(cond c (C4 (HI N) (CR JU [1,1,0,1,0,0]) ⟨[0,3,4,5,6,9],[3,5],[]⟩ n (eW l p (CQ w).l ((j+1:Nat):Int)) (CY 0 (C0 (HI N) (CR JU [1,1,1]) (C1 (HI N) none [(BD 4),(vbd 5 89)] [[.z],[.bool,.z,.z,.z,.z,.z]]))))
       (C4 (HI N) (CR JU [1,1,0,1,0,0]) ⟨[0,3,4,5,6,9],[3,5],[]⟩ n (eW l p (CQ w).r ((j+1:Nat):Int)) (CY 0 (C0 (HI N) (CR JU [1,1,1]) (C1 (HI N) none [(BD 4),(vbd 5 89)] [[.z],[.bool,.z,.z,.z,.z,.z]]))))) =
       some (.tup [.int .i64 (cond c (FR l p m (CQ w).l) (FR l p m (CQ w).r)).1,(cond c (FR l p m (CQ w).l) (FR l p m (CQ w).r)).2.V],[]):=fun c=>by
      cases c with
      | true=>exact Z6 N l p m (j+1) n (CQ w).l (by omega) (by omega) (by omega)
      | false=>exact Z6 N l p m (j+1) n (CQ w).r (by omega) (by omega) (by omega)
     obtain e | e | e | e:(CQ w).f=0∨(CQ w).f=1∨(CQ w).f=2∨(CQ w).f=3:=by omega
     all_goals
      rw [e];exact step _
theorem Ma:C5 PR B0 99 T5:=by
 refine DC [(84,KU)] [(3,⟨[0,3,4,5,6,9],[3,5],[]⟩)] T5 [[.z],[.bool,.z,.z,.z,.z,.z]] Tryz.func99 Aw ⟨YK,trivial⟩ ?_;intro vs r hwf h;unfold T5 at h;split at h
 ·rename_i l p;replace h:=L7 h;obtain ⟨p,rfl,h⟩:=h;rw [R.get_ok] at h;refine ⟨32,?_⟩;rw [← h];exact (Fv 32 l p).trans (Z6 32 l p 31 0 32 0 (by omega) rfl (by omega))
 ·simp [R.get] at h
theorem Lz:C5 PR B0 92 T4:=by
 refine DC [(99,T5)] [] T4 [[.z]] Tryz.func92 Av ⟨Ma,trivial⟩ ?_;intro vs r hwf h;unfold T4 at h;split at h
 ·rename_i l p;replace h:=L7 h;obtain ⟨p,rfl,h⟩:=h;rw [R.get_ok] at h;exact ⟨0,(Fu 0 l p).trans h⟩
 ·simp [R.get] at h
theorem IU {n:Int} (h:DL n=true) : -2147483648≤n∧n≤2147483647:=by
 unfold DL at h;simpa only [AI,AO] using h
theorem Z4 (l:LI) (p:Pt):∀ (n:Nat) (a:Int),DL (FR l p n a).2.v=true
 | 0,_=>rfl
 | n+1,a=>by
  rw [FR];cases decide (a≥ic l.length) with
  | true=>rfl
  | false=>
   rw [CS];generalize (l.getD a.toNat default).toInt=w;cases ES w with
   | false=>rfl
   | true=>
    rw [A5,CS];cases (CQ w).lf with
    | true=>exact mC w
    | false=>
     rw [CS];cases decide (p.g (CQ w).f.toNat≤(CQ w).a) with
     | true=>exact Z4 l p n _
     | false=>exact Z4 l p n _
theorem rL (l:LI) (p:Pt) : -2147483648≤HG l p∧HG l p≤2147483647:=IU (Z4 l p 31 0)
theorem G2 {m:Md} (h:DX m=true):(1≤m.d∧m.d≤4)∧(1≤m.c∧m.c≤3)∧m.ts.length≤8∧(DL m.b0=true∧DL m.b1=true∧DL m.b2=true)∧m.ts.all (GU m.d m.c)=true:=by
 unfold DX FZ at h;simp only [AI,CF,CO] at h;obtain ⟨⟨h1,h2,h3,h4,h5⟩,⟨h6,h7,h8⟩,h9⟩:=h;exact ⟨⟨by omega,by omega⟩,⟨by omega,by omega⟩,AK h5,⟨h6.1,h7.1,h8.1⟩,h9⟩
theorem vA {m:Md} {k:Int} (h:FA m k=true):0≤k∧k < m.c:=by
 unfold FA at h;simpa only [AI,AO] using h
theorem WK {m:Md} {k:Int} (hm:DX m=true) (h:FA m k=true):k=0∨k=1∨k=2:=by
 have:=vA h
 have:=(G2 hm).2.1
 omega
theorem UF {m:Md} (hm:DX m=true) (k:Int) : -2147483648≤H5 m k∧H5 m k≤2147483647:=by
 obtain ⟨h0,h1,h2⟩:=(G2 hm).2.2.2.1;unfold H5;cases (k==0) with
 | true=>exact IU h0
 | false=>
  cases (k==1) with
  | true=>exact IU h1
  | false=>exact IU h2
abbrev Oa (ts:LI) (p:Pt) (k s i:Int):St:=
 ⟨[(1,(.int .i64 k)),(5,(.ptr 5 0 0)),(6,(.int .i64 0)),(7,(.int .i64 s)),(15,(.list true [.z,(.list false [(.int .u64)])] ts)),(16,(.int .i64 (ic (AF ts)))),(17,(.int .i64 i))],[(5,(some (.box (Pt.cs p))))]⟩
theorem aC (N:Nat) (ts:LI) (p:Pt) (k:Int) (hts:ts.length≤8):∀ (m i n:Nat) (s:Int),i+m=ts.length→m < n → -2147483648*(i+1)≤s∧s≤2147483648*(i+1) →
  C4 (H3 N) (CR KE [1,1,0,1,0,0]) ⟨[1,5,6,7,15,16,17],[5],[]⟩ n (Oa ts p k s (i:Int)) (CY 0 (C0 (H3 N) (CR KE [1,1,1]) (C1 (H3 N) none [(BD 6)] [[.z]]))) =
   some (.int .i64 (NT k p (ts.drop i) s),[])
 | m,i,0,s,_,h,_=>absurd h (by omega)
 | 0,i,n+1,s,hd,_,_=>by
  have hi:i=ts.length:=by omega
  subst hi;rw [DD,qD,JB (AP _),CS,CE];exact wR N p _ _ _ _ _ _
 | m+1,i,n+1,s,hd,hn,hs=>by
  have hi:i < ts.length:=by omega
  have ei:AA AC ((i:Int)+1)=((i+1:Nat):Int):=FN (by omega);rw [DD,qD,ei,IB hi,CP,IA,BE,CP,IW hi,BC hi,NT];have hv:=rL (D2 ts[i]) p;cases hc:((ts[i].cell 0).toInt==k) with
  | true=>
   rw [CP,CP];have ew:AA AC (s+HG (D2 ts[i]) p)=s+HG (D2 ts[i]) p:=DV (by omega) (by omega);have ih:=aC N ts p k hts m (i+1) n (s+HG (D2 ts[i]) p) (by omega) (by omega) (by omega);rw [← ew] at ih;refine Eq.trans ih ?_;rw [ew]
  | false=>
   rw [CS,CS];exact aC N ts p k hts m (i+1) n s (by omega) (by omega) (by omega)
theorem Li:C5 PR B0 80 TP:=by
 refine DC [(92,T4)] [(3,⟨[1,5,6,7,15,16,17],[5],[]⟩)] TP [[.z]] Tryz.func80 z2 ⟨Lz,trivial⟩ ?_;intro vs r hwf h;unfold TP at h;split at h
 ·rename_i m k p;replace h:=F8 h;obtain ⟨m,rfl,h⟩:=h;replace h:=L7 h;obtain ⟨p,rfl,h⟩:=h;cases hg:(DX m&&FA m k) with
  | false=>rw [hg] at h; simp [R.get] at h
  | true=>
  rw [hg,R.get_br,CP,R.get_ok] at h;rw [AI] at hg;have hb:=UF hg.1 k;have run:=aC 10 m.ts p k (G2 hg.1).2.2.1 m.ts.length 0 10 (H5 m k) (by omega) (by have:=(G2 hg.1).2.2.1; omega) (by omega);refine ⟨10,?_⟩;rw [← h];refine (Em 10 m k p).trans ?_;rcases WK hg.1 hg.2 with rfl | rfl | rfl <;> exact run
 ·simp [R.get] at h
theorem Lg:C5 PR B0 58 TN:=by
 refine DC [(49,KT),(80,TP)] [] TN [[.z]] Tryz.func58 zX ⟨YJ,Li,trivial⟩ ?_;intro vs r hwf h;unfold TN at h;split at h
 ·rename_i m k p;replace h:=F8 h;obtain ⟨m,rfl,h⟩:=h;replace h:=L7 h;obtain ⟨p,rfl,h⟩:=h;rw [R.get_ok] at h;refine ⟨0,?_⟩;rw [← h];refine (Ei 0 m k p).trans ?_;unfold CW FA;cases DX m with
  | false=>rfl
  | true=>
   cases h0:decide (k < 0) with
   | true=>rw [AM (show ¬ 0≤k by have:=A4 h0; omega)]; rfl
   | false=>
    rw [AE (show 0≤k by have:=A8 h0; omega)];cases h1:decide (k≥m.c) with
    | true=>rw [AM (show ¬ k < m.c by have:=A4 h1; omega)]; rfl
    | false=>rw [AE (show k < m.c by have:=A8 h1; omega)]; rfl
 ·simp [R.get] at h
abbrev No (m:Md) (q:Qy) (p:Pt) (own i:Int):St:=
 ⟨[(4,(.ptr 4 0 0)),(5,(.ptr 5 0 0)),(6,(.ptr 6 0 0)),(8,(.bool false)),(9,(.int .i64 own)),(36,(.int .i64 (Md.c m))),(37,(.int .i64 i))],[(4,(some (.box (Md.cs m)))),(5,(some (.box (Qy.cs q)))),(6,(some (.box (Pt.cs p))))]⟩
def PA (m:Md) (q:Qy) (p:Pt) (own:Int):Nat→Nat→Bool
 | 0,_=>false
 | d+1,i=>(!((i:Int)==q.c)&&decide (CW m (i:Int) p≥own))||PA m q p own d (i+1)
theorem ZA (m:Md) (q:Qy) (p:Pt) (own:Int):∀ d i,PA m q p own d i=(va1 i d).any fun c=>!((c:Int)==q.c)&&decide (CW m (c:Int) p≥own)
 | 0,_=>rfl
 | d+1,i=>by rw [PA,ZA m q p own d (i+1),List.range'_succ,List.any_cons]
theorem fZ (N:Nat) (m:Md) (q:Qy) (p:Pt) (own:Int) (hc:0≤m.c∧m.c≤3):∀ (d i n:Nat),((i+d:Nat):Int)=m.c→d < n →
  C4 (H4 N) (CR JT [1,1,1,0,1,0,1,1,1,0,0,1,0,0]) ⟨[4,5,6,8,9,36,37],[4,5,6],[]⟩ n (No m q p own (i:Int)) (CY 1 (C0 (H4 N) (CR JT [1,1,1,0,1,0,1,1,1,0,1]) (CY 0 (C0 (H4 N) (CR JT [1,1,1,1]) (C1 (H4 N) none [(BD 8)] [[.bool]]))))) =
   some (.bool (PA m q p own d i),[])
 | d,i,0,_,h=>absurd h (by omega)
 | 0,i,n+1,hd,_=>by
  rw [DD,qE,AM (show ¬ (i:Int) < m.c by omega),CS];exact wS N m q p _ _ _ _
 | d+1,i,n+1,hd,hn=>by
  have ei:AA AC ((i:Int)+1)=((i+1:Nat):Int):=FN (by omega);rw [DD,qE,ei,AE (show (i:Int) < m.c by omega),CP,PA];have ih:=fZ N m q p own hc d (i+1) n (by omega) (by omega);have en:((i:Int) != q.c)=!((i:Int)==q.c):=rfl;rw [en];cases ((i:Int)==q.c) with
  | true=>exact ih
  | false=>
   rw [BJ,CP,BH];cases decide (CW m (i:Int) p≥own) with
   | true=>exact wT N m q p _ _ _ _
   | false=>exact ih
theorem KL {m:Md} {q:Qy} (h:EI m q=true):DX m=true∧(0≤q.c∧q.c < m.c)∧(0≤q.bu∧q.bu≤65536)∧P6 q.bx m.d=true∧JC m q=true:=by
 unfold EI at h;simp only [AI,AO] at h;exact ⟨h.1,⟨h.2.1,h.2.2.1⟩,⟨h.2.2.2.1,h.2.2.2.2.1⟩,h.2.2.2.2.2.1,h.2.2.2.2.2.2⟩
theorem aZ {m:Md} {q:Qy} (h:JC m q=true):(q.k=1∧q.lo≤q.hi∧q.ft=0∧q.fl=false)∨(q.k=2∧2≤m.c∧q.lo=0∧q.hi=0∧q.ft=0∧q.fl=false)∨(q.k=3∧(0≤q.ft∧q.ft < m.d)∧q.lo=0∧q.hi=0):=by
 unfold JC at h;cases h1:(q.k==1) with
 | true=>
  rw [h1,CP] at h;simp only [AI,AO,BR,CF] at h;exact .inl ⟨BR.1 h1,h⟩
 | false=>
  rw [h1,CS] at h;cases h2:(q.k==2) with
  | true=>
   rw [h2,CP] at h;simp only [AI,AO,BR,CF,ge_iff_le] at h;exact .inr (.inl ⟨BR.1 h2,h⟩)
  | false=>
   rw [h2,CS] at h;cases h3:(q.k==3) with
   | true=>
    rw [h3,CP] at h;simp only [AI,AO,BR,ge_iff_le] at h;exact .inr (.inr ⟨BR.1 h3,⟨h.1,h.2.1⟩,h.2.2⟩)
   | false=>rw [h3,CS] at h; cases h
theorem Ln:C5 PR B0 33 TU:=by
 refine DC [(58,TN),(29,MN),(60,TV),(59,T2)] [(9,⟨[4,5,6,8,9,36,37],[4,5,6],[]⟩)] TU [[.bool]] Tryz.func33 Aa ⟨Lg,dW,Lo,Lx,trivial⟩ ?_;intro vs r hwf h;unfold TU at h;split at h
 ·rename_i m q p t;replace h:=F8 h;obtain ⟨m,rfl,h⟩:=h;replace h:=FV h;obtain ⟨q,rfl,h⟩:=h;replace h:=L7 h;obtain ⟨p,rfl,h⟩:=h;rw [R.get_ok] at h;refine ⟨10,?_⟩;rw [← h];refine (Eu 10 m q p t).trans ?_;unfold F9;cases hr:EI m q with
  | false=>rfl
  | true=>
   obtain ⟨hm,_,_,_,hk⟩:=KL hr;have hmp:=G2 hm;rw [A5,CS,BH];cases h1:(q.k==1) with
   | true=>rfl
   | false=>
    rw [CS,CS];cases h2:(q.k==2) with
    | true=>
     rw [CP,CP];refine (fZ 10 m q p _ (by omega) m.c.toNat 0 10 (by omega) (by omega)).trans ?_;rw [ZA,← List.range_eq_range'];rfl
    | false=>
     rw [CS,CS];rcases aZ hk with ⟨e,_⟩ | ⟨e,_⟩ | ⟨_,⟨f0,fd⟩,_⟩
     ·rw [e] at h1; cases h1
     ·rw [e] at h2; cases h2
     ·have step:∀ x:Int,cond (decide (x≥t)) (some (V.bool false,[])) (cond q.fl (some (V.bool (decide (CW m q.c (F5 q p t) > CW m q.c p)),[])) (some (V.bool (decide (CW m q.c (F5 q p t) < CW m q.c p)),[]))) =
        some (V.bool (cond (decide (x≥t)) false (cond q.fl (decide (CW m q.c (F5 q p t) > CW m q.c p)) (decide (CW m q.c (F5 q p t) < CW m q.c p)))),([]:List (List V))):=fun x=>by
       cases decide (x≥t) with
       | true=>rfl
       | false=>cases q.fl <;> rfl
      obtain e | e | e | e:q.ft=0∨q.ft=1∨q.ft=2∨q.ft=3:=by omega
      all_goals
       rw [e];exact step _
 ·simp [R.get] at h
open Go
theorem RK {n:Nat} (h:n < 18446744073709551616):(AN 64 (n:Int)).toNat=n:=by
 rw [BitVec.toNat_ofInt]
 have:((n:Int) % ((2 ^ 64:Nat):Int)).toNat=n:=by
  rw [Int.emod_eq_of_lt (by omega) (by omega)];exact BL n
 exact this
theorem L6 {n:Nat} (h:n < 18446744073709551616):E2 (n:Int)=(n:Int):=by
 unfold E2;rw [OD];omega
theorem Y9 {x y:Nat} (hx:x < 18446744073709551616) (hy:y < 18446744073709551616):EG (x:Int) (y:Int)=((x &&& y:Nat):Int):=by
 unfold EG;rw [show AJ AH=64 from rfl,BitVec.toNat_and,RK hx,RK hy];exact L6 (Nat.lt_of_le_of_lt Nat.and_le_left hx)
theorem M3 {x y:Nat} (hx:x < 18446744073709551616) (hy:y < 18446744073709551616):P4 (x:Int) (y:Int)=((x ||| y:Nat):Int):=by
 unfold P4;rw [show AJ AH=64 from rfl,BitVec.toNat_or,RK hx,RK hy];exact L6 (Nat.or_lt_two_pow (n:=64) hx hy)
theorem t2 {x y a:Nat} (ha:a≤64) (hx:x < 2 ^ a) (hy:y*2 ^ a < 18446744073709551616):UC (x:Int) ((y*2 ^ a:Nat):Int)=(x:Int):=by
 have hx':x < 18446744073709551616:=B7 hx (va0 (by omega) ha);unfold UC;have e:(AN (AJ AH) (x:Int) &&& ~~~ (AN (AJ AH) ((y*2 ^ a:Nat):Int))).toNat=x:=by
  rw [show AJ AH=64 from rfl];apply Nat.eq_of_testBit_eq;intro i;rw [BitVec.toNat_and,Nat.testBit_and,RK hx'];by_cases hi:i < a
  ·have h1:(~~~ (AN 64 ((y*2 ^ a:Nat):Int))).toNat.testBit i=true:=by
    rw [← BitVec.getLsbD,BitVec.getLsbD_not];have h2:(AN 64 ((y*2 ^ a:Nat):Int)).getLsbD i=false:=by
     rw [BitVec.getLsbD,RK hy,Nat.mul_comm,Nat.testBit_two_pow_mul];simp [Nat.not_le.2 hi]
    rw [h2];simp;omega
   rw [h1,vaI]
  ·have h1:x.testBit i=false:=Nat.testBit_lt_two_pow (B7 hx (va0 (by omega) (by omega)));rw [h1,BY]
 rw [e];exact L6 hx'
theorem N8 {y a:Nat} (hy:y*2 ^ a < 18446744073709551616):JJ (y:Int) a=((y*2 ^ a:Nat):Int):=by
 unfold JJ;rw [show ((y:Int)*2 ^ a)=((y*2 ^ a:Nat):Int) by push_cast; rfl];exact L6 hy
theorem P5 {x y a:Nat} (hx:x < 2 ^ a):x ||| y*2 ^ a=x+y*2 ^ a:=by
 rw [Nat.or_comm,Nat.mul_comm,← Nat.two_pow_add_eq_or_of_lt hx,Nat.add_comm]
theorem cW {x y a w:Nat} (haw:a+w≤64) (hx:x < 2 ^ a) (hy:y < 2 ^ w) (hM:JY (w:Int)=((2 ^ w - 1:Nat):Int)):HB (x:Int) (a:Int) (w:Int) (y:Int)=((x+y*2 ^ a:Nat):Int):=by
 have hp:∀ z,z < 2 ^ w→z*2 ^ a < 18446744073709551616:=fun z hz=>by
  have h1:z*2 ^ a < 2 ^ w*2 ^ a:=Nat.mul_lt_mul_of_pos_right hz (Nat.two_pow_pos a);rw [← Nat.pow_add] at h1;exact B7 h1 (show 2 ^ (w+a)≤2 ^ 64 from va0 (by omega) (by omega))
 have hm:(2 ^ w - 1) < 2 ^ w:=Nat.sub_lt (Nat.two_pow_pos w) (by omega);have hx':x < 18446744073709551616:=B7 hx (show 2 ^ a≤2 ^ 64 from va0 (by omega) (by omega));unfold HB;rw [hM,BL,N8 (hp _ hm),N8 (hp _ hy),t2 (by omega) hx (hp _ hm),Y9 (hp _ hy) (hp _ hm)];have e:y*2 ^ a &&& (2 ^ w - 1)*2 ^ a=y*2 ^ a:=by
  rw [← Nat.shiftLeft_eq,← Nat.shiftLeft_eq,← Nat.shiftLeft_and_distrib,Nat.and_two_pow_sub_one_eq_mod,Nat.mod_eq_of_lt hy]
 rw [e,M3 hx' (hp _ hy),P5 hx]
theorem XL (a:Int):∃ n:Nat,n < 4294967296∧EG (E2 a) 4294967295=(n:Int):=by
 have h:∃ m:Nat,m < 18446744073709551616∧E2 a=(m:Int):=by
  refine ⟨(E2 a).toNat,?_,?_⟩ <;> unfold E2 <;> rw [OD] <;> omega
 obtain ⟨m,hm,e⟩:=h;refine ⟨m &&& 4294967295,?_,?_⟩
 ·exact Nat.lt_of_le_of_lt Nat.and_le_right (by decide)
 ·rw [e];exact Y9 (y:=4294967295) hm (by decide)
theorem XV (x:Nd):K6 x.lf x.v x.f x.a x.l x.r=GG x:=by
 obtain ⟨lf,v,f,a,l,r⟩:=x;unfold K6 GG Nd.eq KX;cases lf
 ·simp only [BB,Bool.and_assoc]
 ·simp only [BO,CH,BH,vaI];cases DL v <;> cases (f==0) <;> cases (a==0) <;> cases (l==0) <;> cases (r==0) <;> rfl
theorem cQ (x:Nd):G9 x.lf x.v x.f x.a x.l x.r=F3 x:=by
 unfold G9 F3;rw [XV];cases hr:GG x with
 | false=>rfl
 | true=>
  obtain ⟨lf,v,f,a,l,r⟩:=x;simp only [BO];cases lf with
  | true=>
   simp only [BO];unfold HB;obtain ⟨n,hn,e⟩:=XL v;have e1:JY 32=4294967295:=by decide
   have e2:JJ 4294967295 (AD 0)=4294967295:=by decide
   have e3:UC 9223372036854775808 4294967295=9223372036854775808:=by decide
   have e4:JJ (E2 v) (AD 0)=E2 v:=by
    unfold JJ E2;rw [OD,OD];simp
   rw [e1,e2,e3,e4]
  | false=>
   simp only [BB];unfold GG at hr;simp only [BB,AI,AO,KX] at hr;obtain ⟨_,f0,f1,_,⟨l0,l1⟩,r0,r1⟩:=hr;obtain ⟨n,hn,e⟩:=XL a;have hz:HB 0 0 32 (E2 a)=(n:Int):=by
    unfold HB;have e1:JY 32=4294967295:=by decide
    have e2:JJ 4294967295 (AD 0)=4294967295:=by decide
    have e3:UC 0 4294967295=0:=by decide
    have e4:JJ (E2 a) (AD 0)=E2 a:=by
     unfold JJ E2;rw [OD,OD];simp
    rw [e1,e2,e3,e4,e]
    have:=M3 (x:=0) (y:=n) (by omega) (by omega)
    simpa using this
   obtain ⟨f',rfl⟩:=Int.eq_ofNat_of_zero_le f0;obtain ⟨l',rfl⟩:=Int.eq_ofNat_of_zero_le (show 0≤l by omega);obtain ⟨r',rfl⟩:=Int.eq_ofNat_of_zero_le (show 0≤r by omega);rw [hz,e,L6 (n:=f') (by omega),L6 (n:=l') (by omega),L6 (n:=r') (by omega)];have p1:HB (n:Int) 32 4 (f':Int)=((n+f'*2 ^ 32:Nat):Int):=cW (a:=32) (w:=4) (by omega) (by omega) (by omega) (by decide);have p2:HB ((n+f'*2 ^ 32:Nat):Int) 40 8 (l':Int)=((n+f'*2 ^ 32+l'*2 ^ 40:Nat):Int):=cW (a:=40) (w:=8) (by omega) (by omega) (by omega) (by decide);have p3:HB ((n+f'*2 ^ 32+l'*2 ^ 40:Nat):Int) 48 8 (r':Int)=((n+f'*2 ^ 32+l'*2 ^ 40+r'*2 ^ 48:Nat):Int):=cW (a:=48) (w:=8) (by omega) (by omega) (by omega) (by decide);rw [p1,p2,p3,N8 (y:=f') (a:=32) (by omega),N8 (y:=l') (a:=40) (by omega),N8 (y:=r') (a:=48) (by omega)];rw [M3 (x:=n) (by omega) (by omega),P5 (x:=n) (a:=32) (by omega),M3 (by omega) (by omega),P5 (a:=40) (by omega),M3 (by omega) (by omega),P5 (a:=48) (by omega)]
theorem Hq {x:Nd} (h:GG x=true):F3 x≠0:=by
 rw [← cQ];unfold G9;rw [XV,h];simp only [BO];obtain ⟨lf,v,f,a,l,r⟩:=x;cases lf with
 | true=>
  simp only [BO];obtain ⟨n,hn,e⟩:=XL v;rw [e]
  have:=M3 (x:=9223372036854775808) (y:=n) (by omega) (by omega)
  have h2:9223372036854775808≤9223372036854775808 ||| n:=Nat.left_le_or;intro h3;have h4:((9223372036854775808 ||| n:Nat):Int)=0:=this ▸ h3;omega
 | false=>
  simp only [BB];unfold GG at h;simp only [BB,AI,AO,KX] at h;obtain ⟨_,f0,f1,_,⟨l0,l1⟩,r0,r1⟩:=h;obtain ⟨n,hn,e⟩:=XL a;obtain ⟨f',rfl⟩:=Int.eq_ofNat_of_zero_le f0;obtain ⟨l',rfl⟩:=Int.eq_ofNat_of_zero_le (show 0≤l by omega);obtain ⟨r',rfl⟩:=Int.eq_ofNat_of_zero_le (show 0≤r by omega);rw [e,L6 (n:=f') (by omega),L6 (n:=l') (by omega),L6 (n:=r') (by omega)];rw [N8 (y:=f') (a:=32) (by omega),N8 (y:=l') (a:=40) (by omega),N8 (y:=r') (a:=48) (by omega)];rw [M3 (x:=n) (by omega) (by omega),P5 (x:=n) (a:=32) (by omega),M3 (by omega) (by omega),P5 (a:=40) (by omega),M3 (by omega) (by omega),P5 (a:=48) (by omega)];omega
def cZ (w:Int):Bool:=GG (IZ w)&&(F3 (IZ w)==w)
theorem Cd (w:Int):cZ w=ES w:=by
 unfold cZ ES;cases hr:GG (IZ w) with
 | true=>
  rw [BH];cases hw:F3 (IZ w)==w with
  | false=>rw [vax]
  | true=>
   have h1:=Hq hr;rw [BR.1 hw] at h1;simp [h1]
 | false=>
  have:F3 (IZ w)=0:=by
   unfold F3;rw [hr];rfl
  rw [this,BY];cases hw:(w==0) with
  | true=>rfl
  | false=>
   have:¬ (0=w):=fun e=>by subst e; cases hw
   simp [this]
open Go
def Mt:Md:=⟨1,1,3,0,0,[.agg [.int 0,.list [.int (G9 false 0 0 5 1 2),.int (G9 true 10 0 0 0 0),.int (G9 true 20 0 0 0 0)]]]⟩
def SR:C2
 | []=>.ok Mt.V []
 | _=>.no
def SU:C2
 | []=>.ok (.bool true) []
 | _=>.no
open Go
abbrev Bh:List Kd:=[.z,.list false [.z],.list false [.z],.list false [.z],.list false [.z]]
structure Ft where
 d:Int
 c:Int
 bias:LI
 ts:LI
def Ft.cs (f:Ft):List FM.V:=[.int .i64 f.d,.int .i64 f.c,.list false [.z] f.bias,.list true Bh f.ts]
def Ft.V (f:Ft):FM.V:=.agg f.cs
def Ft.M (f:Ft):Md:=Cb f.d f.c f.bias f.ts
def ftOf?:List FM.V→Option Ft
 | [.int .i64 d,.int .i64 c,.list false [.z] b,.list true [.z,.list false [.z],.list false [.z],.list false [.z],.list false [.z]] t]=>some ⟨d,c,b,t⟩
 | _=>none
def akOf?:List FM.V→Option Ak
 | [.int .i64 k,.int .i64 c,.int .i64 lo,.int .i64 size,.int .i64 ft,.int .i64 bu,.bool fl,.list false [.z] sp]=>some ⟨k,c,lo,size,ft,bu,fl,sp⟩
 | _=>none
abbrev eV (v:FM.V) (k:Ft→R):R:=M7 ftOf? v k
abbrev eU (v:FM.V) (k:Ak→R):R:=M7 akOf? v k
theorem rP {v:FM.V} {k:Ft→R} {z:FM.V × List (List FM.V)} (h:(eV v k).get=some z):∃ x:Ft,v=x.V∧(k x).get=some z:=by
 obtain ⟨l,x,rfl,hx,h⟩:=QH h;unfold ftOf? at hx;split at hx
 ·simp only [AB] at hx;subst hx;exact ⟨_,rfl,h⟩
 ·cases hx
theorem rO {v:FM.V} {k:Ak→R} {z:FM.V × List (List FM.V)} (h:(eU v k).get=some z):∃ x:Ak,v=x.V∧(k x).get=some z:=by
 obtain ⟨l,x,rfl,hx,h⟩:=QH h;unfold akOf? at hx;split at hx
 ·simp only [AB] at hx;subst hx;exact ⟨_,rfl,h⟩
 ·cases hx
def fP (a:Ak) (m:Md):Qy:=HC a m.d m.c
def XY (m:Md):Bool:=(decide (1≤m.d)&&decide (m.d≤4))&&(decide (1≤m.c)&&decide (m.c≤3))
def T7:C2
 | [f]=>eV f fun f=>.ok f.M.V []
 | _=>.no
def T6:C2
 | [a,m]=>eU a fun a=>FY m fun m=>.br (XY m) (.ok (fP a m).V []) .no
 | _=>.no
def Qy.bud (q:Qy) (b:Int):Qy:=⟨q.k,q.c,q.a0,q.b0,q.a1,q.b1,q.a2,q.b2,q.a3,q.b3,q.a4,q.b4,q.lo,q.hi,q.ft,q.fl,b⟩
theorem tW {vs:List FM.V} {z:FM.V × List (List FM.V)} (h:(T7 vs).get=some z):(V6 vs).get=some z:=by
 unfold T7 at h;split at h
 ·replace h:=rP h;obtain ⟨f,rfl,h⟩:=h;exact h
 ·simp [R.get] at h
theorem tX {vs:List FM.V} {z:FM.V × List (List FM.V)} (h:(T6 vs).get=some z):(V5 vs).get=some z:=by
 unfold T6 at h;split at h
 ·replace h:=rO h;obtain ⟨a,rfl,h⟩:=h;replace h:=F8 h;obtain ⟨m,rfl,h⟩:=h;exact h
 ·simp [R.get] at h
open Go
def Vd.p (v:Vd):Pt:=⟨v.w0,v.w1,v.w2,v.w3⟩
open Go
open Go
def S7:C2
 | [.int .i64 n,.int .i64 w]=>.br (decide (w=32)&&(decide (0≤n)&&decide (n≤4294967295))) (.ok (.int .i64 (GW n)) []) .no
 | _=>.no
def MJ:C2
 | [b]=>FO b fun b=>.ok (.bool b.emp) []
 | _=>.no
def OW:C2
 | [a,b]=>SB a fun a=>SB b fun b=>.ok (a.meet b).V []
 | _=>.no
def JP:C2
 | [.int .u64 w]=>.ok (.tup [.agg [.bool (CQ w).lf,.int .i64 (CQ w).v,.int .i64 (CQ w).f,.int .i64 (CQ w).a,.int .i64 (CQ w).l,.int .i64 (CQ w).r],.bool (ES w)]) []
 | _=>.no
def OY:C2
 | [.list false [.int .u64] l,.int .i64 dim]=>.ok (.bool (F7 l dim)) []
 | _=>.no
def TA:C2
 | [.list false [.int .u64] l,p]=>LC p fun p=>.ok (.int .i64 (PL l p)) []
 | _=>.no
def S9:C2
 | [.list false [.int .u64] l,p]=>LC p fun p=>.ok (.int .i64 (HG l p)) []
 | _=>.no
def MM:C2
 | [m]=>FY m fun m=>.ok (.bool (DX m)) []
 | _=>.no
def S8:C2
 | [m,.int .i64 k,p]=>FY m fun m=>LC p fun p=>.ok (.int .i64 (CW m k p)) []
 | _=>.no
def MI:C2
 | [m,q]=>FY m fun m=>FP q fun q=>.ok (.bool (EI m q)) []
 | _=>.no
def S4:C2
 | [q]=>FP q fun q=>.ok (II q).V []
 | _=>.no
def S0:C2
 | [b]=>FO b fun b=>.ok b.low.V []
 | _=>.no
def SW:C2
 | [m,q,p,.int .i64 t]=>FY m fun m=>FP q fun q=>LC p fun p=>.ok (.bool (F9 m q p t)) []
 | _=>.no
def SY:C2
 | [m,q,b,.int .i64 i]=>FY m fun m=>FP q fun q=>FO b fun b=>.br (DX m&&E3 i) (.ok (.list false [.z] (iZ (EB m q b i.toNat))) []) .no
 | _=>.no
def SZ:C2
 | [.list false [.int .u64] l,b]=>FO b fun b=>.br (!b.emp) (.ok (.list true FT (EV l b)) []) .no
 | _=>.no
def SV:C2
 | [.list false [.int .u64] l,b]=>FO b fun b=>.br (!b.emp) (.ok (.tup [.int .i64 (GS l b),.int .i64 (GR l b),.bool (L3 l b)]) []) .no
 | _=>.no
def S5:C2
 | [m,.int .i64 k,b]=>FY m fun m=>FO b fun b=>.ok (.tup [.int .i64 (EX m k b),.int .i64 (D6 m k b),.bool (E9 m k b)]) []
 | _=>.no
def LZ (q:Qy) (b:Bx):Bx:=cond (EL q) (b.p b.s4 q.ft.toNat) b
def S2:C2
 | [q,b]=>FP q fun q=>FO b fun b=>.ok (LZ q b).V []
 | _=>.no
def SX:C2
 | [m,q,b]=>FY m fun m=>FP q fun q=>FO b fun b=>.ok (.bool (FI m q b)) []
 | _=>.no
def S3:C2
 | [m,q,b]=>FY m fun m=>FP q fun q=>FO b fun b=>.br (DX m) (.ok (.tup [.int .i64 (E1 (DF m q b)),.int .i64 (FG (DF m q b)),.bool (DF m q b).isSome]) []) .no
 | _=>.no
def S6:C2
 | [b,.int .i64 i,.int .i64 a]=>FO b fun b=>.br (E3 i&&DL a) (.ok (.tup [(b.cutL i a).V,(b.cutH i a).V]) []) .no
 | _=>.no
def S1:C2
 | [m,q]=>FY m fun m=>FP q fun q=>.ok (LY m q).V []
 | _=>.no
open Go Go.Proofs Go.RowKit Go.Sort
theorem aO (x:Int):∀ l,(PP x l).Perm (x :: l)
 | []=>vbv _
 | y :: r=>by
  rw [PP];cases decide (x≤y) with
  | true=>exact vbv _
  | false=>exact ((aO x r).cons y).trans (List.Perm.swap x y r)
theorem OA:∀ l,(HR l).Perm l
 | []=>vbv _
 | x :: r=>(aO x (HR r)).trans ((OA r).cons x)
theorem kR (x:Int):∀ {l:List Int},l.Pairwise (·≤·)→(PP x l).Pairwise (·≤·)
 | [],_=>by simp [PP]
 | y :: r,h=>by
  rw [PP];cases hd:decide (x≤y) with
  | true=>
   have hd:=A4 hd;rw [CP];rw [vbp] at h ⊢;refine ⟨fun z hz=>?_,by rw [vbp]; exact h⟩;rcases AR.1 hz with rfl | hz
   ·exact hd
   ·exact Int.le_trans hd (h.1 z hz)
  | false=>
   have hd:=A8 hd;rw [CS];rw [vbp] at h ⊢;refine ⟨fun z hz=>?_,kR x h.2⟩;rcases AR.1 ((aO x r).mem_iff.1 hz) with rfl | hz
   ·omega
   ·exact h.1 z hz
theorem dX:∀ l,(HR l).Pairwise (·≤·)
 | []=>List.Pairwise.nil
 | x :: r=>kR x (dX r)
theorem Bz (l:List Int):(l.mergeSort fun x y=>decide (x≤y))=HR l:=by
 refine List.Perm.eq_of_pairwise (le:=(·≤·)) (fun a b _ _ h1 h2=>Int.le_antisymm h1 h2) ?_ (dX l) ((List.mergeSort_perm l _).trans (OA l).symm)
 have:=List.pairwise_mergeSort (le:=fun (x y:Int)=>decide (x≤y)) (fun a b c h1 h2=>AE (Int.le_trans (A4 h1) (A4 h2))) (fun a b=>by
  rcases Int.le_total a b with h | h
  ·rw [AE h]; rfl
  ·rw [AE h,Bool.or_true]) l
 exact this.imp fun h=>by simpa using h
theorem jG (x:Int):∀ (l:List Int) (p:Int),G6 p (l++[x])=G6 p l++cond ((l.getLast?.getD p)==x) [] [x]
 | [],p=>by
  show cond (x==p) (G6 x []) (x :: G6 x [])=_;rw [show ((([]:List Int).getLast?.getD p)==x)=(x==p) by show (p==x)=(x==p); rw [vaW,BR,BR]; exact eq_comm];cases (x==p) <;> rfl
 | y :: r,p=>by
  rw [vaL,G6,G6,jG x r y];have e:((y :: r).getLast?.getD p)=r.getLast?.getD y:=by
   cases r with
   | nil=>rfl
   | cons z r=>rw [List.getLast?_cons_cons,List.getLast?_eq_some_getLast (List.cons_ne_nil z r)]; rfl
  rw [e];cases (y==p) <;> rfl
theorem vD (x:Int) (l:List Int):GE (l++[x])=GE l++cond (l.getLast?==some x) [] [x]:=by
 cases l with
 | nil=>rfl
 | cons y r=>
  rw [vaL,GE,GE,jG,vaL];congr 2
  have:((y :: r).getLast?==some x)=(r.getLast?.getD y==x):=by
   cases r with
   | nil=>show (some y==some x)=(y==x); rw [vaW]; simp
   | cons z r=>rw [List.getLast?_cons_cons,List.getLast?_eq_some_getLast (List.cons_ne_nil z r)]; rw [vaW]; simp
  rw [this]
theorem vG (l:List Int):Lib.compact l=GE l:=by
 have key:∀ m,m≤l.length→vbi l.toArray m=GE (l.take m):=by
  intro m
  induction m with
  | zero=>intro _; rfl
  | succ m ih=>
   intro hm;have e1:vbi l.toArray (m+1)=vbi l.toArray m++cond (Lib.keeps l.toArray m) [l.toArray[m]!] []:=by
    unfold vbi;rw [List.range_succ,List.filter_append,List.map_append];congr 1;cases hk:Lib.keeps l.toArray m <;> simp [hk]
   have hml:m < l.length:=by omega
   have e2:l.toArray[m]! = l[m]:=by simp [hml]
   rw [e1,ih (by omega),List.take_succ_eq_append_getElem hml,vD,e2];congr 1;cases m with
   | zero=>simp [Lib.keeps]
   | succ k=>
    have hk:k < l.length:=by omega
    have e3:(l.take (k+1)).getLast?=some l[k]:=by rw [List.getLast?_take]; simp [hk]
    rw [e3];have e4:l.toArray[k]! = l[k]:=by simp [hk]
    cases hq:Lib.keeps l.toArray (k+1) with
    | true=>
     have:¬ (l[k+1]=l[k]):=fun he=>by
      rw [Lib.keeps_neg (Nat.succ_pos k) (by show l.toArray[k+1]! = l.toArray[k]!; rw [e2,e4]; exact he)] at hq;cases hq
     rw [CP];rw [show (some l[k]==some l[k+1])=false by simp; exact fun h=>this h.symm];rfl
    | false=>
     have:l[k+1]=l[k]:=by
      by_cases he:l[k+1]=l[k]
      ·exact he
      ·rw [Lib.keeps_pos (by show l.toArray[k+1]!≠l.toArray[k]!; rw [e2,e4]; exact he)] at hq;cases hq
     rw [CS,this];rw [show (some l[k]==some l[k])=true by simp];rfl
 unfold Lib.compact;rw [key _ (AP _),A9]
theorem jE:∀ (l:List Int) (p:Int),(G6 p l).length≤l.length
 | [],_=>AP _
 | x :: r,p=>by
  have:=jE r x
  rw [G6];cases (x==p)
  ·rw [CS,AT,AT]; omega
  ·rw [CP,AT]; omega
theorem ZZ (l:List Int):(GE l).length≤l.length:=by
 cases l with
 | nil=>exact AP _
 | cons x r=>rw [GE,AT,AT]; have:=jE r x; omega
theorem ZX {p x:Int}:∀ {l:List Int},x∈G6 p l→x∈l
 | [],h=>by cases h
 | y :: r,h=>by
  rw [G6] at h;cases hb:(y==p)
  ·rw [hb,CS] at h;rcases AR.1 h with h | h
   ·exact h ▸ AS ..
   ·exact AY _ (ZX h)
  ·rw [hb,CP] at h;exact AY _ (ZX h)
theorem jH {x:Int} {l:List Int} (h:x∈GE l):x∈l:=by
 cases l with
 | nil=>cases h
 | cons y r=>
  rcases AR.1 h with h | h
  ·exact h ▸ AS ..
  ·exact AY _ (ZX h)
theorem H9 (l:List Int):(iZ l).length=l.length:=vaC ..
theorem aL (l:List Int):(iZ l).map IV.toInt=l:=by
 unfold iZ;rw [List.map_map];exact List.map_id l
theorem ZT (l:List Int):IS (iZ l)=l.map (Value.int .i64):=by
 unfold IS iZ;rw [List.map_map];rfl
theorem uX (l:LI):IS l=(l.map IV.toInt).map (Value.int .i64):=by
 unfold IS;rw [List.map_map];rfl
abbrev GO:Int→Value:=Value.int .i64
theorem X3 {w:World} {e g n cap:Nat} {zs:List Int} (h:w.ownsRow 0 e 1 (.slice (some ⟨g,0,none⟩) n cap) zs.length (zs.map GO)):n=zs.length∧n≤cap∧cap≤maxLen∧g < w.heap.size∧Holds GO w g 0 zs.toArray:=by
 rcases h.2 with ⟨h1,_⟩ | ⟨g',cap',cur,h1,_,h2,h3,h4,h5,h6⟩
 ·cases h1
 ·simp only [BW,AB,CL,B9] at h1;obtain ⟨rfl,rfl,rfl⟩:=h1;refine ⟨rfl,h3,h4,(vaX.1 h2).1,fun j hj=>?_⟩;have hj':j < zs.length:=by simpa using hj
  rw [A0];constructor
  ·have hc:cur[j]?=some (GO zs[j]):=by
    have:(cur.toList.take (zs.length*1))[j]?=some (GO zs[j]):=by rw [h6]; simp [hj']
    rw [CI,B1 (by omega)] at this;simpa using this
   simp only [World.cell?,h2];simp [hc,hj']
  ·simp [World.frozen?,h2]
theorem Ax {w:World} {g:Nat} {cur:Array Value} {e:TypeId} {fr:Nat × Nat} (h:w.heap[g]?=some (.cells cur e fr)) (q:Nat) (os:Array Obj) (zs:List Int) :
  (grow (putRow GO (vbr w q) g 0 zs.toArray) os).heap[g]?=some (.cells (putCells GO 0 zs.toArray cur) e fr):=by
 have hg:g < w.heap.size:=(vaX.1 h).1;have h0:(putRow GO (vbr w q) g 0 zs.toArray).heap[g]?=some (.cells (putCells GO 0 zs.toArray cur) e fr):=by
  unfold putRow mapBlock;simp [Array.getElem?_modify,onCells,h]
 unfold grow;simp only;rw [Array.getElem?_append_left (by rw [size_putRow]; exact hg)];exact h0
theorem Hz {cur:Array Value} {zs:List Int} (h:zs.length≤cur.size):(putCells GO 0 zs.toArray cur).size=cur.size∧(putCells GO 0 zs.toArray cur).toList.take zs.length=zs.map GO:=by
 refine ⟨by simp [putCells],?_⟩;apply List.ext_getElem?;intro k;rw [CI];by_cases hk:k < zs.length
 ·rw [B1 hk];have hc:k < cur.size:=by omega
  simp [putCells,hk,hc]
 ·rw [A7 hk];simp [hk]
theorem cK {w:World} {e g n cap:Nat} {zs:List Int} (h:w.ownsRow 0 e 1 (.slice (some ⟨g,0,none⟩) n cap) zs.length (zs.map GO)) (q:Nat) (os:Array Obj) (ys rest:List Int) (hl:(ys++rest).length=zs.length) :
  w.grownBy (grow (putRow GO (vbr w q) g 0 (ys++rest).toArray) os) (some g) ∧
   (grow (putRow GO (vbr w q) g 0 (ys++rest).toArray) os).ownsRow 0 e 1 (.slice (some ⟨g,0,none⟩) ys.length cap) ys.length (ys.map GO):=by
 have hh:=X3 h;rcases h.2 with ⟨h1,_⟩ | ⟨g',cap',cur,h1,_,h2,h3,h4,h5,h6⟩
 ·cases h1
 ·simp only [BW,AB,CL,B9] at h1;obtain ⟨rfl,rfl,rfl⟩:=h1;rw [AQ] at hl;have hcur:(ys++rest).length≤cur.size:=by rw [AQ]; omega
  obtain ⟨p1,p2⟩:=Hz (zs:=ys++rest) hcur;refine ⟨⟨rfl,rfl,rfl,?_,fun k hk hne=>?_⟩,by simp,.inr ⟨g,cap,_,rfl,B3 _,Ax h2 q os _,by omega,h4,by rw [p1,h5],?_⟩⟩
  ·show w.heap.size≤((putRow GO (vbr w q) g 0 (ys++rest).toArray).heap++os).size;rw [Array.size_append,size_putRow];exact Nat.le_add_right _ _
  ·have hne':g≠k:=fun e=>hne (by rw [e])
   unfold grow;simp only;rw [Array.getElem?_append_left (by rw [size_putRow]; exact hk)];unfold putRow mapBlock;simp [Array.getElem?_modify,hne']
  ·rw [Nat.mul_one]
   have:=congrArg (AU ys.length) p2
   rw [List.take_take,vao (by rw [AQ]; omega),List.map_append,List.take_left' (by simp)] at this;exact this
theorem kJ (w:World) (r:Option Nat):w.grownBy w r:=⟨rfl,rfl,rfl,AP _,fun _ _ _=>rfl⟩
theorem dE {l:LI} (h:∀ x∈l,AC.min≤x.toInt∧x.toInt≤AC.max) {ys:List Int} (hs:∀ y∈ys,y∈l.map IV.toInt):∀ x∈iZ ys,AC.min≤x.toInt∧x.toInt≤AC.max:=by
 intro x hx;obtain ⟨y,hy,rfl⟩:=List.mem_map.1 hx;obtain ⟨z,hz,hzy⟩:=List.mem_map.1 (hs y hy);show AC.min≤y∧y≤AC.max;rw [← hzy];exact h z hz
theorem cJ {w:World} {e:Nat} {v:Value} {l:LI} (h:w.ownsRow 0 e 1 v l.length (IS l)):(v = .slice none 0 0∧l=[])∨∃ g cap,v = .slice (some ⟨g,0,none⟩) (l.map IV.toInt).length cap∧w.ownsRow 0 e 1 (.slice (some ⟨g,0,none⟩) (l.map IV.toInt).length cap) (l.map IV.toInt).length ((l.map IV.toInt).map GO):=by
 rcases h.2 with ⟨h1,h2⟩ | ⟨g,cap,cur,h1,_⟩
 ·exact .inl ⟨h1,List.length_eq_zero_iff.1 h2⟩
 ·rw [h1] at h;refine .inr ⟨g,cap,by rw [h1,vaC],?_⟩;rw [vaC,← uX];exact h
theorem Le:MD PR 85 W1:=by
 intro w v l l' rs ys hown hrng hlen hr hg;unfold W1 at hg;simp only at hg;split at hg
 ·simp only [AB] at hg;subst hg;obtain rfl:ys=[]:=by
   cases ys with
   | nil=>rfl
   | cons y ys=>simp [N6] at hr
  refine Does.of_calls Tryz.func85 (by kernel_rfl) (by kernel_rfl) ?_;have hmem:∀ y∈HR (l.map IV.toInt),y∈l.map IV.toInt:=fun y hy=>(OA _).mem_iff.1 hy
  rcases cJ hown with ⟨rfl,rfl⟩ | ⟨g,cap,rfl,ho⟩
  ·refine (Tryz.slices_Sort_int_none none 0 w).mono ?_;rintro e w' ⟨rfl,rfl⟩;exact ⟨_,rfl,kJ _ _,fun x hx=>(by cases hx),fun h=>(by cases h),fun _=>hown⟩
  ·obtain ⟨_,_,hcm,hgs,hH⟩:=X3 ho;refine (Tryz.slices_Sort_int g 0 cap (l.map IV.toInt) w hH hgs (by rw [vaC]; unfold strMax at hlen; omega)).mono ?_;rintro e w' ⟨rfl,q,os,rfl⟩;rw [Bz];have hl:(HR (l.map IV.toInt)++[]).length=(l.map IV.toInt).length:=by rw [List.append_nil]; exact (OA _).length_eq
   have hp:=cK ho q os (HR (l.map IV.toInt)) [] hl;rw [List.append_nil] at hp hl;refine ⟨_,rfl,hp.1,dE hrng hmem,fun h=>(by cases h),fun _=>?_⟩;rw [ZT,H9,← hl];exact hp.2
 ·cases hg
theorem Lc:MD PR 86 WZ:=by
 intro w v l l' rs ys hown hrng hlen hr hg;unfold WZ at hg;simp only at hg;split at hg
 ·simp only [AB] at hg;subst hg;obtain rfl:ys=[]:=by
   cases ys with
   | nil=>rfl
   | cons y ys=>simp [N6] at hr
  refine Does.of_calls Tryz.func86 (by kernel_rfl) (by kernel_rfl) ?_;rcases cJ hown with ⟨rfl,rfl⟩ | ⟨g,cap,rfl,ho⟩
  ·refine (Tryz.slices_Compact_int_empty none 0 w).mono ?_;rintro e w' ⟨rfl,rfl⟩;exact ⟨_,rfl,kJ _ _,fun x hx=>(by cases hx),fun _=>⟨hown,fun b hb=>(by simp [B6] at hb)⟩,fun h=>by cases h⟩
  ·obtain ⟨_,hnc,hcm,hgs,hH⟩:=X3 ho;refine (Tryz.slices_Compact_int g 0 cap (l.map IV.toInt) w hH (by rw [vaC]; unfold strMax at hlen; omega) hnc).mono ?_;rintro e w' ⟨rfl,q,rfl⟩;rw [vG];have hlc:=ZZ (l.map IV.toInt);have hp:=cK ho q #[] (GE (l.map IV.toInt)) (vad ((l.map IV.toInt).length - (GE (l.map IV.toInt)).length) 0) (by rw [AQ,List.length_replicate]; omega);rw [grow_empty] at hp;refine ⟨_,rfl,hp.1,dE hrng fun y hy=>jH hy,fun _=>⟨?_,fun b hb=>.inl hb⟩,fun h=>by cases h⟩;rw [ZT,H9];exact hp.2
 ·cases hg
set_option maxHeartbeats 1000000 in
theorem jK (a b x:Int) (B:Nat) (W:World) (ha:W.cell? ⟨B,0,none⟩=some (.int .i64 a)) (hb:W.cell? ⟨B,1,none⟩=some (.int .i64 b)) :
  FnGives Tryz.prog 65 #[.pointer (some ⟨B,0,none⟩)] #[.int .i64 x] (.bool (decide (x < a)||decide (x≥b))) W:=by
 show Calls Tryz.prog 65 #[.int .i64 x,.pointer (some ⟨B,0,none⟩)] W _
 go_enter Tryz.func65,Tryz.ntmps65
 go_wp2
 all_goals (go_ret; exact ⟨by simp_all,0,rfl⟩)
set_option maxHeartbeats 1000000 in
theorem vM (fv:Value) (w:World):Calls Tryz.prog 63 #[.slice none 0 0,fv] w fun e w'=>e = .returned (.slice none 0 0)∧∃ q,w'=w.drewN q:=by
 go_enter Tryz.func63,Tryz.ntmps63
 go_wp2_with (go_at_call 83; refine (Tryz.slices_IndexFunc_empty (α:=Int) none 0 fv _).mono ?_; rintro e w' ⟨rfl,rfl⟩)
 go_ret
 exact ⟨rfl,0,rfl⟩
theorem Ht {w:World} {v:Value} {f:Nat} {a b:Int} {ys:List Value} (h:N6 w v [.clo f [.bor [.int .i64 a,.int .i64 b]]] ys):∃ B,ys=[.func (.func f) #[] #[.pointer (some ⟨B,0,none⟩)]]∧B < w.heap.size∧w.cell? ⟨B,0,none⟩=some (.int .i64 a)∧w.cell? ⟨B,1,none⟩=some (.int .i64 b)∧v.ownBlock≠some B:=by
 cases ys with
 | nil=>simp [N6] at h
 | cons y r=>
  cases r with
  | cons _ _=>simp [N6] at h
  | nil=>
   simp only [N6] at h;obtain ⟨B,c,T,rfl,hh,hc,hne⟩:=h;refine ⟨B,rfl,(vaX.1 hh).1,?_,?_,hne⟩
   ·simp only [World.cell?,hh];rw [← vau,hc];rfl
   ·simp only [World.cell?,hh];rw [← vau,hc];rfl
theorem Ld:MD PR 63 W0:=by
 intro w v l l' rs ys hown hrng hlen hr hg;unfold W0 at hg;simp only at hg;split at hg
 ·rename_i f a b;cases hf:AZ f 65 with
  | false=>rw [hf,CS] at hg; cases hg
  | true=>
   rw [hf,CP,AB] at hg;subst hg;obtain rfl:=EA.1 hf;obtain ⟨B,rfl,hBs,ha,hb,hne⟩:=Ht hr;have pe:IC a b (l.map IV.toInt)=(l.map IV.toInt).filter fun x=>!(decide (x < a)||decide (x≥b)):=rfl
   have eg:∀ args w,(callFunc 65 args).run Tryz.prog w = .ok (.enter 65 args) w:=enters_of Tryz.func65 (by kernel_rfl) rfl;have hp:PredAt Tryz.prog 65 #[.pointer (some ⟨B,0,none⟩)] GO (fun x=>decide (x < a)||decide (x≥b)) w:=
    fun W x hbw=>jK a b x B W ((hbw.cell (p:=⟨B,0,none⟩) hBs).trans ha) ((hbw.cell (p:=⟨B,1,none⟩) hBs).trans hb)
   rcases cJ hown with ⟨rfl,rfl⟩ | ⟨g,cap,rfl,ho⟩
   ·refine Does.of_calls Tryz.func63 (by kernel_rfl) (by kernel_rfl) ((vM _ w).mono ?_);rintro e w' ⟨rfl,q,rfl⟩;exact ⟨_,rfl,⟨rfl,rfl,rfl,AP _,fun _ _ _=>rfl⟩,fun x hx=>(by cases hx),fun _=>⟨World.ownsRow_nil _ 0 _ _,fun b hb=>(by simp [B6] at hb)⟩,fun h=>by cases h⟩
   ·obtain ⟨_,hnc,hcm,hgs,hH⟩:=X3 ho;have hBg:B≠g:=fun e=>hne (by rw [e]; rfl)
    have hpo:PredOver Tryz.prog 65 #[.pointer (some ⟨B,0,none⟩)] GO (fun x=>decide (x < a)||decide (x≥b)) g 0 (l.map IV.toInt).toArray.size w:=
     fun n os dk x _=>by
      have hcell:∀ o u,w.cell? ⟨B,o,none⟩=some u→(sortWorld GO w g 0 n dk os).cell? ⟨B,o,none⟩=some u:=fun o u hu=>by
       unfold sortWorld;rw [cell?_grow _ _ _ (by show B < (putRow _ _ _ _ _).heap.size; rw [size_putRow]; exact hBs),cell?_putRow_other _ _ g 0 _ _ (Or.inl hBg)];exact hu
      exact jK a b x B _ (hcell 0 _ ha) (hcell 1 _ hb)
    refine Does.of_calls Tryz.func63 (by kernel_rfl) (by kernel_rfl) ?_;have hcall:=Tryz.slices_DeleteFunc GO (fun _=>rfl) (fun x=>decide (x < a)||decide (x≥b)) 65 #[.pointer (some ⟨B,0,none⟩)] eg 0 Tryz.zeroValue3 g 0 cap (l.map IV.toInt).toArray w hp hpo hH (by simp; unfold strMax at hlen; omega) (by simp; rw [vaC] at hnc; exact hnc);have es:(l.map IV.toInt).toArray.size=(l.map IV.toInt).length:=by simp
    rw [es] at hcall;refine hcall.mono ?_;rintro e w' ⟨rfl,q,rfl⟩;have ef:(l.map IV.toInt).toArray.toList.filter (fun x=>!(decide (x < a)||decide (x≥b)))=IC a b (l.map IV.toInt):=rfl;rw [ef];have hlc:(IC a b (l.map IV.toInt)).length≤(l.map IV.toInt).length:=List.length_filter_le ..
    have hp2:=cK ho q #[] (IC a b (l.map IV.toInt)) (vad ((l.map IV.toInt).length - (IC a b (l.map IV.toInt)).length) 0) (by rw [AQ,List.length_replicate]; omega);rw [grow_empty] at hp2;refine ⟨_,rfl,hp2.1,dE hrng fun y hy=>(List.mem_filter.1 hy).1,fun _=>⟨?_,fun b hb=>.inl hb⟩,fun h=>by cases h⟩;rw [ZT,H9];exact hp2.2
 ·cases hg
open Go Go.Proofs
set_option maxRecDepth 100000
theorem mD {dim n:Int}:∀ {l:LI} {i k:Nat} (hk:k < l.length),IF dim n i l=true→ES (l[k]).toInt=true∧PN dim n (i+k) (CQ (l[k]).toInt)=true
 | [],i,k,hk,_=>absurd hk (Nat.not_lt_zero k)
 | w :: r,i,0,hk,h=>by
  rw [IF] at h;simp only [AI] at h;exact h.1
 | w :: r,i,k+1,hk,h=>by
  rw [IF,AI] at h
  have:=mD (k:=k) (by simpa using hk) h.2
  rw [show i+1+k=i+(k+1) by omega] at this;exact this
theorem R8 {l:LI} {dim:Int} (h:F7 l dim=true):(1≤l.length∧l.length≤31)∧(∀ k (hk:k < l.length),ES (l[k]).toInt=true∧PN dim (ic l.length) k (CQ (l[k]).toInt)=true)∧RM l=true:=by
 unfold F7 at h;simp only [AI] at h;refine ⟨⟨AK h.1.1,AK h.1.2⟩,fun k hk=>?_,h.2.2⟩
 have:=mD hk h.2.1
 rwa [A0] at this
theorem kH {dim n:Int} {i:Nat} {x:Nd} (h:PN dim n i x=true) (hl:x.lf=false):x.f < dim∧x.l≠x.r∧((i:Int) < x.l∧(i:Int) < x.r)∧(x.l < n∧x.r < n):=by
 unfold PN at h;rw [hl,CS] at h;simp only [AI,CF,CO,CG] at h;obtain ⟨h1,h2,h3,h4⟩:=h;exact ⟨by omega,h2,by omega,by omega⟩
abbrev Bl:KP:=⟨[4,5,6,24,25,26],[20,500],[⟨(.tmp 6),500,131,true,FT⟩]⟩
abbrev rR (l:LI) (i:Int) (own out:LI):St:=
 ⟨[(4,.zs),(5,(.row 20 0 l.length)),(6,(.row 500 0 out.length)),(24,(.list false [(.int .u64)] l)),(25,(.int .i64 (ic (AF l)))),(26,(.int .i64 i))],[(20,(some (.row true 31 true D1 own))),(500,(some (.row true 131 true FT out)))]⟩
theorem XH (N:Nat) (l:LI) (ht:F7 l 4=true):∀ (m i n:Nat) (own out:LI),i+m=l.length→m < n→own.length=l.length→out.length≤i →
  C4 (LG N) (CR NP [1,1,1,1,1,0,1,0,0]) Bl n (rR l (i:Int) own out) (CY 0 (C0 (LG N) (CR NP [1,1,1,1,1,1]) (C1 (LG N) none [(BD 4)] [[(.list true FT)]]))) =
   some (.list true FT (HM (l.drop i) i own out),[])
 | m,i,0,_,_,_,h,_,_=>absurd h (by omega)
 | 0,i,n+1,own,out,hd,_,_,_=>by
  have hi:i=l.length:=by omega
  subst hi;rw [DD,p9,JB (AP _),CS,wM,CE,HM,CC,A9]
 | m+1,i,n+1,own,out,hd,hn,ho,hu=>by
  obtain ⟨⟨l1,l31⟩,hat,_⟩:=R8 ht;have hi:i < l.length:=by omega
  have ei:AA AC ((i:Int)+1)=((i+1:Nat):Int):=FN (by omega);obtain ⟨hb,hf⟩:=hat i hi;have io:decide ((i:Int) < ic (l.length - 0))=true:=IB hi;rw [DD,p9,ei,IB hi,CP,IA,BE,CP,IW hi,io,BE,BL,BC hi,HM];simp only [A0];cases hl:(CQ (l[i]).toInt).lf with
  | true=>
   rw [A5,CS,CP,CP,BH];have e1:JW (CQ (l[i]).toInt) i own=own:=by unfold JW; rw [hl,CP]
   rw [e1];cases (C8 (own.getD i default)).emp with
   | true=>exact XH N l ht m (i+1) n own out (by omega) (by omega) ho (by omega)
   | false=>
    have ih:=XH N l ht m (i+1) n own (out++[RQ (C8 (own.getD i default)) (CQ (l[i]).toInt).v]) (by omega) (by omega) ho (by rw [AQ]; simp; omega);unfold rR at ih;rw [AQ,CK] at ih;rw [BJ,CP,CP,AE (show (out.length+1)*88≤DJ by unfold DJ; omega),CP,A9];exact ih
  | false=>
   obtain ⟨f4,_,_,⟨ln,rn⟩⟩:=kH hf hl;obtain ⟨⟨f0,_⟩,⟨a1,_⟩,⟨b1,_⟩,_⟩:=PZ hb hl;have hp:E3 (CQ (l[i]).toInt).f=true:=by unfold E3; rw [AE f0,AE (by omega)]; rfl
   have el:(decide (0≤(CQ (l[i]).toInt).l)&&decide ((CQ (l[i]).toInt).l < ic (l.length - 0)))=true:=by rw [AE (by omega),AE (show (CQ (l[i]).toInt).l < ic (l.length - 0) from ln)]; rfl
   have er:(decide (0≤(CQ (l[i]).toInt).r)&&decide ((CQ (l[i]).toInt).r < ic (l.length - 0)))=true:=by rw [AE (by omega),AE (show (CQ (l[i]).toInt).r < ic (l.length - 0) from rn)]; rfl
   rw [BJ,CP,CP,hp,CP,el,CP,er,CP,BY,CS];have e1:JW (CQ (l[i]).toInt) i own=(own.set (CQ (l[i]).toInt).l.toNat ((C8 (own.getD i default)).cutL (CQ (l[i]).toInt).f (CQ (l[i]).toInt).a).I).set (CQ (l[i]).toInt).r.toNat ((C8 (own.getD i default)).cutH (CQ (l[i]).toInt).f (CQ (l[i]).toInt).a).I:=by unfold JW; rw [hl,CS]
   rw [e1];exact XH N l ht m (i+1) n _ out (by omega) (by omega) (by rw [vas,vas]; exact ho) (by omega)
theorem Lf:C5 PR B0 91 TM:=by
 refine DC [(35,OV),(52,KR),(84,KU),(74,O9)] [(7,⟨[4,5,6,24,25,26],[20,500],[⟨.tmp 6,500,131,true,[.z,.z,.z,.z,.z,.z,.z,.z,.z,.z,.z]⟩]⟩)] TM [[.list true [.z,.z,.z,.z,.z,.z,.z,.z,.z,.z,.z]]] Tryz.func91 zW ⟨oZ,YH,YK,pG,trivial⟩ ?_;intro vs r hwf h;unfold TM at h;split at h
 ·rename_i l b;replace h:=FU h;obtain ⟨b,rfl,h⟩:=h;rw [R.get_ok] at h;refine ⟨40,?_⟩;rw [← h];refine (Eh 40 l b).trans ?_;unfold EV;cases ht:F7 l 4 with
  | false=>rfl
  | true=>
   rw [A5,CS,BH];cases b.emp with
   | true=>rfl
   | false=>
    obtain ⟨⟨l1,l31⟩,_,_⟩:=R8 ht;have run:=XH 40 l ht l.length 0 40 ((vad l.length NI.I).set 0 b.I) [] (by omega) (by omega) (by simp) (B3 _);rw [CS,AE (show (0:Int)≤ic l.length by simp only [ic]; omega),AE (show ic l.length=ic l.length from rfl),AE (show ic l.length*ic 80≤ic DJ by unfold DJ; simp only [ic]; omega),BE,BE,CP,
     AE (show 0≤0 from AP 0),AE (show (0:Int) < ic (AD (ic l.length) - 0) by simp only [ic]; omega),BE,CP]
    exact run
 ·simp [R.get] at h
abbrev Ny (l:LI) (lo hi i:Int):St:=⟨[(4,(.int .i64 0)),(5,(.int .i64 0)),(6,(.bool false)),(8,(.int .i64 lo)),(9,(.int .i64 hi)),(26,(.list true FT l)),(27,(.int .i64 (ic (AF l)))),(28,(.int .i64 i))],[]⟩
theorem fY (N:Nat) (l:LI) (hl:l.length≤strMax):∀ (m i n:Nat) (lo hi:Int),i+m=l.length→m < n →
  C4 (LE N) (CR NK [1,1,1,1,0,1,0,0]) ⟨[4,5,6,8,9,26,27,28],[],[]⟩ n (Ny l lo hi (i:Int)) (CY 0 (C0 (LE N) (CR NK [1,1,1,1,1]) (C1 (LE N) none [(BD 4),(BD 5),(BD 6)] [[.z],[.z],[.bool]]))) =
   some (.tup [.int .i64 (LR (l.drop i) lo),.int .i64 (LQ (l.drop i) hi),.bool true],[])
 | m,i,0,_,_,_,h=>absurd h (by omega)
 | 0,i,n+1,lo,hi,hd,_=>by
  have hi:i=l.length:=by omega
  subst hi;rw [DD,pO,JB (AP _),CS,CE];exact vW N _ _ _ _ _ l _ _
 | m+1,i,n+1,lo,hi,hd,hn=>by
  have hi:i < l.length:=by omega
  have mx:strMax=140737488355327:=rfl;have ei:AA AC ((i:Int)+1)=((i+1:Nat):Int):=FN (by omega);rw [DD,pO,ei,IB hi,CP,IA,BE,CP,IW hi,BC hi,LR,LQ];exact fY N l hl m (i+1) n _ _ (by omega) (by omega)
theorem lR:∀ (l:LI) (i:Nat) (own out:LI),(HM l i own out).length≤out.length+l.length
 | [],_,_,out=>AP _
 | w :: r,i,own,out=>by
  rw [HM]
  have:=lR r (i+1) (JW (CQ w.toInt) i own) (cond ((CQ w.toInt).lf&&!(C8 (own.getD i default)).emp) (out++[RQ (C8 (own.getD i default)) (CQ w.toInt).v]) out)
  refine vaj this ?_;cases ((CQ w.toInt).lf&&!(C8 (own.getD i default)).emp) with
  | true=>rw [CP,AQ,CK,AT]; omega
  | false=>rw [CS,AT]; omega
theorem lL (l:LI) (b:Bx):(EV l b).length≤31:=by
 unfold EV;cases ht:F7 l 4 with
 | false=>exact B3 _
 | true=>
  cases b.emp with
  | true=>exact B3 _
  | false=>
   have:=lR l 0 ((vad l.length NI.I).set 0 b.I) []
   have h2:=(R8 ht).1.2;simp only [B8,A0] at this;exact vaj this h2
theorem Jq:C5 PR B0 76 SN:=by
 refine DC [(91,TM)] [(6,⟨[4,5,6,8,9,26,27,28],[],[]⟩)] SN [[.z],[.z],[.bool]] Tryz.func76 yF ⟨Lf,trivial⟩ ?_;intro vs r hwf h;unfold SN at h;split at h
 ·rename_i l b;replace h:=FU h;obtain ⟨b,rfl,h⟩:=h;rw [R.get_ok] at h;refine ⟨40,?_⟩;rw [← h];refine (Cn 40 l b).trans ?_;have h31:=lL l b;unfold GS GR L3 RS RR;generalize EV l b=ps at h31 ⊢;cases ps with
  | nil=>rfl
  | cons x r=>
   have run:=fY 40 (x :: r) (vaj h31 (by decide)) (x :: r).length 0 40 (E4 x) (E4 x) (by omega) (by omega);have e0:(ic (x :: r).length==0)=false:=by
    simp only [ic,AT,CG];omega
   have e1:(decide (0≤0)&&decide (0 < ic (x :: r).length))=true:=by
    rw [AE (show 0≤0 from AP 0),AE (show 0 < ic (x :: r).length by simp only [ic,AT]; omega)];rfl
   rw [e0,CS,e1,CP,CP];exact run
 ·simp [R.get] at h
theorem Ca {l:LI}:∀ {a:Int},DL a=true→(∀ x∈l,DL (E4 x)=true)→DL (LR l a)=true:=by
 induction l with
 | nil=>intro a h _; exact h
 | cons x r ih=>
  intro a h hx;rw [LR];refine ih ?_ fun y hy=>hx y (AY _ hy)
  have:=IU h
  have:=IU (hx x (AS ..))
  unfold DL;rw [AE (by omega),AE (by omega)];rfl
theorem Bv {l:LI}:∀ {a:Int},DL a=true→(∀ x∈l,DL (E4 x)=true)→DL (LQ l a)=true:=by
 induction l with
 | nil=>intro a h _; exact h
 | cons x r ih=>
  intro a h hx;rw [LQ];refine ih ?_ fun y hy=>hx y (AY _ hy)
  have:=IU h
  have:=IU (hx x (AS ..))
  unfold DL;rw [AE (by omega),AE (by omega)];rfl
theorem lQ:∀ (l:LI) (i:Nat) (own out:LI),(∀ x∈out,DL (E4 x)=true)→∀ x∈HM l i own out,DL (E4 x)=true
 | [],_,_,_,h=>h
 | w :: r,i,own,out,h=>by
  rw [HM];refine lQ r (i+1) _ _ ?_;cases ((CQ w.toInt).lf&&!(C8 (own.getD i default)).emp) with
  | true=>
   intro x hx;rcases AW.1 hx with hx | hx
   ·exact h x hx
   ·obtain rfl:=vaz.1 hx;exact mC _
  | false=>exact h
theorem Bq (l:LI) (b:Bx):∀ x∈EV l b,DL (E4 x)=true:=by
 unfold EV;cases (F7 l 4&&!b.emp) with
 | true=>exact lQ _ _ _ _ (fun x hx=>by cases hx)
 | false=>intro x hx; cases hx
theorem YR (l:LI) (b:Bx):DL (GS l b)=true∧DL (GR l b)=true:=by
 unfold GS GR L3;have hf:=Bq l b;generalize EV l b=ps at hf ⊢;cases ps with
 | nil=>exact ⟨rfl,rfl⟩
 | cons x r=>exact ⟨Ca (hf x (AS ..)) hf,Bv (hf x (AS ..)) hf⟩
abbrev Nx (ts:LI) (b:Bx) (k lo hi i:Int):St:=⟨[(1,(.int .i64 k)),(5,(.ptr 5 0 0)),(6,(.int .i64 0)),(7,(.int .i64 0)),(8,(.bool false)),(9,(.int .i64 lo)),(10,(.int .i64 hi)),(42,(.list true EU ts)),(43,(.int .i64 (ic (AF ts)))),(44,(.int .i64 i))],[(5,(some (.box (Bx.cs b))))]⟩
theorem d9 (N:Nat) (ts:LI) (b:Bx) (k:Int) (hts:ts.length≤8):∀ (m i n:Nat) (lo hi:Int),i+m=ts.length→m < n→(-2147483648*(i+1)≤lo∧lo≤2147483648*(i+1))→(-2147483648*(i+1)≤hi∧hi≤2147483648*(i+1)) →
  C4 (ET N) (CR F1 [1,1,1,0,1,0,0]) ⟨[1,5,6,7,8,9,10,42,43,44],[5],[]⟩ n (Nx ts b k lo hi (i:Int)) (CY 0 (C0 (ET N) (CR F1 [1,1,1,1]) (C1 (ET N) none [(BD 6),(BD 7),(BD 8)] [[.z],[.z],[.bool]]))) =
   some (.tup [.int .i64 (I2 (fun l=>GS l b) k (ts.drop i) lo),.int .i64 (I2 (fun l=>GR l b) k (ts.drop i) hi),.bool true],[])
 | m,i,0,_,_,_,h,_,_=>absurd h (by omega)
 | 0,i,n+1,lo,hi,hd,_,_,_=>by
  have hlt:i=ts.length:=by omega
  subst hlt;rw [DD,pN,JB (AP _),CS,CE];exact vV N b _ _ _ _ _ _ _ _ _
 | m+1,i,n+1,lo,hi,hd,hn,h1,h2=>by
  have hlt:i < ts.length:=by omega
  have ei:AA AC ((i:Int)+1)=((i+1:Nat):Int):=FN (by omega);rw [DD,pN,ei,IB hlt,CP,IA,BE,CP,IW hlt,BC hlt,I2,I2];obtain ⟨q1,q2⟩:=YR (D2 ts[i]) b;have q1:=IU q1;have q2:=IU q2;have en:((ts[i].cell 0).toInt != k)=!((ts[i].cell 0).toInt==k):=rfl;rw [en];cases ((ts[i].cell 0).toInt==k) with
  | true=>
   rw [A5,CS,CP,CP];have ew:AA AC (lo+GS (D2 ts[i]) b)=lo+GS (D2 ts[i]) b:=DV (by omega) (by omega);have ew2:AA AC (hi+GR (D2 ts[i]) b)=hi+GR (D2 ts[i]) b:=DV (by omega) (by omega);have ih:=d9 N ts b k hts m (i+1) n (lo+GS (D2 ts[i]) b) (hi+GR (D2 ts[i]) b) (by omega) (by omega) (by omega) (by omega);rw [← ew,← ew2] at ih;refine Eq.trans ih ?_;rw [ew,ew2]
  | false=>
   rw [BJ,CP,CS,CS];exact d9 N ts b k hts m (i+1) n lo hi (by omega) (by omega) (by omega) (by omega)
theorem dP:C5 PR B0 53 MG:=by
 refine DC [(76,SN),(52,KR),(49,KT)] [(5,⟨[1,5,6,7,8,9,10,42,43,44],[5],[]⟩)] MG [[.z],[.z],[.bool]] Tryz.func53 yE ⟨Jq,YH,YJ,trivial⟩ ?_;intro vs r hwf h;unfold MG at h;split at h
 ·rename_i m k b;replace h:=F8 h;obtain ⟨m,rfl,h⟩:=h;replace h:=FU h;obtain ⟨b,rfl,h⟩:=h;rw [R.get_ok] at h;refine ⟨10,?_⟩;rw [← h];refine (Cm 10 m k b).trans ?_;unfold EX D6 E9;cases hm:DX m with
  | false=>rfl
  | true=>
   rw [A5,CS];cases h0:decide (k < 0) with
   | true=>
    have:FA m k=false:=by unfold FA; rw [AM (show ¬ 0≤k by have:=A4 h0; omega)]; rfl
    rw [this];rfl
   | false=>
    rw [CS];cases h1:decide (k≥m.c) with
    | true=>
     have:FA m k=false:=by unfold FA; rw [AM (show ¬ k < m.c by have:=A4 h1; omega),vax]
     rw [this];rfl
    | false=>
     have hc:FA m k=true:=by unfold FA; rw [AE (show 0≤k by have:=A8 h0; omega),AE (show k < m.c by have:=A8 h1; omega)]; rfl
     rw [CS,hc];cases b.emp with
     | true=>rfl
     | false=>
      have hb:=UF hm k;have run:=d9 10 m.ts b k (G2 hm).2.2.1 m.ts.length 0 10 (H5 m k) (H5 m k) (by omega) (by have:=(G2 hm).2.2.1; omega) (by omega) (by omega);rw [CS];rcases WK hm hc with rfl | rfl | rfl <;> exact run
 ·simp [R.get] at h
theorem d8 (g:LI→Int) (hg:∀ l,-2147483648≤g l∧g l≤2147483648) (k:Int):∀ (ts:LI) (s:Int) (n:Nat),(-2147483648*(n:Int)≤s∧s≤2147483648*(n:Int)) → -2147483648*((n+ts.length:Nat):Int)≤I2 g k ts s∧I2 g k ts s≤2147483648*((n+ts.length:Nat):Int)
 | [],s,n,h=>by
  rw [I2];simpa using h
 | t :: r,s,n,h=>by
  rw [I2];have h1:=hg (D2 t)
  have:=d8 g hg k r (cond (OC t==k) (s+g (D2 t)) s) (n+1) (by cases (OC t==k) <;> simp only [BO,BB] <;> omega)
  rw [AT];rw [show n+1+r.length=n+(r.length+1) by omega] at this;exact this
theorem YC {m:Md} (k:Int) (b:Bx):(-34359738368≤EX m k b∧EX m k b≤34359738368)∧(-34359738368≤D6 m k b∧D6 m k b≤34359738368):=by
 unfold EX D6;cases hs:E9 m k b with
 | false=>simp only [BB]; omega
 | true=>
  unfold E9 at hs;simp only [AI] at hs;have hb:=UF hs.1 k;have h8:=(G2 hs.1).2.2.1;have h1:=d8 (fun l=>GS l b) (fun l=>by have:=IU (YR l b).1; omega) k m.ts (H5 m k) 1 (by omega);have h2:=d8 (fun l=>GR l b) (fun l=>by have:=IU (YR l b).2; omega) k m.ts (H5 m k) 1 (by omega);rw [CP,CP];omega
abbrev Nq (m:Md) (b:Bx) (k lo a:Int) (z:Bool) (i:Int):St:=⟨[(1,(.int .i64 k)),(3,(.ptr 3 0 0)),(5,(.ptr 5 0 0)),(6,(.int .i64 0)),(7,(.bool false)),(8,(.int .i64 lo)),(11,(.int .i64 a)),(12,(.bool z)),(33,(.int .i64 (Md.c m))),(34,(.int .i64 i))],[(3,(some (.box (Md.cs m)))),(5,(some (.box (Bx.cs b))))]⟩
theorem lZ (N:Nat) (m:Md) (b:Bx) (k:Int) (hc:0≤m.c∧m.c≤3) (lo:Int) (hlo : -34359738368≤lo∧lo≤34359738368):∀ (d i n:Nat) (a:Int) (z:Bool),((i+d:Nat):Int)=m.c→d < n →
  C4 (LD N) (CR NJ [1,1,1,1,0,1,0,0]) ⟨[1,3,5,6,7,8,11,12,33,34],[3,5],[]⟩ n (Nq m b k lo a z (i:Int)) (CY 0 (C0 (LD N) (CR NJ [1,1,1,1,1]) (C1 (LD N) none [(BD 6),(BD 7)] [[.z],[.bool]]))) =
   some (.tup [.int .i64 (K2 m k lo b d (i:Int) a z),.bool true],[])
 | d,i,0,_,_,_,h=>absurd h (by omega)
 | 0,i,n+1,a,z,hd,_=>by
  rw [DD,pM,AM (show ¬ (i:Int) < m.c by omega),CS];exact vU N m b _ _ _ _ _ _ _ _
 | d+1,i,n+1,a,z,hd,hn=>by
  have ei:AA AC ((i:Int)+1)=((i+1:Nat):Int):=FN (by omega);have hs:=(YC (m:=m) (i:Int) b).2;have ew:AA AC (lo - D6 m (i:Int) b)=lo - D6 m (i:Int) b:=DV (by omega) (by omega);have ec:(i:Int)+1=((i+1:Nat):Int):=by omega
  rw [DD,pM,ei,ew,AE (show (i:Int) < m.c by omega),CP,K2,ec];have ih:=fun a z=>lZ N m b k hc lo hlo d (i+1) n a z (by omega) (by omega)
  cases ((i:Int)==k) with
  | true=>exact ih a z
  | false=>
   rw [CS,CS];cases z with
   | false=>exact ih _ true
   | true=>
    rw [A5,CS,Bool.false_or];cases decide (lo - D6 m (i:Int) b < a) with
    | true=>exact ih _ true
    | false=>exact ih a true
theorem Jp:C5 PR B0 54 SM:=by
 refine DC [(53,MG)] [(6,⟨[1,3,5,6,7,8,11,12,33,34],[3,5],[]⟩)] SM [[.z],[.bool]] Tryz.func54 yD ⟨dP,trivial⟩ ?_;intro vs r hwf h;unfold SM at h;split at h
 ·rename_i m k b;replace h:=F8 h;obtain ⟨m,rfl,h⟩:=h;replace h:=FU h;obtain ⟨b,rfl,h⟩:=h;rw [R.get_ok] at h;refine ⟨10,?_⟩;rw [← h];refine (Cl 10 m k b).trans ?_;unfold U9 NX;cases hs:E9 m k b with
  | false=>rfl
  | true=>
   have hm:DX m=true:=by unfold E9 at hs; simp only [AI] at hs; exact hs.1
   have hc:=(G2 hm).2.1;rw [A5,CS];cases h2:decide (m.c < 2) with
   | true=>rw [AM (show ¬ m.c≥2 by have:=A4 h2; omega)]; rfl
   | false=>
    rw [AE (show m.c≥2 by have:=A8 h2; omega),CS];exact lZ 10 m b k (by omega) (EX m k b) (YC k b).1 m.c.toNat 0 10 0 false (by omega) (by omega)
 ·simp [R.get] at h
theorem Ks:C5 PR B0 56 TB:=by
 refine DC [(53,MG),(78,TC),(79,TF),(77,KS)] [] TB [[.z],[.z],[.bool]] Tryz.func56 zM ⟨dP,Kt,Kv,YI,trivial⟩ ?_;intro vs r hwf h;unfold TB at h;split at h
 ·rename_i m q b;replace h:=F8 h;obtain ⟨m,rfl,h⟩:=h;replace h:=FV h;obtain ⟨q,rfl,h⟩:=h;replace h:=FU h;obtain ⟨b,rfl,h⟩:=h;rw [R.get_ok] at h;refine ⟨0,?_⟩;rw [← h];refine (Dy 0 m q b).trans ?_;have h1:=YC (m:=m) q.c (I9 q b);have h2:=YC (m:=m) q.c (JI q b);rw [DV (n:=EX m q.c (JI q b) - D6 m q.c (I9 q b)) (by omega) (by omega),DV (n:=D6 m q.c (JI q b) - EX m q.c (I9 q b)) (by omega) (by omega)];unfold UL UK KW;cases EL q <;> cases E9 m q.c (I9 q b) <;> cases E9 m q.c (JI q b) <;> rfl
 ·simp [R.get] at h
theorem Kx:C5 PR B0 31 TG:=by
 refine DC [(54,SM),(53,MG),(52,KR),(56,TB),(55,TE),(29,MN)] [] TG [[.bool]] Tryz.func31 zR ⟨Jp,dP,YH,Ks,Ku,dW,trivial⟩ ?_;intro vs r hwf h;unfold TG at h;split at h
 ·rename_i m q b;replace h:=F8 h;obtain ⟨m,rfl,h⟩:=h;replace h:=FV h;obtain ⟨q,rfl,h⟩:=h;replace h:=FU h;obtain ⟨b,rfl,h⟩:=h;rw [R.get_ok] at h;refine ⟨0,?_⟩;rw [← h];refine (Ed 0 m q b).trans ?_;unfold FI;cases EI m q <;> cases b.emp <;> cases (q.k==1) <;> cases (q.k==2) <;> cases E9 m q.c b <;> cases decide (q.lo≤EX m q.c b) <;> cases NX m q.c b <;> cases RN q b <;> cases q.fl <;> cases KW m q b <;> rfl
 ·simp [R.get] at h
theorem Ky:C5 PR B0 32 TH:=by
 refine DC [(57,SO)] [] TH [[.z,.z,.z,.z],[.z]] Tryz.func32 zS ⟨Jr,trivial⟩ ?_;intro vs r hwf h;unfold TH at h;split at h
 ·rename_i b;replace h:=FU h;obtain ⟨b,rfl,h⟩:=h;rw [R.get_ok] at h;exact ⟨0,(Ee 0 b).trans h⟩
 ·simp [R.get] at h
theorem Lb:C5 PR B0 62 TL:=by
 refine DC [] [] TL [[.z]] Tryz.func62 zV trivial ?_;intro vs r hwf h;unfold TL at h;split at h
 ·rename_i q i;replace h:=FV h;obtain ⟨q,rfl,h⟩:=h;rw [R.get_ok] at h;refine ⟨0,?_⟩;rw [← h];refine (Eg 0 q i).trans ?_;unfold HL;cases decide (i≥0) <;> cases decide (i < 4) <;> cases (i==4) <;> cases (q.k==3) <;> rfl
 ·simp [R.get] at h
def Z1 (m:Md) (f:Int) (s:Sp):CU:=
 cond (decide (f < 0)) (some (.list false [.z] [],[]))
  (cond (DX m)
   (cond (AZ (iZ (G3 m.ts f)).length (iZ (G3 m.ts f)).length)
    (cond (BI (iZ (IC s.lo s.hi ((iZ (G3 m.ts f)).map IV.toInt))).length (iZ (G3 m.ts f)).length)
     (some (.list false [.z] (B5 0 (AU (iZ (IC s.lo s.hi ((iZ (G3 m.ts f)).map IV.toInt))).length (iZ (IC s.lo s.hi ((iZ (G3 m.ts f)).map IV.toInt))))),[])) none) none) none)
theorem vJ {m:Md} (hm:DX m=true) (f:Int) (s:Sp):Z1 m f s=some (.list false [.z] (iZ (cond (decide (f < 0)) [] (IC s.lo s.hi (G3 m.ts f)))),[]):=by
 unfold Z1;cases decide (f < 0) with
 | true=>rfl
 | false=>
  rw [CS,hm,CP,vbc,CP,aL,CS];have hle:(iZ (IC s.lo s.hi (G3 m.ts f))).length≤(iZ (G3 m.ts f)).length:=by
   rw [H9,H9];exact List.length_filter_le ..
  rw [BX hle,CP,CC,A9]
theorem Iw (m:Md) (q:Qy) (b:Bx):∀ i:Nat,i < 5→C6 (fA 0) ZO [.tmp 8] [[.list false [.z]]] [m.V,q.V,b.V,.int .i64 (i:Int)]=Z1 m (HL q (i:Int)) (b.g i)
 | 0,_=>by kernel_rfl
 | 1,_=>by kernel_rfl
 | 2,_=>by kernel_rfl
 | 3,_=>by kernel_rfl
 | 4,_=>by kernel_rfl
 | i+5,h=>absurd h (by omega)
abbrev lC:KP:=⟨[1,4,5,16,17,18],[500],[⟨(.tmp 5),500,3,false,[.z]⟩]⟩
abbrev lD:KP:=⟨[1,4,5,16,17,18,23,24,25],[500],[⟨(.tmp 5),500,3,false,[.z]⟩]⟩
abbrev Y3 (f:Int) (ts:LI) (i:Int) (W:LI) (j:Int) (O:LI):St:=
 ⟨[(1,(.int .i64 f)),(4,.zs),(5,(.row 500 0 O.length)),(16,(.list true EU ts)),(17,(.int .i64 (ic ts.length))),(18,(.int .i64 i)),(23,(.list false [(.int .u64)] W)),(24,(.int .i64 (ic W.length))),(25,(.int .i64 j))],[(500,(some (.row true 3 false [.z] O)))]⟩
theorem YV (N:Nat) (f:Int) (ts:LI) (i:Int) (W:LI) (hW:W.length≤31) (K:Out→St→CU):∀ (m j n:Nat) (O:LI),j+m=W.length→m < n→O.length+m≤1000 →
  C4 (JN N) (CR KD [1,1,1,0,1,0,0,1,1,0,0,1,1,0,0]) lD n (Y3 f ts i W (j:Int) O) K=K (.exit 2) (Y3 f ts i W (ic W.length) (O++iZ ((W.drop j).flatMap (LB f))))
 | m,j,0,_,_,h,_=>absurd h (by omega)
 | 0,j,n+1,O,hd,_,_=>by
  have hj:j=W.length:=by omega
  subst hj;rw [DD,qC,JB (AP _),CS,CE];show K (.exit 2) _=K (.exit 2) (Y3 f ts i W (ic W.length) (O++[]));rw [List.append_nil]
 | m+1,j,n+1,O,hd,hn,hO=>by
  have hj:j < W.length:=by omega
  have ej:AA AC ((j:Int)+1)=((j+1:Nat):Int):=FN (by omega);rw [DD,qC,ej,IB hj,CP,IA,BE,CP,IW hj,BC hj,vaY];unfold LB;cases (CQ (W[j]).toInt).lf with
  | true=>
   rw [A5,CS,BY,CS,List.nil_append];exact YV N f ts i W hW K m (j+1) n O (by omega) (by omega) (by omega)
  | false=>
   rw [BJ,CP,BH];cases ((CQ (W[j]).toInt).f==f) with
   | false=>
    rw [CS,CS,List.nil_append];exact YV N f ts i W hW K m (j+1) n O (by omega) (by omega) (by omega)
   | true=>
    rw [CP,CP,AE (show (O.length+1)*8≤DJ by unfold DJ; omega),CP,A9];have ih:=YV N f ts i W hW K m (j+1) n (O++[IV.int (CQ (W[j]).toInt).a]) (by omega) (by omega) (by rw [AQ,CK]; omega);rw [List.append_assoc] at ih;unfold Y3 at ih ⊢;rw [AQ,CK] at ih;exact ih
abbrev eY (f:Int) (ts:LI) (i:Int) (O:LI):St:=
 ⟨[(1,(.int .i64 f)),(4,.zs),(5,(.row 500 0 O.length)),(16,(.list true EU ts)),(17,(.int .i64 (ic ts.length))),(18,(.int .i64 i))],[(500,(some (.row true 3 false [.z] O)))]⟩
theorem eC (f:Int):∀ W:LI,(W.flatMap (LB f)).length≤W.length
 | []=>AP _
 | w :: r=>by
  rw [vaY,AQ,AT]
  have:=eC f r
  unfold LB at this ⊢;cases (!(CQ w.toInt).lf&&(CQ w.toInt).f==f) <;> simp only [BO,BB,B8,CK] <;> omega
theorem Nb {d c:Int} {t:IV} (h:GU d c t=true):(0≤OC t∧OC t < c)∧F7 (D2 t) d=true:=by
 unfold GU at h;simp only [AI,CF,CO] at h;exact ⟨⟨by show 0≤(t.cell 0).toInt; omega,by show (t.cell 0).toInt < c; omega⟩,h.2.2⟩
theorem rE {d c:Int} {ts:LI} (h:ts.all (GU d c)=true) {t:IV} (ht:t∈ts):(D2 t).length≤31:=by
 have:=(Nb (List.all_eq_true.1 h t ht)).2
 exact (R8 this).1.2
theorem q9 (N:Nat) (hN:40≤N) (f:Int) (ts:LI) (hts:ts.length≤8) (hW:∀ t∈ts,(D2 t).length≤31) (K:Out→St→CU):∀ (m i n:Nat) (O:LI),i+m=ts.length→m < n→O.length≤31*i →
  C4 (JN N) (CR KD [1,1,1,0,1,0,0]) lC n (eY f ts (i:Int) O) K=K (.exit 0) (eY f ts (ic ts.length) (O++iZ (IK (ts.drop i) f)))
 | m,i,0,_,_,h,_=>absurd h (by omega)
 | 0,i,n+1,O,hd,_,_=>by
  have hi:i=ts.length:=by omega
  subst hi;rw [DD,qB,JB (AP _),CS,CE];show K (.exit 0) _=K (.exit 0) (eY f ts (ic ts.length) (O++[]));rw [List.append_nil]
 | m+1,i,n+1,O,hd,hn,hO=>by
  have hi:i < ts.length:=by omega
  have ei:AA AC ((i:Int)+1)=((i+1:Nat):Int):=FN (by omega);have hw:=hW ts[i] (List.getElem_mem hi);have hl:=eC f (D2 ts[i]);rw [DD,qB,IB hi,CP,IA,BE,CP,IW hi,BC hi];refine (YV N f ts (i:Int) (D2 ts[i]) hw _ (D2 ts[i]).length 0 N O (by omega) (by omega) (by omega)).trans ?_;rw [wQ,ei,CC];have ih:=q9 N hN f ts hts hW K m (i+1) n (O++iZ ((D2 ts[i]).flatMap (LB f))) (by omega) (by omega) (by rw [AQ,H9]; omega);have e:IK (ts[i] :: ts.drop (i+1)) f=(D2 ts[i]).flatMap (LB f)++IK (ts.drop (i+1)) f:=by unfold IK; rw [vaY]
  rw [e];have e2:iZ ((D2 ts[i]).flatMap (LB f)++IK (ts.drop (i+1)) f)=iZ ((D2 ts[i]).flatMap (LB f))++iZ (IK (ts.drop (i+1)) f):=by unfold iZ; rw [List.map_append]
  rw [e2,← List.append_assoc];exact ih
theorem Lh:C5 PR B0 64 TO:=by
 refine o7 [(49,KT),(84,KU)] [(86,WZ),(85,W1)] [(5,lC),(8,lD)] TO [] Tryz.func64 z1 ⟨YJ,YK,trivial⟩ ⟨Lc,Le,trivial⟩ ?_;intro vs r hwf h;unfold TO at h;split at h
 ·rename_i m f;replace h:=F8 h;obtain ⟨m,rfl,h⟩:=h;cases hm:DX m with
  | false=>rw [hm] at h; simp [R.get] at h
  | true=>
   rw [hm,R.get_br,CP,R.get_ok] at h;refine ⟨40,?_⟩;rw [← h];refine (El 40 m f).trans ?_;have hmp:=G2 hm;rw [hm,A5,CS];refine (q9 40 (by omega) f m.ts hmp.2.2.1 (fun t ht=>rE hmp.2.2.2.2 ht) _ m.ts.length 0 40 [] (by omega) (by have:=hmp.2.2.1; omega) (B3 _)).trans ?_;rw [CC,List.nil_append,wP,vbc,CP,aL];have e1:(iZ (HR (IK m.ts f))).length=(iZ (IK m.ts f)).length:=by rw [H9,H9]; exact (OA _).length_eq
   have e2:(iZ (GE (HR (IK m.ts f)))).length≤(iZ (IK m.ts f)).length:=by rw [← e1,H9,H9]; exact ZZ _
   rw [e1,vbc,CP,CP,aL,BX e2,CP,A9];rfl
 ·simp [R.get] at h
theorem La:C5 PR B0 37 TK:=by
 refine o7 [(62,TL),(64,TO)] [(63,W0)] [] TK [[.list false [.z]]] Tryz.func37 zU ⟨Lb,Lh,trivial⟩ ⟨Ld,trivial⟩ ?_;intro vs r hwf h;unfold TK at h;split at h
 ·rename_i m q b i;replace h:=F8 h;obtain ⟨m,rfl,h⟩:=h;replace h:=FV h;obtain ⟨q,rfl,h⟩:=h;replace h:=FU h;obtain ⟨b,rfl,h⟩:=h;cases hg:(DX m&&E3 i) with
  | false=>rw [hg] at h; simp [R.get] at h
  | true=>
  rw [hg,R.get_br,CP,R.get_ok] at h;rw [AI] at hg;refine ⟨0,?_⟩;rw [← h];have key:∀ k:Nat,k < 5→C6 (fA 0) ZO [.tmp 8] [[.list false [.z]]] [m.V,q.V,b.V,.int .i64 (k:Int)]=some (.list false [.z] (iZ (EB m q b k)),[]):=fun k hk=>by
   rw [Iw m q b k hk,vJ hg.1];rfl
  rcases kO hg.2 with rfl | rfl | rfl | rfl | rfl
  ·exact key 0 (by omega)
  ·exact key 1 (by omega)
  ·exact key 2 (by omega)
  ·exact key 3 (by omega)
  ·exact key 4 (by omega)
 ·simp [R.get] at h
abbrev Nr (m:Md) (q:Qy) (b:Bx) (i:Int):St:=⟨[(3,(.ptr 3 0 0)),(4,(.ptr 4 0 0)),(5,(.ptr 5 0 0)),(6,(.int .i64 0)),(7,(.int .i64 0)),(8,(.bool false)),(11,(.int .i64 i))],[(3,(some (.box (Md.cs m)))),(4,(some (.box (Qy.cs q)))),(5,(some (.box (Bx.cs b))))]⟩
theorem jL {m:Md} (hm:DX m=true) (q:Qy) (b:Bx) (i:Nat):(EB m q b i).length≤248:=by
 have key:∀ (ts:LI) (f:Int),(∀ t∈ts,(D2 t).length≤31)→(IK ts f).length≤31*ts.length:=by
  intro ts f
  induction ts with
  | nil=>intro _; exact AP _
  | cons t r ih=>
   intro ht;have h1:=ih fun u hu=>ht u (AY _ hu)
   have h2:=eC f (D2 t);have h3:=ht t (AS ..);unfold IK at h1 ⊢;rw [vaY,AQ,AT];omega
 have hmp:=G2 hm;have h1:=key m.ts (HL q (i:Int)) fun t ht=>rE hmp.2.2.2.2 ht
 unfold EB;cases decide (HL q (i:Int) < 0) with
 | true=>exact B3 _
 | false=>
  rw [CS];have h2:(IC (b.g i).lo (b.g i).hi (G3 m.ts (HL q (i:Int)))).length≤(G3 m.ts (HL q (i:Int))).length:=List.length_filter_le ..
  have h3:(G3 m.ts (HL q (i:Int))).length≤(IK m.ts (HL q (i:Int))).length:=by
   unfold G3;exact vaj (ZZ _) (Nat.le_of_eq (OA _).length_eq)
  have:=hmp.2.2.1
  omega
theorem pJ (N:Nat) (m:Md) (hm:DX m=true) (q:Qy) (b:Bx):∀ (d i n:Nat),i+d=5→d < n →
  C4 (J9 N) (CR MQ [1,0,1,0,0]) ⟨[3,4,5,6,7,8,11],[3,4,5],[]⟩ n (Nr m q b (i:Int)) (CY 0 (C0 (J9 N) (CR MQ [1,1]) (C1 (J9 N) none [(BD 6),(BD 7),(BD 8)] [[.z],[.z],[.bool]]))) =
   some (.tup [.int .i64 (E1 (HD m q b d i)),.int .i64 (FG (HD m q b d i)),.bool (HD m q b d i).isSome],[])
 | d,i,0,_,h=>absurd h (by omega)
 | 0,i,n+1,hd,_=>by
  have hi:i=5:=by omega
  subst hi;rw [DD,p8,AM (show ¬ ((5:Nat):Int) < 5 by omega),CS];exact wK N m q b _ _ _ _
 | d+1,i,n+1,hd,hn=>by
  have hp:E3 (i:Int)=true:=by unfold E3; rw [AE (show (0:Int)≤(i:Int) by omega),AE (show (i:Int) < 5 by omega)]; rfl
  have ei:AA AC ((i:Int)+1)=((i+1:Nat):Int):=FN (by omega);have hc:=jL hm q b i;rw [DD,p8,ei,AE (show (i:Int) < 5 by omega),CP,hm,hp,BE,CP,BL,HD,H9];generalize EB m q b i=cs at hc ⊢;have ed:decide (ic cs.length > 0)=decide (cs.length > 0):=by rw [vaW]; simp
  rw [ed];cases hpos:decide (cs.length > 0) with
  | true=>
   have hpos:=A4 hpos;have ew:AA AC (Int.tdiv (AA AC (ic cs.length - 1)) 2)=(((cs.length - 1) / 2:Nat):Int):=by
    have e1:AA AC (ic cs.length - 1)=((cs.length - 1:Nat):Int):=by rw [DV (by simp only [ic]; omega) (by simp only [ic]; omega)]; simp only [ic]; omega
    have e2:Int.tdiv ((cs.length - 1:Nat):Int) 2=(((cs.length - 1) / 2:Nat):Int):=by
     rw [Int.tdiv_eq_ediv_of_nonneg (by omega)];omega
    rw [e1,e2,DV (by omega) (by omega)]
   have hlt:(cs.length - 1) / 2 < cs.length:=by omega
   rw [CP,ew,IA,AE (show (((cs.length - 1) / 2:Nat):Int) < ic cs.length by simp only [ic]; omega),BE,CP,CP,BL];have eg:IV.toInt (AG (iZ cs) ((cs.length - 1) / 2) default)=cs.getD ((cs.length - 1) / 2) 0:=by
    unfold iZ;rw [BG,BG,BZ,AV hlt];rfl
   rw [eg];exact wL N m q b _ _ _ _
  | false=>
   rw [CS,CS];exact pJ N m hm q b d (i+1) n (by omega) (by omega)
theorem Kz:C5 PR B0 34 TJ:=by
 refine DC [(37,TK)] [(2,⟨[3,4,5,6,7,8,11],[3,4,5],[]⟩)] TJ [[.z],[.z],[.bool]] Tryz.func34 zT ⟨La,trivial⟩ ?_;intro vs r hwf h;unfold TJ at h;split at h
 ·rename_i m q b;replace h:=F8 h;obtain ⟨m,rfl,h⟩:=h;replace h:=FV h;obtain ⟨q,rfl,h⟩:=h;replace h:=FU h;obtain ⟨b,rfl,h⟩:=h;cases hg:(DX m) with
  | false=>rw [hg] at h; simp [R.get] at h
  | true=>
  rw [hg,R.get_br,CP,R.get_ok] at h;refine ⟨10,?_⟩;rw [← h];exact (Ef 10 m q b).trans (pJ 10 m hg q b 5 0 10 rfl (by omega))
 ·simp [R.get] at h
open Go
theorem Mb {s:Sp}:s.emp=false↔s.lo≤s.hi:=by
 unfold Sp.emp;rw [CO];omega
theorem gA {b:Bx}:b.emp=false↔∀ i,i < 5→(b.g i).lo≤(b.g i).hi:=by
 unfold Bx.emp;simp only [vaE,Mb];constructor
 ·rintro ⟨h0,h1,h2,h3,h4⟩ i hi
  match i,hi with
  | 0,_=>exact h0
  | 1,_=>exact h1
  | 2,_=>exact h2
  | 3,_=>exact h3
  | 4,_=>exact h4
  | i+5,h=>exact absurd h (by omega)
 ·intro h;exact ⟨h 0 (by omega),h 1 (by omega),h 2 (by omega),h 3 (by omega),h 4 (by omega)⟩
theorem uI (b:Bx) (s:Sp):∀ {i j:Nat},i < 5→j < 5→(b.p s i).g j=if j=i then s else b.g j
 | 0,0,_,_=>rfl
 | 0,1,_,_=>rfl
 | 0,2,_,_=>rfl
 | 0,3,_,_=>rfl
 | 0,4,_,_=>rfl
 | 1,0,_,_=>rfl
 | 1,1,_,_=>rfl
 | 1,2,_,_=>rfl
 | 1,3,_,_=>rfl
 | 1,4,_,_=>rfl
 | 2,0,_,_=>rfl
 | 2,1,_,_=>rfl
 | 2,2,_,_=>rfl
 | 2,3,_,_=>rfl
 | 2,4,_,_=>rfl
 | 3,0,_,_=>rfl
 | 3,1,_,_=>rfl
 | 3,2,_,_=>rfl
 | 3,3,_,_=>rfl
 | 3,4,_,_=>rfl
 | 4,0,_,_=>rfl
 | 4,1,_,_=>rfl
 | 4,2,_,_=>rfl
 | 4,3,_,_=>rfl
 | 4,4,_,_=>rfl
 | i+5,_,h,_=>absurd h (by omega)
 | _,j+5,_,h=>absurd h (by omega)
def Bx.ok (b:Bx):Prop:=∀ i,i < 5→(b.g i).hi≤2147483647
abbrev nd (l:LI) (i:Nat):Nd:=CQ (l.getD i default).toInt
def XU (l:LI) (k j:Nat):Prop:=(nd l k).lf=false∧((nd l k).l=(j:Int)∨(nd l k).r=(j:Int))
structure TreeOK (l:LI):Prop where
 len:1≤l.length∧l.length≤31
 node:∀ k,k < l.length→ES (l.getD k default).toInt=true
 KH:∀ k,k < l.length→(nd l k).lf=false→(0≤(nd l k).f∧(nd l k).f < 4)∧DL (nd l k).a=true∧((k:Int) < (nd l k).l∧(nd l k).l < ic l.length)∧((k:Int) < (nd l k).r∧(nd l k).r < ic l.length)∧(nd l k).l≠(nd l k).r
 parent:∀ j,1≤j→j < l.length→∃ k,k < l.length∧XU l k j
 alone:∀ j k k',1≤j→j < l.length→k < l.length→k' < l.length→XU l k j→XU l k' j→k=k'
def Nj (l:LI) (p:Pt) (i:Nat):Int:=(FR l p 31 (i:Int)).2.v
def fr (l:LI) (i j:Nat):Prop:=i≤j∧j < l.length∧(j=0∨∃ k,k < i∧XU l k j)
open Go
theorem ZY {x:Int}:∀ {l:List Int} {p:Int},x∈l→x=p∨x∈G6 p l
 | y :: r,p,h=>by
  rw [G6];cases hb:(y==p) with
  | true=>
   have hb:=BR.1 hb;rw [CP];rcases AR.1 h with h | h
   ·exact .inl (h.trans hb)
   ·rcases ZY (p:=y) h with h1 | h1
    ·exact .inl (h1.trans hb)
    ·exact .inr h1
  | false=>
   rw [CS];rcases AR.1 h with h | h
   ·exact .inr (h ▸ AS ..)
   ·rcases ZY (p:=y) h with h1 | h1
    ·exact .inr (h1 ▸ AS ..)
    ·exact .inr (AY _ h1)
theorem vB {x:Int} {l:List Int} (h:x∈l):x∈GE l:=by
 cases l with
 | nil=>cases h
 | cons y r=>
  rw [GE];rcases AR.1 h with h | h
  ·exact h ▸ AS ..
  ·rcases ZY (p:=y) h with h1 | h1
   ·exact h1 ▸ AS ..
   ·exact AY _ h1
theorem q8 {ts:LI} {f a:Int}:a∈G3 ts f↔∃ t∈ts,∃ w∈D2 t,(CQ w.toInt).lf=false∧(CQ w.toInt).f=f∧(CQ w.toInt).a=a:=by
 have e:a∈G3 ts f↔a∈IK ts f:=by
  unfold G3;exact ⟨fun h=>(OA _).mem_iff.1 (jH h),fun h=>vB ((OA _).mem_iff.2 h)⟩
 rw [e];unfold IK;simp only [List.mem_flatMap];constructor
 ·rintro ⟨t,ht,w,hw,h⟩;unfold LB at h;cases hc:(!(CQ w.toInt).lf&&(CQ w.toInt).f==f) with
  | false=>rw [hc,CS] at h; cases h
  | true=>
   rw [hc,CP] at h;simp only [AI,CF,BR] at hc;exact ⟨t,ht,w,hw,hc.1,hc.2,(vaz.1 h).symm⟩
 ·rintro ⟨t,ht,w,hw,h1,h2,h3⟩;refine ⟨t,ht,w,hw,?_⟩;unfold LB;rw [h1,h2,CH];exact vaz.2 h3.symm
theorem Bk {lo hi a:Int} {l:List Int}:a∈IC lo hi l↔a∈l∧lo≤a∧a < hi:=by
 unfold IC;rw [List.mem_filter];simp only [CF,vaE,CO];constructor
 ·rintro ⟨h,h1,h2⟩; exact ⟨h,by omega,by omega⟩
 ·rintro ⟨h,h1,h2⟩; exact ⟨h,by omega,by omega⟩
theorem jM {m:Md} {q:Qy} {b:Bx} {i:Nat} {a:Int}:a∈EB m q b i↔0≤HL q (i:Int)∧a∈G3 m.ts (HL q (i:Int))∧(b.g i).lo≤a∧a < (b.g i).hi:=by
 unfold EB;cases hd:decide (HL q (i:Int) < 0) with
 | true=>
  have:=A4 hd
  rw [CP];constructor
  ·intro h; cases h
  ·rintro ⟨h,_⟩; omega
 | false=>
  have:=A8 hd
  rw [CS,Bk];constructor
  ·intro h; exact ⟨by omega,h⟩
  ·exact fun h=>h.2
theorem Hs {m:Md} {q:Qy} (hm:DX m=true) (hk:q.k=3) (hf:0≤q.ft∧q.ft < m.d):EL q=true:=by
 have:=(G2 hm).1
 unfold EL;rw [hk,AE (show q.ft≥0 by omega),AE (show q.ft < 4 by omega)];rfl
theorem pI {m:Md} {q:Qy} {b:Bx}:∀ (d i:Nat),(HD m q b d i).isSome=true→∃ j:Nat,i≤j∧j < i+d∧E1 (HD m q b d i)=(j:Int)∧0 < (EB m q b j).length∧FG (HD m q b d i)=(EB m q b j).getD (((EB m q b j).length - 1) / 2) 0∧∀ k,i≤k→k < j→EB m q b k=[]
 | 0,i,h=>by rw [HD] at h; cases h
 | d+1,i,h=>by
  rw [HD] at h ⊢;cases hc:decide ((EB m q b i).length > 0) with
  | true=>exact ⟨i,AP _,by omega,rfl,A4 hc,rfl,fun k h1 h2=>absurd h1 (by omega)⟩
  | false=>
   rw [hc,CS] at h;rw [CS];have hc:=A8 hc;obtain ⟨j,h1,h2,h3,h4,h5,h6⟩:=pI d (i+1) h;refine ⟨j,by omega,by omega,h3,h4,h5,fun k hk1 hk2=>?_⟩;by_cases e:k=i
   ·subst e;exact List.length_eq_zero_iff.1 (by omega)
   ·exact h6 k (by omega) hk2
theorem Me {m:Md} {q:Qy} {b:Bx} (h:(DF m q b).isSome=true):∃ j:Nat,j < 5∧E1 (DF m q b)=(j:Int)∧0 < (EB m q b j).length∧FG (DF m q b)=(EB m q b j).getD (((EB m q b j).length - 1) / 2) 0∧FG (DF m q b)∈EB m q b j:=by
 obtain ⟨j,_,h2,h3,h4,h5,_⟩:=pI 5 0 h;refine ⟨j,by omega,h3,h4,h5,?_⟩;have hlt:((EB m q b j).length - 1) / 2 < (EB m q b j).length:=by omega
 have:FG (DF m q b)=(EB m q b j)[((EB m q b j).length - 1) / 2]:=by
  refine Eq.trans h5 ?_;simp [hlt]
 rw [this];exact List.getElem_mem hlt
open Go
def Bx.good (b:Bx):Prop:=∀ i,i < 5 → -2147483648≤(b.g i).lo∧(b.g i).lo≤(b.g i).hi∧(b.g i).hi≤2147483647
theorem Bx.good.emp {b:Bx} (h:b.good):b.emp=false:=gA.2 fun i hi=>(h i hi).2.1
theorem Bx.good.ok {b:Bx} (h:b.good):b.ok:=fun i hi=>(h i hi).2.2
def Sp.good (s:Sp):Prop := -2147483648≤s.lo∧s.lo≤s.hi∧s.hi≤2147483647
theorem RX {m:Md} {q:Qy} (h:EI m q=true):DX m=true∧(0≤q.c∧q.c < m.c)∧(0≤q.bu∧q.bu≤65536)∧P6 q.bx m.d=true∧JC m q=true:=by
 unfold EI at h;simp only [AI,AO] at h;exact ⟨h.1,⟨h.2.1,h.2.2.1⟩,⟨h.2.2.2.1,h.2.2.2.2.1⟩,h.2.2.2.2.2.1,h.2.2.2.2.2.2⟩
theorem Nl (n lo hi:Int) (h:lo≤hi) (h0 : -2000000000000000000≤lo) (h1:hi≤2000000000000000000):lo≤CX n lo hi∧CX n lo hi≤hi:=
 (I3 (n:=n) (lo:=lo) (hi:=hi) (by omega) (by omega) (by omega)).2
theorem tS (f:Ft):XY f.M=true:=by
 have hd:1≤f.M.d∧f.M.d≤3:=vN f.d;have hc:1≤f.M.c∧f.M.c≤3:=u9 f.c;unfold XY;rw [AE hd.1,AE (show f.M.d≤4 by omega),AE hc.1,AE hc.2];rfl
open Go
abbrev eQ (x:IV):Int:=cI x 0
def eR (x:IV):Bx:=⟨⟨cI x 1,cI x 2⟩,⟨cI x 3,cI x 4⟩,⟨cI x 5,cI x 6⟩,⟨cI x 7,cI x 8⟩,⟨cI x 9,cI x 10⟩⟩
structure En where
 todo:LI
 lo:Int
 hi:Int
 any:Bool
structure EnI (l:LI) (b:Bx) (e:En):Prop where
 at_:∀ (j:Nat) (x:IV),e.todo[j]?=some x→(j:Int)≤eQ x∧eQ x < ic l.length
 ok:∀ x∈e.todo,(eR x).ok
 val:∀ x∈e.todo,∀ p t,(eR x).has p t=true→b.has p t=true∧HG l p=Nj l p (eQ x).toNat
 all:∀ p t,b.has p t=true→(∃ x∈e.todo,(eR x).has p t=true)∨(e.any=true∧e.lo≤HG l p∧HG l p≤e.hi)
 lo:e.any=true→∃ p t,b.has p t=true∧HG l p=e.lo
 hi:e.any=true→∃ p t,b.has p t=true∧HG l p=e.hi
theorem EnI.depth {l:LI} (ht:TreeOK l) {b:Bx} {e:En} (h:EnI l b e):e.todo.length≤31:=by
 by_cases hc:e.todo.length≤31
 ·exact hc
 ·obtain ⟨x,hx⟩:∃ x,e.todo[31]?=some x:=⟨_,AV (by omega)⟩
  have:=h.at_ 31 x hx
  have h2:=ht.len.2;simp only [ic] at this;omega
open Go
open Go
open Go
open Go
open Go
open Go
open Go
theorem jF:∀ (l:List Int) (p:Int),(p :: l).Pairwise (·≤·)→(G6 p l).Pairwise (· < ·)∧∀ y∈G6 p l,p < y
 | [],p,_=>by simp [G6]
 | x :: r,p,h=>by
  have hpx:p≤x:=List.rel_of_pairwise_cons h (AS ..);have ih:=jF r x (vbo h);rw [G6];cases hx:x==p with
  | true=>
   have:x=p:=by simpa using hx
   subst this;exact ih
  | false=>
   have hne:x≠p:=by simpa using hx
   rw [CS];refine ⟨List.Pairwise.cons (fun y hy=>ih.2 y hy) ih.1,fun y hy=>?_⟩;rcases AR.1 hy with rfl | hy
   ·omega
   ·have:=ih.2 y hy
    omega
theorem vC {l:List Int} (h:l.Pairwise (·≤·)):(GE l).Pairwise (· < ·):=by
 cases l with
 | nil=>simp [GE]
 | cons x r=>
  rw [GE]
  have:=jF r x h
  exact List.Pairwise.cons (fun y hy=>this.2 y hy) this.1
theorem vL (m:Md) (q:Qy) (b:Bx) (i:Nat):(EB m q b i).Pairwise (· < ·):=by
 unfold EB;cases decide (HL q (i:Int) < 0) with
 | true=>simp
 | false=>
  rw [CS];unfold IC G3;exact (vC (dX _)).filter _
open Go
theorem U4 (j:Int) (x:IV) (r:List (Int × IV)) (k:Int):MZ ((j,x) :: r) k=cond (j==k) (some x) (MZ r k):=by
 unfold MZ;rw [EF];cases j==k <;> rfl
theorem XM (j:Int) (y:IV) (r:List (Int × IV)) (k:Int) (x:IV):E6 ((j,y) :: r) k x=cond (j==k) ((j,x) :: r) ((j,y) :: E6 r k x):=by
 unfold E6;rw [EF];cases j==k with
 | true=>rfl
 | false=>
  have e:A2 (EF r k+1) (((j,y) :: r).length)=A2 (EF r k) r.length:=by
   rw [AT,vaW,Nat.blt_eq,Nat.blt_eq];omega
  simp only [BB];rw [e];cases A2 (EF r k) r.length <;> rfl
theorem lT (k:Int) (x:IV) (j:Int):∀ es:List (Int × IV),MZ (E6 es k x) j=cond (k==j) (some x) (MZ es j)
 | []=>by
  show MZ [(k,x)] j=_;rw [U4]
 | (i,y) :: r=>by
  rw [XM];by_cases hi:i=k
  ·subst hi;rw [CH,BO,U4,U4];cases i==j <;> rfl
  ·have e:(i==k)=false:=by simpa using hi
   rw [e,BB,U4,lT k x j r,U4];by_cases hj:i=j
   ·subst hj;have e2:(k==i)=false:=by simpa using fun h:k=i=>hi h.symm
    rw [CH,BO,e2,BB,BO]
   ·have e2:(i==j)=false:=by simpa using hj
    rw [e2,BB,BB]
theorem bL (vk:Kd) (es:List (Int × IV)) (k:Int) (x:IV) (j:Int):GQ vk (E6 es k x) j=cond (k==j) x (GQ vk es j):=by
 unfold GQ;rw [lT];cases k==j <;> rfl
theorem Bu (vk:Kd) (j:Int):GQ vk [] j=IM vk:=rfl
def D7 (es:List (Int × IV)):List Int:=es.map Prod.fst
theorem aY {k:Int} {x:IV} {j:Int}:∀ {es:List (Int × IV)},j∈D7 (E6 es k x)↔j=k∨j∈D7 es
 | []=>by simp [D7,E6,EF,A2,BI]
 | (i,y) :: r=>by
  rw [XM];by_cases hi:i=k
  ·subst hi;rw [CH,BO];simp only [D7,A6,AR];constructor
   ·intro h; exact .inr h
   ·rintro (h | h)
    ·exact .inl h
    ·exact h
  ·have e:(i==k)=false:=by simpa using hi
   have ih:=aY (k:=k) (x:=x) (j:=j) (es:=r);rw [e,BB];simp only [D7,A6,AR] at ih ⊢;rw [ih];constructor
   ·rintro (h | h | h)
    ·exact .inr (.inl h)
    ·exact .inl h
    ·exact .inr (.inr h)
   ·rintro (h | h | h)
    ·exact .inr (.inl h)
    ·exact .inl h
    ·exact .inr (.inr h)
theorem k8 {k:Int} {x:IV}:∀ {es:List (Int × IV)},(D7 es).Nodup→(D7 (E6 es k x)).Nodup
 | [],_=>by
  have e:E6 [] k x=[(k,x)]:=rfl;rw [e];simp [D7]
 | (i,y) :: r,h=>by
  have h':i ∉ D7 r∧(D7 r).Nodup:=by simpa [D7] using h
  rw [XM];by_cases hi:i=k
  ·subst hi;rw [CH,BO];exact h
  ·have e:(i==k)=false:=by simpa using hi
   rw [e,BB];have hn:=k8 (k:=k) (x:=x) h'.2;have hm:i ∉ D7 (E6 r k x):=fun hh=>by
    rcases aY.1 hh with hh | hh
    ·exact hi hh
    ·exact h'.1 hh
   show (i :: D7 (E6 r k x)).Nodup;exact List.nodup_cons.2 ⟨hm,hn⟩
theorem jS:∀ (es:List (Int × IV)) (i:Nat),i < es.length→(∀ j,j∈D7 es↔j=(E7 es i).1∨j∈D7 (GN es i))∧((D7 es).Nodup→(E7 es i).1 ∉ D7 (GN es i)∧(D7 (GN es i)).Nodup)∧(GN es i).length+1=es.length
 | [],i,h=>absurd h (Nat.not_lt_zero i)
 | (j,x) :: r,0,_=>⟨fun k=>by simp [D7,E7,GN],fun h=>by
   have h':j ∉ D7 r∧(D7 r).Nodup:=by simpa [D7] using h
   exact h',rfl⟩
 | (j,x) :: r,i+1,h=>by
  obtain ⟨h1,h2,h3⟩:=jS r i (by simpa using h);refine ⟨fun k=>?_,fun hn=>?_,?_⟩
  ·have:=h1 k
   simp only [D7,A6,AR,E7,GN] at this ⊢;rw [this];constructor
   ·rintro (h | h | h)
    ·exact .inr (.inl h)
    ·exact .inl h
    ·exact .inr (.inr h)
   ·rintro (h | h | h)
    ·exact .inr (.inl h)
    ·exact .inl h
    ·exact .inr (.inr h)
  ·have hn:j ∉ D7 r∧(D7 r).Nodup:=by simpa [D7] using hn
   obtain ⟨g1,g2⟩:=h2 hn.2;have hj:j ∉ D7 (GN r i):=fun hh=>hn.1 ((h1 j).2 (.inr hh))
   have hne:(E7 r i).1≠j:=fun hh=>hn.1 ((h1 j).2 (.inl hh.symm))
   refine ⟨?_,?_⟩
   ·show (E7 r i).1 ∉ j :: D7 (GN r i);rw [AR,not_or];exact ⟨hne,g1⟩
   ·show (j :: D7 (GN r i)).Nodup;exact List.nodup_cons.2 ⟨hj,g2⟩
  ·show ((j,x) :: GN r i).length+1=_;rw [AT,AT,h3]
theorem n0:∀ {a b:List Int},a.Pairwise (· < ·)→b.Pairwise (· < ·)→(∀ x,x∈a↔x∈b)→a=b
 | [],[],_,_,_=>rfl
 | [],y :: s,_,_,h=>absurd ((h y).2 (AS ..)) (by simp)
 | x :: r,[],_,_,h=>absurd ((h x).1 (AS ..)) (by simp)
 | x :: r,y :: s,ha,hb,h=>by
  have h1:∀ z∈r,x < z:=fun z hz=>List.rel_of_pairwise_cons ha hz
  have h2:∀ z∈s,y < z:=fun z hz=>List.rel_of_pairwise_cons hb hz
  have hx:=(h x).1 (AS ..);have hy:=(h y).2 (AS ..);have e:x=y:=by
   rcases AR.1 hx with hx | hx
   ·exact hx
   ·rcases AR.1 hy with hy | hy
    ·exact hy.symm
    ·have:=h1 y hy
     have:=h2 x hx
     omega
  subst e;rw [n0 (vbo ha) (vbo hb) fun z=>?_];have hz:=h z;rw [AR,AR] at hz;constructor
  ·intro hh
   have:=h1 z hh
   rcases hz.1 (.inr hh) with g | g
   ·omega
   ·exact g
  ·intro hh
   have:=h2 z hh
   rcases hz.2 (.inr hh) with g | g
   ·omega
   ·exact g
theorem Ii {L:List Int} {t:Int} {k:Nat} (h:L.Pairwise (· < ·)) (h1:∀ x∈L.take k,x < t) (h2:∀ x∈L.drop k,t < x):(L.take k++t :: L.drop k).Pairwise (· < ·):=by
 rw [List.pairwise_append];refine ⟨h.sublist (List.take_sublist ..),List.Pairwise.cons h2 (h.sublist (List.drop_sublist ..)),fun a ha b hb=>?_⟩
 have:=h1 a ha
 rcases AR.1 hb with rfl | hb
 ·exact this
 ·have:=h2 b hb
  omega
theorem kS {L:List Int} {t:Int} {k:Nat} (x:Int):x∈L.take k++t :: L.drop k↔x=t∨x∈L:=by
 have e:x∈L↔x∈L.take k∨x∈L.drop k:=by
  rw [← AW,List.take_append_drop]
 rw [AW,AR,e];constructor
 ·rintro (h | h | h)
  ·exact .inr (.inl h)
  ·exact .inl h
  ·exact .inr (.inr h)
 ·rintro (h | h | h)
  ·exact .inr (.inl h)
  ·exact .inl h
  ·exact .inr (.inr h)
theorem xR (n k:Nat):((n:Int)).fdiv (k:Int)=((n / k:Nat):Int):=by
 rw [vat _ (by omega)];rfl
theorem Mz {w:Int} (h0:0≤w) (h1:w < 18446744073709551616):(EO w 63 1==0)=!(w.fdiv 9223372036854775808==1):=by
 obtain ⟨n,rfl⟩:=Int.eq_ofNat_of_zero_le h0;have e:((n:Int)).fdiv 9223372036854775808=((n / 9223372036854775808:Nat):Int):=xR n 9223372036854775808;have e1:EO (n:Int) 63 1=EG ((n:Int).fdiv 9223372036854775808) 1:=rfl;rw [e1,e];have hlt:n / 9223372036854775808 < 2:=by omega
 generalize n / 9223372036854775808=d at hlt;have hd:d=0∨d=1:=by omega
 rcases hd with rfl | rfl <;> decide
theorem Nn {n:Int} (h0:0≤n) (h1:n < 2147483648):GW n=n:=by
 unfold GW;rw [show CZ (n*2 ^ 32)=n*2 ^ 32 from DV (by omega) (by omega),vat _ (by omega)];omega
theorem Nm {n:Int} (h0:2147483648≤n) (h1:n≤4294967295):GW n=n - 4294967296:=by
 unfold GW;have e:CZ (n*2 ^ 32)=n*2 ^ 32 - 18446744073709551616:=by
  have key:∀ z:Int,9223372036854775808≤z→z < 18446744073709551616→AA AC z=z - 18446744073709551616:=fun z h2 h3=>by
   have h4:z % 2 ^ AC.bits=z:=by show z % 2 ^ 64=z; omega
   unfold AA;simp only [h4];rw [show (AC.signed&&decide (z≥2 ^ (AC.bits - 1)))=true by
    rw [AE (show z≥2 ^ (AC.bits - 1) by show z≥2 ^ 63; omega)]; rfl,B1 rfl]
   rfl
  exact key _ (by omega) (by omega)
 rw [e,vat _ (by omega)];omega
open Go Go.Proofs
def sN (N:Nat):Env:=DB [] [] 31 N
theorem Dm (N:Nat) (n w:Int):C6 (sN N) gX [.tmp 4] [[.z]] [.i n,.i w] =
 (cond (decide (w < 1))
 (some ((.i n),[]))
 (cond (decide (w > 63))
 (some ((.i n),[]))
 (cond (decide (w < 0))
 none
 (cond (decide (AA AC (w - 1) < 0))
 none
 (cond (CB (AA AH (ic (BS (AN (AJ AH) (AA AH n) &&& AN (AJ AH) (AA AH (AA AH (1*2 ^ min (AD w) (AJ AH)) - 1)))))) (2 ^ min (AD (AA AC (w - 1))) (AJ AH))==1)
 (cond (decide (w < 0))
 none
 (some ((.i (AA AC (AA AC (AA AH (ic (BS (AN (AJ AH) (AA AH n) &&& AN (AJ AH) (AA AH (AA AH (1*2 ^ min (AD w) (AJ AH)) - 1)))))) - AA AC (1*2 ^ min (AD w) (AJ AC))))),[])))
 (some ((.i (AA AC (AA AH (ic (BS (AN (AJ AH) (AA AH n) &&& AN (AJ AH) (AA AH (AA AH (1*2 ^ min (AD w) (AJ AH)) - 1)))))))),[]))))))):=by kernel_rfl
def sM (N:Nat):Env:=DB [] [] 24 N
theorem Dl (N:Nat) (a b:Sp):C6 (sM N) gW [.cell 4 29] [[.z,.z]] [(Sp.V a),(Sp.V b)] =
 (cond (decide (max (Sp.lo a) (Sp.lo b) > min (Sp.hi a) (Sp.hi b)))
 (some ((.agg [.i 1,.i 0]),[]))
 (some ((.agg [.i (max (Sp.lo a) (Sp.lo b)),.i (min (Sp.hi a) (Sp.hi b))]),[]))):=by kernel_rfl
def sQ (N:Nat):Env:=DB [(89,S7),(40,ML),(66,OX)] [] 42 N
theorem Dv (N:Nat) (w:Int):C6 (sQ N) g6 [.cell 2 89,.tmp 3] [[.bool,.z,.z,.z,.z,.z],[.bool]] [.int .u64 w] =
 (cond (CB w (2 ^ min (AD 63) (AJ AH))==1)
 (cond (decide (32=32)&&(decide (0≤AA AC (AA AH (ic (BS (AN (AJ AH) w &&& AN (AJ AH) 4294967295)))))&&decide (AA AC (AA AH (ic (BS (AN (AJ AH) w &&& AN (AJ AH) 4294967295))))≤4294967295)))
 (cond (!K6 true (GW (AA AC (AA AH (ic (BS (AN (AJ AH) w &&& AN (AJ AH) 4294967295)))))) 0 0 0 0)
 (some ((.tup [.agg [.bool false,.i 0,.i 0,.i 0,.i 0,.i 0],.bool false]),[]))
 (cond (G9 true (GW (AA AC (AA AH (ic (BS (AN (AJ AH) w &&& AN (AJ AH) 4294967295)))))) 0 0 0 0 != w)
 (some ((.tup [.agg [.bool false,.i 0,.i 0,.i 0,.i 0,.i 0],.bool false]),[]))
 (some ((.tup [.agg [.bool true,.i (GW (AA AC (AA AH (ic (BS (AN (AJ AH) w &&& AN (AJ AH) 4294967295)))))),.i 0,.i 0,.i 0,.i 0],.bool true]),[]))))
 none)
 (cond (decide (32=32)&&(decide (0≤AA AC (AA AH (ic (BS (AN (AJ AH) w &&& AN (AJ AH) 4294967295)))))&&decide (AA AC (AA AH (ic (BS (AN (AJ AH) w &&& AN (AJ AH) 4294967295))))≤4294967295)))
 (cond (!K6 false 0 (AA AC (AA AH (ic (BS (AN (AJ AH) (CB w (2 ^ min (AD 32) (AJ AH))) &&& AN (AJ AH) 15))))) (GW (AA AC (AA AH (ic (BS (AN (AJ AH) w &&& AN (AJ AH) 4294967295)))))) (AA AC (AA AH (ic (BS (AN (AJ AH) (CB w (2 ^ min (AD 40) (AJ AH))) &&& AN (AJ AH) 255))))) (AA AC (AA AH (ic (BS (AN (AJ AH) (CB w (2 ^ min (AD 48) (AJ AH))) &&& AN (AJ AH) 255))))))
 (some ((.tup [.agg [.bool false,.i 0,.i 0,.i 0,.i 0,.i 0],.bool false]),[]))
 (cond (G9 false 0 (AA AC (AA AH (ic (BS (AN (AJ AH) (CB w (2 ^ min (AD 32) (AJ AH))) &&& AN (AJ AH) 15))))) (GW (AA AC (AA AH (ic (BS (AN (AJ AH) w &&& AN (AJ AH) 4294967295)))))) (AA AC (AA AH (ic (BS (AN (AJ AH) (CB w (2 ^ min (AD 40) (AJ AH))) &&& AN (AJ AH) 255))))) (AA AC (AA AH (ic (BS (AN (AJ AH) (CB w (2 ^ min (AD 48) (AJ AH))) &&& AN (AJ AH) 255))))) != w)
 (some ((.tup [.agg [.bool false,.i 0,.i 0,.i 0,.i 0,.i 0],.bool false]),[]))
 (some ((.tup [.agg [.bool false,.i 0,.i (AA AC (AA AH (ic (BS (AN (AJ AH) (CB w (2 ^ min (AD 32) (AJ AH))) &&& AN (AJ AH) 15))))),.i (GW (AA AC (AA AH (ic (BS (AN (AJ AH) w &&& AN (AJ AH) 4294967295)))))),.i (AA AC (AA AH (ic (BS (AN (AJ AH) (CB w (2 ^ min (AD 40) (AJ AH))) &&& AN (AJ AH) 255))))),.i (AA AC (AA AH (ic (BS (AN (AJ AH) (CB w (2 ^ min (AD 48) (AJ AH))) &&& AN (AJ AH) 255)))))],.bool true]),[]))))
 none)):=by kernel_rfl
def HH (N:Nat):Env:=DB [(70,JP)] [(3,⟨[0,3,4,5,8],[3],[]⟩)] 41 N
theorem Dx (N:Nat) (l:LI) (p:Pt):C6 (HH N) JS [.tmp 4] [[.z]] [.list false [.int .u64] l,(Pt.V p)] =
 (C4 (HH N) (CR JS [1,1,0,1,0,0]) ⟨[0,3,4,5,8],[3],[]⟩ N ⟨[(0,(.list false [.int .u64] l)),(3,(.ptr 3 0 0)),(4,(.i 0)),(5,(.i 0)),(8,(.i 0))],[(3,(some (.box (Pt.cs p))))]⟩ (CY 0 (C0 (HH N) (CR JS [1,1,1]) (C1 (HH N) none [.tmp 4] [[.z]])))):=by kernel_rfl
theorem p7 (N:Nat) (p:Pt) (l0:LI) (x4 x5 x8:Int) (again:St→CU) (k:Out→St→CU):D9 (HH N) (CR JS [1,1,0,1,0,0])
 ⟨[(0,(.list false [.int .u64] l0)),(3,(.ptr 3 0 0)),(4,(.i x4)),(5,(.i x5)),(8,(.i x8))],[(3,(some (.box (Pt.cs p))))]⟩
 (D4 again ⟨[0,3,4,5,8],[3],[]⟩ k) =
 (cond (decide (x8 < 31))
 (cond (decide (x5≥ic (AF l0)))
 (k .ret ⟨[(0,(.list false [.int .u64] l0)),(3,(.ptr 3 0 0)),(4,(.i (-1))),(5,(.i x5)),(8,(.i x8))],[(3,(some (.box (Pt.cs p))))]⟩)
 (cond (decide (0≤x5)&&decide (x5 < ic (AF l0)))
 (cond (!ES (IV.toInt (AG l0 (AD x5) default)))
 (k .ret ⟨[(0,(.list false [.int .u64] l0)),(3,(.ptr 3 0 0)),(4,(.i (-1))),(5,(.i x5)),(8,(.i x8))],[(3,(some (.box (Pt.cs p))))]⟩)
 (cond (Nd.lf (CQ (IV.toInt (AG l0 (AD x5) default))))
 (k .ret ⟨[(0,(.list false [.int .u64] l0)),(3,(.ptr 3 0 0)),(4,(.i x5)),(5,(.i x5)),(8,(.i x8))],[(3,(some (.box (Pt.cs p))))]⟩)
 (cond (decide (Nd.f (CQ (IV.toInt (AG l0 (AD x5) default)))=ic 0))
 (cond (decide (Pt.p0 p≤Nd.a (CQ (IV.toInt (AG l0 (AD x5) default)))))
 (again ⟨[(0,(.list false [.int .u64] l0)),(3,(.ptr 3 0 0)),(4,(.i x4)),(5,(.i (Nd.l (CQ (IV.toInt (AG l0 (AD x5) default)))))),(8,(.i (AA AC (x8+1))))],[(3,(some (.box (Pt.cs p))))]⟩)
 (again ⟨[(0,(.list false [.int .u64] l0)),(3,(.ptr 3 0 0)),(4,(.i x4)),(5,(.i (Nd.r (CQ (IV.toInt (AG l0 (AD x5) default)))))),(8,(.i (AA AC (x8+1))))],[(3,(some (.box (Pt.cs p))))]⟩))
 (cond (decide (Nd.f (CQ (IV.toInt (AG l0 (AD x5) default)))=ic 1))
 (cond (decide (Pt.p1 p≤Nd.a (CQ (IV.toInt (AG l0 (AD x5) default)))))
 (again ⟨[(0,(.list false [.int .u64] l0)),(3,(.ptr 3 0 0)),(4,(.i x4)),(5,(.i (Nd.l (CQ (IV.toInt (AG l0 (AD x5) default)))))),(8,(.i (AA AC (x8+1))))],[(3,(some (.box (Pt.cs p))))]⟩)
 (again ⟨[(0,(.list false [.int .u64] l0)),(3,(.ptr 3 0 0)),(4,(.i x4)),(5,(.i (Nd.r (CQ (IV.toInt (AG l0 (AD x5) default)))))),(8,(.i (AA AC (x8+1))))],[(3,(some (.box (Pt.cs p))))]⟩))
 (cond (decide (Nd.f (CQ (IV.toInt (AG l0 (AD x5) default)))=ic 2))
 (cond (decide (Pt.p2 p≤Nd.a (CQ (IV.toInt (AG l0 (AD x5) default)))))
 (again ⟨[(0,(.list false [.int .u64] l0)),(3,(.ptr 3 0 0)),(4,(.i x4)),(5,(.i (Nd.l (CQ (IV.toInt (AG l0 (AD x5) default)))))),(8,(.i (AA AC (x8+1))))],[(3,(some (.box (Pt.cs p))))]⟩)
 (again ⟨[(0,(.list false [.int .u64] l0)),(3,(.ptr 3 0 0)),(4,(.i x4)),(5,(.i (Nd.r (CQ (IV.toInt (AG l0 (AD x5) default)))))),(8,(.i (AA AC (x8+1))))],[(3,(some (.box (Pt.cs p))))]⟩))
 (cond (decide (Nd.f (CQ (IV.toInt (AG l0 (AD x5) default)))=ic 3))
 (cond (decide (Pt.p3 p≤Nd.a (CQ (IV.toInt (AG l0 (AD x5) default)))))
 (again ⟨[(0,(.list false [.int .u64] l0)),(3,(.ptr 3 0 0)),(4,(.i x4)),(5,(.i (Nd.l (CQ (IV.toInt (AG l0 (AD x5) default)))))),(8,(.i (AA AC (x8+1))))],[(3,(some (.box (Pt.cs p))))]⟩)
 (again ⟨[(0,(.list false [.int .u64] l0)),(3,(.ptr 3 0 0)),(4,(.i x4)),(5,(.i (Nd.r (CQ (IV.toInt (AG l0 (AD x5) default)))))),(8,(.i (AA AC (x8+1))))],[(3,(some (.box (Pt.cs p))))]⟩))
 none))))))
 none))
 (k (.exit 0) ⟨[(0,(.list false [.int .u64] l0)),(3,(.ptr 3 0 0)),(4,(.i x4)),(5,(.i x5)),(8,(.i x8))],[(3,(some (.box (Pt.cs p))))]⟩)):=by kernel_rfl
theorem wJ (N:Nat) (p:Pt) (l0:LI) (x4 x5 x8:Int):(CY 0 (C0 (HH N) (CR JS [1,1,1]) (C1 (HH N) none [.tmp 4] [[.z]]))) (.exit 0)
 ⟨[(0,(.list false [.int .u64] l0)),(3,(.ptr 3 0 0)),(4,(.i x4)),(5,(.i x5)),(8,(.i x8))],[(3,(some (.box (Pt.cs p))))]⟩ =
 (some ((.i (-1)),[])):=by kernel_rfl
theorem aE (N:Nat) (p:Pt) (l0:LI) (x4 x5 x8:Int):(CY 0 (C0 (HH N) (CR JS [1,1,1]) (C1 (HH N) none [.tmp 4] [[.z]]))) .ret
 ⟨[(0,(.list false [.int .u64] l0)),(3,(.ptr 3 0 0)),(4,(.i x4)),(5,(.i x5)),(8,(.i x8))],[(3,(some (.box (Pt.cs p))))]⟩ =
 (some ((.i x4),[])):=by kernel_rfl
def sR (N:Nat):Env:=DB [(70,JP),(88,TA)] [] 23 N
theorem Dw (N:Nat) (l:LI) (p:Pt):C6 (sR N) g7 [.tmp 4] [[.z]] [.list false [.int .u64] l,(Pt.V p)] =
 (cond (decide (PL l p < 0))
 (some ((.i 0),[]))
 (cond (decide (0≤PL l p)&&decide (PL l p < ic (AF l)))
 (some ((.i (Nd.v (CQ (IV.toInt (AG l (AD (PL l p)) default))))),[]))
 none)):=by kernel_rfl
def GJ (N:Nat):Env:=DB [(42,MK),(67,OY)] [(4,⟨[1,2,32,33],[1],[]⟩),(10,⟨[1,2,52,53,54],[1],[]⟩)] 77 N
theorem Dr (N:Nat) (m:Md):C6 (GJ N) IQ [.tmp 2] [[.bool]] [(Md.V m)] =
 (cond (decide (Md.d m < 1))
 (some ((.bool false),[]))
 (cond (decide (Md.d m > 4))
 (some ((.bool false),[]))
 (cond (decide (Md.c m < 1))
 (some ((.bool false),[]))
 (cond (decide (Md.c m > 3))
 (some ((.bool false),[]))
 (cond (decide (ic (AF (Md.ts m)) > 8))
 (some ((.bool false),[]))
 (C4 (GJ N) (CR IQ [1,1,0,1,0,0]) ⟨[1,2,32,33],[1],[]⟩ N ⟨[(1,(.ptr 1 0 0)),(2,(.bool false)),(32,(.agg [.i (Md.b0 m),.i (Md.b1 m),.i (Md.b2 m)])),(33,(.i 0))],[(1,(some (.box (Md.cs m))))]⟩ (CY 0 (C0 (GJ N) (CR IQ [1,1,1]) (C1 (GJ N) none [.tmp 2] [[.bool]]))))))))):=by kernel_rfl
theorem YO (N:Nat) (m:Md) (b2:Bool) (u00 u01 u02 x33:Int) (again:St→CU) (k:Out→St→CU):D9 (GJ N) (CR IQ [1,1,0,1,0,0])
 ⟨[(1,(.ptr 1 0 0)),(2,(.bool b2)),(32,(.agg [.i u00,.i u01,.i u02])),(33,(.i x33))],[(1,(some (.box (Md.cs m))))]⟩
 (D4 again ⟨[1,2,32,33],[1],[]⟩ k) =
 (cond (decide (x33 < 3))
 (cond (decide (x33=ic 0))
 (cond (!DL u00)
 (k .ret ⟨[(1,(.ptr 1 0 0)),(2,(.bool false)),(32,(.agg [.i u00,.i u01,.i u02])),(33,(.i x33))],[(1,(some (.box (Md.cs m))))]⟩)
 (cond (decide (x33≥Md.c m))
 (cond (u00 != 0)
 (k .ret ⟨[(1,(.ptr 1 0 0)),(2,(.bool false)),(32,(.agg [.i u00,.i u01,.i u02])),(33,(.i x33))],[(1,(some (.box (Md.cs m))))]⟩)
 (again ⟨[(1,(.ptr 1 0 0)),(2,(.bool b2)),(32,(.agg [.i u00,.i u01,.i u02])),(33,(.i (AA AC (x33+1))))],[(1,(some (.box (Md.cs m))))]⟩))
 (again ⟨[(1,(.ptr 1 0 0)),(2,(.bool b2)),(32,(.agg [.i u00,.i u01,.i u02])),(33,(.i (AA AC (x33+1))))],[(1,(some (.box (Md.cs m))))]⟩)))
 (cond (decide (x33=ic 1))
 (cond (!DL u01)
 (k .ret ⟨[(1,(.ptr 1 0 0)),(2,(.bool false)),(32,(.agg [.i u00,.i u01,.i u02])),(33,(.i x33))],[(1,(some (.box (Md.cs m))))]⟩)
 (cond (decide (x33≥Md.c m))
 (cond (u01 != 0)
 (k .ret ⟨[(1,(.ptr 1 0 0)),(2,(.bool false)),(32,(.agg [.i u00,.i u01,.i u02])),(33,(.i x33))],[(1,(some (.box (Md.cs m))))]⟩)
 (again ⟨[(1,(.ptr 1 0 0)),(2,(.bool b2)),(32,(.agg [.i u00,.i u01,.i u02])),(33,(.i (AA AC (x33+1))))],[(1,(some (.box (Md.cs m))))]⟩))
 (again ⟨[(1,(.ptr 1 0 0)),(2,(.bool b2)),(32,(.agg [.i u00,.i u01,.i u02])),(33,(.i (AA AC (x33+1))))],[(1,(some (.box (Md.cs m))))]⟩)))
 (cond (decide (x33=ic 2))
 (cond (!DL u02)
 (k .ret ⟨[(1,(.ptr 1 0 0)),(2,(.bool false)),(32,(.agg [.i u00,.i u01,.i u02])),(33,(.i x33))],[(1,(some (.box (Md.cs m))))]⟩)
 (cond (decide (x33≥Md.c m))
 (cond (u02 != 0)
 (k .ret ⟨[(1,(.ptr 1 0 0)),(2,(.bool false)),(32,(.agg [.i u00,.i u01,.i u02])),(33,(.i x33))],[(1,(some (.box (Md.cs m))))]⟩)
 (again ⟨[(1,(.ptr 1 0 0)),(2,(.bool b2)),(32,(.agg [.i u00,.i u01,.i u02])),(33,(.i (AA AC (x33+1))))],[(1,(some (.box (Md.cs m))))]⟩))
 (again ⟨[(1,(.ptr 1 0 0)),(2,(.bool b2)),(32,(.agg [.i u00,.i u01,.i u02])),(33,(.i (AA AC (x33+1))))],[(1,(some (.box (Md.cs m))))]⟩)))
 none)))
 (k (.exit 0) ⟨[(1,(.ptr 1 0 0)),(2,(.bool b2)),(32,(.agg [.i u00,.i u01,.i u02])),(33,(.i x33))],[(1,(some (.box (Md.cs m))))]⟩)):=by kernel_rfl
theorem wC (N:Nat) (m:Md) (b2:Bool) (u00 u01 u02 x33:Int):(CY 0 (C0 (GJ N) (CR IQ [1,1,1]) (C1 (GJ N) none [.tmp 2] [[.bool]]))) (.exit 0)
 ⟨[(1,(.ptr 1 0 0)),(2,(.bool b2)),(32,(.agg [.i u00,.i u01,.i u02])),(33,(.i x33))],[(1,(some (.box (Md.cs m))))]⟩ =
 (C4 (GJ N) (CR IQ [1,1,1,0,1,0,0]) ⟨[1,2,52,53,54],[1],[]⟩ N ⟨[(1,(.ptr 1 0 0)),(2,(.bool b2)),(52,(.list true EU (Md.ts m))),(53,(.i (ic (AF (Md.ts m))))),(54,(.i 0))],[(1,(some (.box (Md.cs m))))]⟩ (CY 2 (C0 (GJ N) (CR IQ [1,1,1,1]) (C1 (GJ N) none [.tmp 2] [[.bool]])))):=by kernel_rfl
theorem wD (N:Nat) (m:Md) (b2:Bool) (u00 u01 u02 x33:Int):(CY 0 (C0 (GJ N) (CR IQ [1,1,1]) (C1 (GJ N) none [.tmp 2] [[.bool]]))) .ret
 ⟨[(1,(.ptr 1 0 0)),(2,(.bool b2)),(32,(.agg [.i u00,.i u01,.i u02])),(33,(.i x33))],[(1,(some (.box (Md.cs m))))]⟩ =
 (some ((.bool b2),[])):=by kernel_rfl
theorem pX (N:Nat) (m:Md) (b2:Bool) (l52:LI) (x53 x54:Int) (again:St→CU) (k:Out→St→CU):D9 (GJ N) (CR IQ [1,1,1,0,1,0,0])
 ⟨[(1,(.ptr 1 0 0)),(2,(.bool b2)),(52,(.list true EU l52)),(53,(.i x53)),(54,(.i x54))],[(1,(some (.box (Md.cs m))))]⟩
 (D4 again ⟨[1,2,52,53,54],[1],[]⟩ k) =
 (cond (decide (x54 < x53))
 (cond (decide (0≤x54)&&decide (x54 < ic (AF l52)))
 (cond (decide (IV.toInt (IV.cell (AG l52 (AD x54) default) 0) < 0))
 (k .ret ⟨[(1,(.ptr 1 0 0)),(2,(.bool false)),(52,(.list true EU l52)),(53,(.i x53)),(54,(.i x54))],[(1,(some (.box (Md.cs m))))]⟩)
 (cond (decide (IV.toInt (IV.cell (AG l52 (AD x54) default) 0)≥Md.c m))
 (k .ret ⟨[(1,(.ptr 1 0 0)),(2,(.bool false)),(52,(.list true EU l52)),(53,(.i x53)),(54,(.i x54))],[(1,(some (.box (Md.cs m))))]⟩)
 (cond (!F7 (IV.toList (IV.cell (AG l52 (AD x54) default) 1)) (Md.d m))
 (k .ret ⟨[(1,(.ptr 1 0 0)),(2,(.bool false)),(52,(.list true EU l52)),(53,(.i x53)),(54,(.i x54))],[(1,(some (.box (Md.cs m))))]⟩)
 (again ⟨[(1,(.ptr 1 0 0)),(2,(.bool b2)),(52,(.list true EU l52)),(53,(.i x53)),(54,(.i (AA AC (x54+1))))],[(1,(some (.box (Md.cs m))))]⟩))))
 none)
 (k (.exit 2) ⟨[(1,(.ptr 1 0 0)),(2,(.bool b2)),(52,(.list true EU l52)),(53,(.i x53)),(54,(.i x54))],[(1,(some (.box (Md.cs m))))]⟩)):=by kernel_rfl
theorem wE (N:Nat) (m:Md) (b2:Bool) (l52:LI) (x53 x54:Int):(CY 2 (C0 (GJ N) (CR IQ [1,1,1,1]) (C1 (GJ N) none [.tmp 2] [[.bool]]))) (.exit 2)
 ⟨[(1,(.ptr 1 0 0)),(2,(.bool b2)),(52,(.list true EU l52)),(53,(.i x53)),(54,(.i x54))],[(1,(some (.box (Md.cs m))))]⟩ =
 (some ((.bool true),[])):=by kernel_rfl
theorem aD (N:Nat) (m:Md) (b2:Bool) (l52:LI) (x53 x54:Int):(CY 2 (C0 (GJ N) (CR IQ [1,1,1,1]) (C1 (GJ N) none [.tmp 2] [[.bool]]))) .ret
 ⟨[(1,(.ptr 1 0 0)),(2,(.bool b2)),(52,(.list true EU l52)),(53,(.i x53)),(54,(.i x54))],[(1,(some (.box (Md.cs m))))]⟩ =
 (some ((.bool b2),[])):=by kernel_rfl
def H2 (N:Nat):Env:=DB [(41,MM),(69,S9)] [(5,⟨[1,5,6,7,28,29,30],[5],[]⟩)] 46 N
theorem Dp (N:Nat) (m:Md) (u00:Int) (p:Pt):C6 (H2 N) KC [.tmp 6] [[.z]] [(Md.V m),.i u00,(Pt.V p)] =
 (cond (!DX m)
 (some ((.i 0),[]))
 (cond (decide (u00 < 0))
 (some ((.i 0),[]))
 (cond (decide (u00≥Md.c m))
 (some ((.i 0),[]))
 (cond (decide (u00=ic 0))
 (C4 (H2 N) (CR KC [1,1,1,0,1,0,0]) ⟨[1,5,6,7,28,29,30],[5],[]⟩ N ⟨[(1,(.i u00)),(5,(.ptr 5 0 0)),(6,(.i 0)),(7,(.i (Md.b0 m))),(28,(.list true EU (Md.ts m))),(29,(.i (ic (AF (Md.ts m))))),(30,(.i 0))],[(5,(some (.box (Pt.cs p))))]⟩ (CY 0 (C0 (H2 N) (CR KC [1,1,1,1]) (C1 (H2 N) none [.tmp 6] [[.z]]))))
 (cond (decide (u00=ic 1))
 (C4 (H2 N) (CR KC [1,1,1,0,1,0,0]) ⟨[1,5,6,7,28,29,30],[5],[]⟩ N ⟨[(1,(.i u00)),(5,(.ptr 5 0 0)),(6,(.i 0)),(7,(.i (Md.b1 m))),(28,(.list true EU (Md.ts m))),(29,(.i (ic (AF (Md.ts m))))),(30,(.i 0))],[(5,(some (.box (Pt.cs p))))]⟩ (CY 0 (C0 (H2 N) (CR KC [1,1,1,1]) (C1 (H2 N) none [.tmp 6] [[.z]]))))
 (cond (decide (u00=ic 2))
 (C4 (H2 N) (CR KC [1,1,1,0,1,0,0]) ⟨[1,5,6,7,28,29,30],[5],[]⟩ N ⟨[(1,(.i u00)),(5,(.ptr 5 0 0)),(6,(.i 0)),(7,(.i (Md.b2 m))),(28,(.list true EU (Md.ts m))),(29,(.i (ic (AF (Md.ts m))))),(30,(.i 0))],[(5,(some (.box (Pt.cs p))))]⟩ (CY 0 (C0 (H2 N) (CR KC [1,1,1,1]) (C1 (H2 N) none [.tmp 6] [[.z]]))))
 none)))))):=by kernel_rfl
theorem pW (N:Nat) (p:Pt) (x1 x6 x7:Int) (l28:LI) (x29 x30:Int) (again:St→CU) (k:Out→St→CU):D9 (H2 N) (CR KC [1,1,1,0,1,0,0])
 ⟨[(1,(.i x1)),(5,(.ptr 5 0 0)),(6,(.i x6)),(7,(.i x7)),(28,(.list true EU l28)),(29,(.i x29)),(30,(.i x30))],[(5,(some (.box (Pt.cs p))))]⟩
 (D4 again ⟨[1,5,6,7,28,29,30],[5],[]⟩ k) =
 (cond (decide (x30 < x29))
 (cond (decide (0≤x30)&&decide (x30 < ic (AF l28)))
 (cond (IV.toInt (IV.cell (AG l28 (AD x30) default) 0)==x1)
 (again ⟨[(1,(.i x1)),(5,(.ptr 5 0 0)),(6,(.i x6)),(7,(.i (AA AC (x7+HG (IV.toList (IV.cell (AG l28 (AD x30) default) 1)) p)))),(28,(.list true EU l28)),(29,(.i x29)),(30,(.i (AA AC (x30+1))))],[(5,(some (.box (Pt.cs p))))]⟩)
 (again ⟨[(1,(.i x1)),(5,(.ptr 5 0 0)),(6,(.i x6)),(7,(.i x7)),(28,(.list true EU l28)),(29,(.i x29)),(30,(.i (AA AC (x30+1))))],[(5,(some (.box (Pt.cs p))))]⟩))
 none)
 (k (.exit 0) ⟨[(1,(.i x1)),(5,(.ptr 5 0 0)),(6,(.i x6)),(7,(.i x7)),(28,(.list true EU l28)),(29,(.i x29)),(30,(.i x30))],[(5,(some (.box (Pt.cs p))))]⟩)):=by kernel_rfl
theorem wB (N:Nat) (p:Pt) (x1 x6 x7:Int) (l28:LI) (x29 x30:Int):(CY 0 (C0 (H2 N) (CR KC [1,1,1,1]) (C1 (H2 N) none [.tmp 6] [[.z]]))) (.exit 0)
 ⟨[(1,(.i x1)),(5,(.ptr 5 0 0)),(6,(.i x6)),(7,(.i x7)),(28,(.list true EU l28)),(29,(.i x29)),(30,(.i x30))],[(5,(some (.box (Pt.cs p))))]⟩ =
 (some ((.i x7),[])):=by kernel_rfl
open Go Go.Proofs
def GK (N:Nat):Env:=DB [(70,JP)] [(5,⟨[0,1,4,5,20,21,22],[19],[]⟩),(17,⟨[0,4,5,10],[19],[]⟩)] 94 N
theorem Du (N:Nat) (l:LI) (a1:Int):C6 (GK N) IR [.tmp 4] [[.bool]] [(.list false [.int .u64] l),(.int .i64 a1)] =
 (cond (decide (ic (AF l) < 1))
 (some ((.bool false),[]))
 (cond (decide (ic (AF l) > 31))
 (some ((.bool false),[]))
 (C4 (GK N) (CR IR [1,1,1,0,1,0,0]) ⟨[0,1,4,5,20,21,22],[19],[]⟩ N ⟨[(0,(.list false [(.int .u64)] l)),(1,(.int .i64 a1)),(4,(.bool false)),(5,(.ptr 19 0 0)),(20,(.list false [(.int .u64)] l)),(21,(.int .i64 (ic (AF l)))),(22,(.int .i64 0))],[(19,(some (.map .z [])))]⟩ (CY 0 (C0 (GK N) (CR IR [1,1,1,1]) (C1 (GK N) none [(BD 4)] [[.bool]])))))):=by kernel_rfl
theorem pY (N:Nat) (l0:LI) (x1:Int) (b4:Bool) (l20:LI) (x21 x22:Int) (mo19:List (Int × IV)) (again:St→CU) (k:Out→St→CU):D9 (GK N) (CR IR [1,1,1,0,1,0,0])
 ⟨[(0,(.list false [(.int .u64)] l0)),(1,(.int .i64 x1)),(4,(.bool b4)),(5,(.ptr 19 0 0)),(20,(.list false [(.int .u64)] l20)),(21,(.int .i64 x21)),(22,(.int .i64 x22))],[(19,(some (.map .z mo19)))]⟩
 (D4 again ⟨[0,1,4,5,20,21,22],[19],[]⟩ k) =
 (cond (decide (x22 < x21))
 (cond (decide (0≤x22)&&decide (x22 < ic (AF l20)))
 (cond (!ES (IV.toInt (AG l20 (AD x22) default)))
 (k .ret ⟨[(0,(.list false [(.int .u64)] l0)),(1,(.int .i64 x1)),(4,(.bool false)),(5,(.ptr 19 0 0)),(20,(.list false [(.int .u64)] l20)),(21,(.int .i64 x21)),(22,(.int .i64 x22))],[(19,(some (.map .z mo19)))]⟩)
 (cond (Nd.lf (CQ (IV.toInt (AG l20 (AD x22) default))))
 (again ⟨[(0,(.list false [(.int .u64)] l0)),(1,(.int .i64 x1)),(4,(.bool b4)),(5,(.ptr 19 0 0)),(20,(.list false [(.int .u64)] l20)),(21,(.int .i64 x21)),(22,(.int .i64 (AA AC (x22+1))))],[(19,(some (.map .z mo19)))]⟩)
 (cond (decide (Nd.f (CQ (IV.toInt (AG l20 (AD x22) default)))≥x1))
 (k .ret ⟨[(0,(.list false [(.int .u64)] l0)),(1,(.int .i64 x1)),(4,(.bool false)),(5,(.ptr 19 0 0)),(20,(.list false [(.int .u64)] l20)),(21,(.int .i64 x21)),(22,(.int .i64 x22))],[(19,(some (.map .z mo19)))]⟩)
 (cond (decide (Nd.l (CQ (IV.toInt (AG l20 (AD x22) default)))≤x22))
 (k .ret ⟨[(0,(.list false [(.int .u64)] l0)),(1,(.int .i64 x1)),(4,(.bool false)),(5,(.ptr 19 0 0)),(20,(.list false [(.int .u64)] l20)),(21,(.int .i64 x21)),(22,(.int .i64 x22))],[(19,(some (.map .z mo19)))]⟩)
 (cond (decide (Nd.r (CQ (IV.toInt (AG l20 (AD x22) default)))≤x22))
 (k .ret ⟨[(0,(.list false [(.int .u64)] l0)),(1,(.int .i64 x1)),(4,(.bool false)),(5,(.ptr 19 0 0)),(20,(.list false [(.int .u64)] l20)),(21,(.int .i64 x21)),(22,(.int .i64 x22))],[(19,(some (.map .z mo19)))]⟩)
 (cond (decide (Nd.l (CQ (IV.toInt (AG l20 (AD x22) default)))≥ic (AF l0)))
 (k .ret ⟨[(0,(.list false [(.int .u64)] l0)),(1,(.int .i64 x1)),(4,(.bool false)),(5,(.ptr 19 0 0)),(20,(.list false [(.int .u64)] l20)),(21,(.int .i64 x21)),(22,(.int .i64 x22))],[(19,(some (.map .z mo19)))]⟩)
 (cond (decide (Nd.r (CQ (IV.toInt (AG l20 (AD x22) default)))≥ic (AF l0)))
 (k .ret ⟨[(0,(.list false [(.int .u64)] l0)),(1,(.int .i64 x1)),(4,(.bool false)),(5,(.ptr 19 0 0)),(20,(.list false [(.int .u64)] l20)),(21,(.int .i64 x21)),(22,(.int .i64 x22))],[(19,(some (.map .z mo19)))]⟩)
 (cond (Nd.l (CQ (IV.toInt (AG l20 (AD x22) default)))==Nd.r (CQ (IV.toInt (AG l20 (AD x22) default))))
 (k .ret ⟨[(0,(.list false [(.int .u64)] l0)),(1,(.int .i64 x1)),(4,(.bool false)),(5,(.ptr 19 0 0)),(20,(.list false [(.int .u64)] l20)),(21,(.int .i64 x21)),(22,(.int .i64 x22))],[(19,(some (.map .z mo19)))]⟩)
 (again ⟨[(0,(.list false [(.int .u64)] l0)),(1,(.int .i64 x1)),(4,(.bool b4)),(5,(.ptr 19 0 0)),(20,(.list false [(.int .u64)] l20)),(21,(.int .i64 x21)),(22,(.int .i64 (AA AC (x22+1))))],[(19,(some (.map .z (E6 (E6 mo19 (Nd.l (CQ (IV.toInt (AG l20 (AD x22) default)))) (IV.int (AA AC (IV.toInt (GQ (Kd.int AC) mo19 (Nd.l (CQ (IV.toInt (AG l20 (AD x22) default)))))+1)))) (Nd.r (CQ (IV.toInt (AG l20 (AD x22) default)))) (IV.int (AA AC (IV.toInt (GQ (Kd.int AC) (E6 mo19 (Nd.l (CQ (IV.toInt (AG l20 (AD x22) default)))) (IV.int (AA AC (IV.toInt (GQ (Kd.int AC) mo19 (Nd.l (CQ (IV.toInt (AG l20 (AD x22) default)))))+1)))) (Nd.r (CQ (IV.toInt (AG l20 (AD x22) default)))))+1)))))))]⟩)))))))))
 none)
 (k (.exit 0) ⟨[(0,(.list false [(.int .u64)] l0)),(1,(.int .i64 x1)),(4,(.bool b4)),(5,(.ptr 19 0 0)),(20,(.list false [(.int .u64)] l20)),(21,(.int .i64 x21)),(22,(.int .i64 x22))],[(19,(some (.map .z mo19)))]⟩)):=by kernel_rfl
theorem wF (N:Nat) (l0:LI) (x1:Int) (b4:Bool) (l20:LI) (x21 x22:Int) (mo19:List (Int × IV)):(CY 0 (C0 (GK N) (CR IR [1,1,1,1]) (C1 (GK N) none [(BD 4)] [[.bool]]))) (.exit 0)
 ⟨[(0,(.list false [(.int .u64)] l0)),(1,(.int .i64 x1)),(4,(.bool b4)),(5,(.ptr 19 0 0)),(20,(.list false [(.int .u64)] l20)),(21,(.int .i64 x21)),(22,(.int .i64 x22))],[(19,(some (.map .z mo19)))]⟩ =
 (C4 (GK N) (CR IR [1,1,1,1,0,1,0,0]) ⟨[0,4,5,10],[19],[]⟩ N ⟨[(0,(.list false [(.int .u64)] l0)),(4,(.bool b4)),(5,(.ptr 19 0 0)),(10,(.int .i64 1))],[(19,(some (.map .z mo19)))]⟩ (CY 2 (C0 (GK N) (CR IR [1,1,1,1,1]) (C1 (GK N) none [(BD 4)] [[.bool]])))):=by kernel_rfl
theorem wG (N:Nat) (l0:LI) (x1:Int) (b4:Bool) (l20:LI) (x21 x22:Int) (mo19:List (Int × IV)):(CY 0 (C0 (GK N) (CR IR [1,1,1,1]) (C1 (GK N) none [(BD 4)] [[.bool]]))) .ret
 ⟨[(0,(.list false [(.int .u64)] l0)),(1,(.int .i64 x1)),(4,(.bool b4)),(5,(.ptr 19 0 0)),(20,(.list false [(.int .u64)] l20)),(21,(.int .i64 x21)),(22,(.int .i64 x22))],[(19,(some (.map .z mo19)))]⟩ =
 (some ((.bool b4),[])):=by kernel_rfl
theorem pZ (N:Nat) (l0:LI) (b4:Bool) (x10:Int) (mo19:List (Int × IV)) (again:St→CU) (k:Out→St→CU):D9 (GK N) (CR IR [1,1,1,1,0,1,0,0])
 ⟨[(0,(.list false [(.int .u64)] l0)),(4,(.bool b4)),(5,(.ptr 19 0 0)),(10,(.int .i64 x10))],[(19,(some (.map .z mo19)))]⟩
 (D4 again ⟨[0,4,5,10],[19],[]⟩ k) =
 (cond (decide (x10 < ic (AF l0)))
 (cond (IV.toInt (GQ (Kd.int AC) mo19 x10) != 1)
 (k .ret ⟨[(0,(.list false [(.int .u64)] l0)),(4,(.bool false)),(5,(.ptr 19 0 0)),(10,(.int .i64 x10))],[(19,(some (.map .z mo19)))]⟩)
 (again ⟨[(0,(.list false [(.int .u64)] l0)),(4,(.bool b4)),(5,(.ptr 19 0 0)),(10,(.int .i64 (AA AC (x10+1))))],[(19,(some (.map .z mo19)))]⟩))
 (k (.exit 2) ⟨[(0,(.list false [(.int .u64)] l0)),(4,(.bool b4)),(5,(.ptr 19 0 0)),(10,(.int .i64 x10))],[(19,(some (.map .z mo19)))]⟩)):=by kernel_rfl
theorem wH (N:Nat) (l0:LI) (b4:Bool) (x10:Int) (mo19:List (Int × IV)):(CY 2 (C0 (GK N) (CR IR [1,1,1,1,1]) (C1 (GK N) none [(BD 4)] [[.bool]]))) (.exit 2)
 ⟨[(0,(.list false [(.int .u64)] l0)),(4,(.bool b4)),(5,(.ptr 19 0 0)),(10,(.int .i64 x10))],[(19,(some (.map .z mo19)))]⟩ =
 (some ((.bool true),[])):=by kernel_rfl
theorem wI (N:Nat) (l0:LI) (b4:Bool) (x10:Int) (mo19:List (Int × IV)):(CY 2 (C0 (GK N) (CR IR [1,1,1,1,1]) (C1 (GK N) none [(BD 4)] [[.bool]]))) .ret
 ⟨[(0,(.list false [(.int .u64)] l0)),(4,(.bool b4)),(5,(.ptr 19 0 0)),(10,(.int .i64 x10))],[(19,(some (.map .z mo19)))]⟩ =
 (some ((.bool b4),[])):=by kernel_rfl
open Go Go.Proofs
set_option maxRecDepth 100000
theorem o0:C5 PR B0 48 OW:=by
 refine DC [] [] OW [[.z,.z]] Tryz.func48 zC trivial ?_;intro vs r hwf h;unfold OW at h;split at h
 ·rename_i a b;replace h:=V0 h;obtain ⟨a,rfl,h⟩:=h;replace h:=V0 h;obtain ⟨b,rfl,h⟩:=h;rw [R.get_ok] at h;refine ⟨0,?_⟩;rw [← h];refine (Dl 0 a b).trans ?_;unfold Sp.meet L1;cases decide (max a.lo b.lo > min a.hi b.hi) <;> rfl
 ·simp [R.get] at h
theorem lP {w:Int} (h0:0≤w) (h1:w < 18446744073709551616):∃ n:Nat,n < 4294967296∧EG w 4294967295=(n:Int)∧(w < 4294967296→(n:Int)=w):=by
 obtain ⟨k,rfl⟩:=Int.eq_ofNat_of_zero_le h0;refine ⟨k &&& 4294967295,?_,?_,fun hk=>?_⟩
 ·exact Nat.lt_of_le_of_lt Nat.and_le_right (by decide)
 ·exact Y9 (x:=k) (y:=4294967295) (by omega) (by decide)
 ·have:k &&& (2 ^ 32 - 1)=k:=by rw [Nat.and_two_pow_sub_one_eq_mod]; exact Nat.mod_eq_of_lt (by omega)
  exact congrArg Int.ofNat this
theorem Ko:C5 PR B0 89 S7:=by
 refine DC [] [] S7 [[.z]] Tryz.func89 zD trivial ?_;intro vs r hwf h;unfold S7 at h;split at h
 ·rename_i n w;cases hg:(decide (w=32)&&(decide (0≤n)&&decide (n≤4294967295))) with
  | false=>rw [hg] at h; simp [R.get] at h
  | true=>
  rw [hg,R.get_br,CP,R.get_ok] at h;simp only [AI,AO] at hg;obtain ⟨rfl,h0,h1⟩:=hg;refine ⟨0,(Dm 0 n 32).trans ?_⟩;rw [← h];have e0:E2 n=n:=by
   unfold E2;rw [OD];omega
  obtain ⟨k,hk,e1,e2⟩:=lP (w:=E2 n) (by omega) (by omega);have e3:(k:Int)=n:=by rw [e2 (by omega),e0]
  show cond (CB (EG (E2 n) 4294967295) 2147483648==1) (some (V.int .i64 (CZ (CZ (EG (E2 n) 4294967295) - 4294967296)),[])) (some (V.int .i64 (CZ (EG (E2 n) 4294967295)),[]))=_;rw [e1,e3];have e4:CZ n=n:=DV (by omega) (by omega);rw [e4];by_cases hn:n < 2147483648
  ·have e5:(CB n 2147483648==1)=false:=by
    rw [vat _ (by omega)];exact CG.2 (by omega)
   rw [e5,CS,Nn h0 hn]
  ·have e5:(CB n 2147483648==1)=true:=by
    rw [vat _ (by omega)];exact BR.2 (by omega)
   rw [e5,CP,Nm (by omega) h1];rw [show CZ (n - 4294967296)=n - 4294967296 from DV (by omega) (by omega)]
 ·simp [R.get] at h
theorem xV (w:Int):EO w 0 32=EG w 4294967295:=by
 unfold EO;rw [show JY 32=4294967295 by decide,show (2:Int) ^ AD 0=1 from rfl,vat _ (by omega),Int.ediv_one]
def SE:V:=.agg [.bool false,.int .i64 0,.int .i64 0,.int .i64 0,.int .i64 0,.int .i64 0]
def YY (x:Nd) (w:Int):CU:=cond (!GG x) (some (.tup [SE,.bool false],[])) (cond (F3 x != w) (some (.tup [SE,.bool false],[])) (some (.tup [x.V,.bool true],[])))
theorem rI {x:Nd} {w:Int} (hx:IZ w=x):YY x w=some (.tup [.agg [.bool (CQ w).lf,.int .i64 (CQ w).v,.int .i64 (CQ w).f,.int .i64 (CQ w).a,.int .i64 (CQ w).l,.int .i64 (CQ w).r],.bool (ES w)],[]):=by
 have e:ES w=(GG x&&(F3 x==w)):=by
  rw [← Cd];unfold cZ;rw [hx]
 unfold YY CQ;rw [e,hx];show cond (!GG x) _ (cond (!(F3 x==w)) _ _)=_;cases GG x <;> cases F3 x==w <;> rfl
theorem VT:C5 PR B0 70 JP:=by
 refine DC [(89,S7),(40,ML),(66,OX)] [] JP [[.bool,.z,.z,.z,.z,.z],[.bool]] Tryz.func70 zJ ⟨Ko,dU,o4,trivial⟩ ?_;intro vs r hwf h;unfold JP at h;split at h
 ·rename_i w;rw [R.get_ok] at h;refine ⟨0,(Dv 0 w).trans ?_⟩;rw [← h];have hb:=(hwf (by simp [K4])).1;simp only [QG,wfL] at hb;obtain ⟨h0,h1⟩:=hb;have e0:AH.min=0:=rfl;have e1:AH.max=18446744073709551615:=rfl;rw [e0] at h0;rw [e1] at h1;obtain ⟨k,hk,ek,_⟩:=lP h0 (by omega);have es:GW (CZ (EG w 4294967295))=HY w:=by unfold HY; rw [xV]
  have ew:CZ (EG w 4294967295)=(k:Int):=by rw [ek]; exact DV (by omega) (by omega)
  have g:(decide ((32:Int)=32)&&(decide (0≤CZ (EG w 4294967295))&&decide (CZ (EG w 4294967295)≤4294967295)))=true:=by
   rw [ew,AE (show (0:Int)≤(k:Int) by omega),AE (show (k:Int)≤4294967295 by omega)];rfl
  have ht:=Mz h0 (by omega);show cond (CB w 9223372036854775808==1)
   (cond (decide ((32:Int)=32)&&(decide (0≤CZ (EG w 4294967295))&&decide (CZ (EG w 4294967295)≤4294967295)))
    (cond (!K6 true (GW (CZ (EG w 4294967295))) 0 0 0 0) (some (V.tup [SE,V.bool false],[])) (cond (G9 true (GW (CZ (EG w 4294967295))) 0 0 0 0 != w) (some (V.tup [SE,V.bool false],[])) (some (V.tup [(Nd.mk true (GW (CZ (EG w 4294967295))) 0 0 0 0).V,.bool true],[])))) none)
   (cond (decide ((32:Int)=32)&&(decide (0≤CZ (EG w 4294967295))&&decide (CZ (EG w 4294967295)≤4294967295)))
    (cond (!K6 false 0 (CZ (EG (CB w 4294967296) 15)) (GW (CZ (EG w 4294967295))) (CZ (EG (CB w 1099511627776) 255)) (CZ (EG (CB w 281474976710656) 255))) (some (V.tup [SE,V.bool false],[]))
     (cond (G9 false 0 (CZ (EG (CB w 4294967296) 15)) (GW (CZ (EG w 4294967295))) (CZ (EG (CB w 1099511627776) 255)) (CZ (EG (CB w 281474976710656) 255)) != w) (some (V.tup [SE,V.bool false],[]))
      (some (V.tup [(Nd.mk false 0 (CZ (EG (CB w 4294967296) 15)) (GW (CZ (EG w 4294967295))) (CZ (EG (CB w 1099511627776) 255)) (CZ (EG (CB w 281474976710656) 255))).V,.bool true],[])))) none)=_
  rw [g,CP,CP,es];cases hw:CB w 9223372036854775808==1 with
  | true=>
   rw [hw] at ht;have rd:IZ w=⟨true,HY w,0,0,0,0⟩:=by unfold IZ; rw [ht]; rfl
   rw [CP,← rI rd];unfold YY;rw [← XV,← cQ]
  | false=>
   rw [hw] at ht;have m4:JY 4=15:=by decide
   have m8:JY 8=255:=by decide
   have r4:EO w 32 4=EG (CB w 4294967296) 15:=by unfold EO; rw [m4]; rfl
   have r5:EO w 40 8=EG (CB w 1099511627776) 255:=by unfold EO; rw [m8]; rfl
   have r6:EO w 48 8=EG (CB w 281474976710656) 255:=by unfold EO; rw [m8]; rfl
   have rd:IZ w=⟨false,0,CZ (EG (CB w 4294967296) 15),HY w,CZ (EG (CB w 1099511627776) 255),CZ (EG (CB w 281474976710656) 255)⟩:=by unfold IZ; rw [ht,r4,r5,r6]; rfl
   rw [CS,← rI rd];unfold YY;rw [← XV,← cQ]
 ·simp [R.get] at h
def PI (l:LI) (i:Nat) (es:List (Int × IV)):Prop:=∀ j:Nat,(GQ .z es (j:Int)).toInt=((E5 (l.take i) j:Nat):Int)
theorem vF {l:LI} {i:Nat} {w:IV} {es:List (Int × IV)} (h:l[i]?=some w) (hl:(CQ w.toInt).lf=true) (hc:PI l i es):PI l (i+1) es:=fun j=>by
 rw [hc j,XT h];unfold LS;rw [hl];rfl
theorem vE {l:LI} {i:Nat} {w:IV} {es:List (Int × IV)} (h:l[i]?=some w) (hl:(CQ w.toInt).lf=false) (hn:l.length≤31) {a b:Nat} (ha:(CQ w.toInt).l=(a:Int)) (hb:(CQ w.toInt).r=(b:Int)) (hab:a≠b) (hc:PI l i es) :
  PI l (i+1) (E6 (E6 es (a:Int) (IV.int (AA AC (IV.toInt (GQ (Kd.int AC) es (a:Int))+1)))) (b:Int) (IV.int (AA AC (IV.toInt (GQ (Kd.int AC) (E6 es (a:Int) (IV.int (AA AC (IV.toInt (GQ (Kd.int AC) es (a:Int))+1)))) (b:Int))+1)))):=fun j=>by
 have hsm:∀ j,E5 (l.take i) j≤62:=fun j=>by
  have:=bV (l.take i) j
  rw [A1] at this;omega
 have eab:((a:Int)==(b:Int))=false:=CG.2 (by omega);have wa:AA AC (((E5 (l.take i) a:Nat):Int)+1)=((E5 (l.take i) a:Nat):Int)+1:=DV (by omega) (by have:=hsm a; omega);have wb:AA AC (((E5 (l.take i) b:Nat):Int)+1)=((E5 (l.take i) b:Nat):Int)+1:=DV (by omega) (by have:=hsm b; omega);rw [bL,bL,bL,eab,BB,hc a,hc b,wa,wb,XT h];have e:LS (CQ w.toInt) j=(if a=j then 1 else 0)+(if b=j then 1 else 0):=by
  unfold LS;rw [hl,ha,hb,BB];have e1:((a:Int)=(j:Int))↔a=j:=by omega
  have e2:((b:Int)=(j:Int))↔b=j:=by omega
  simp only [e1,e2]
 rw [e];by_cases h1:b=j
 ·subst h1;rw [CH,BO,A7 hab,B1 rfl];show ((E5 (l.take i) b:Nat):Int)+1=_;omega
 ·have e1:((b:Int)==(j:Int))=false:=CG.2 (by omega);rw [e1,BB,A7 h1];by_cases h2:a=j
  ·subst h2;rw [CH,BO,B1 rfl];show ((E5 (l.take i) a:Nat):Int)+1=_;omega
  ·have e2:((a:Int)==(j:Int))=false:=CG.2 (by omega);rw [e2,BB,A7 h2,hc j];omega
abbrev eX (l:LI) (dim:Int) (b:Bool) (i:Int) (es:List (Int × IV)):St:=
 ⟨[(0,(.list false [(.int .u64)] l)),(1,(.int .i64 dim)),(4,(.bool b)),(5,(.ptr 19 0 0)),(20,(.list false [(.int .u64)] l)),(21,(.int .i64 (ic (AF l)))),(22,(.int .i64 i))],[(19,(some (.map .z es)))]⟩
theorem dG (N:Nat) (l:LI) (dim:Int) (hl:l.length≤31) (K:Out→St→CU) (R:CU) (hK:∀ i es,K .ret (eX l dim false i es)=some (.bool false,[])) (hx:∀ es,PI l l.length es→K (.exit 0) (eX l dim false (ic l.length) es)=R):∀ (d i n:Nat) (es:List (Int × IV)),PI l i es→i+d=l.length→d < n →
  C4 (GK N) (CR IR [1,1,1,0,1,0,0]) ⟨[0,1,4,5,20,21,22],[19],[]⟩ n (eX l dim false (i:Int) es) K =
   cond (IF dim (ic l.length) i (l.drop i)) R (some (.bool false,[]))
 | d,i,0,_,_,_,h=>absurd h (by omega)
 | 0,i,n+1,es,hc,hd,_=>by
  have hi:i=l.length:=by omega
  subst hi;rw [DD,pY];rw [AM (show ¬ ((l.length:Nat):Int) < ic l.length by simp only [ic]; omega),CS,CE];exact hx es hc
 | d+1,i,n+1,es,hc,hd,hn=>by
  have hil:i < l.length:=by omega
  have hw:l[i]?=some l[i]:=AV hil;rw [DD,pY,BC hil];have hg:l.getD (AD (i:Int)) default=l[i]:=by
   rw [BL,BG,hw];rfl
  rw [hg];generalize l[i]=w at hw ⊢;have ei:AA AC ((i:Int)+1)=((i+1:Nat):Int):=by
   rw [DV (by omega) (by omega)];omega
  rw [ei,AE (show (i:Int) < ic l.length by simp only [ic]; omega),CP,AE (show (0:Int)≤(i:Int) by omega),BE,CP];unfold IF;cases hb:ES w.toInt with
  | false=>
   simp only [BJ,CP,BY,CS];exact hK (i:Int) es
  | true=>
   simp only [A5,CS,BH];unfold PN;cases hlf:(CQ w.toInt).lf with
   | true=>
    simp only [CP,BH];exact dG N l dim hl K R hK hx d (i+1) n es (vF hw hlf hc) (by omega) (by omega)
   | false=>
    simp only [CS];cases h1:decide ((CQ w.toInt).f≥dim) with
    | true=>
     simp only [CP,A5,BY,CS];exact hK (i:Int) es
    | false=>
    cases h3:decide (min (CQ w.toInt).l (CQ w.toInt).r≤(i:Int)) with
    | true=>
     have g3:=A4 h3;simp only [A5,BY,vax,CS];by_cases h5:(CQ w.toInt).l≤(i:Int)
     ·rw [AE h5,CP];exact hK (i:Int) es
     ·rw [AM h5,CS,AE (show (CQ w.toInt).r≤(i:Int) by omega),CP];exact hK (i:Int) es
    | false=>
     have g3:=A8 h3;rw [CS,AM (show ¬ (CQ w.toInt).l≤(i:Int) by omega),CS,AM (show ¬ (CQ w.toInt).r≤(i:Int) by omega),CS];cases h4:decide (max (CQ w.toInt).l (CQ w.toInt).r≥ic l.length) with
     | true=>
      have g4:=A4 h4;simp only [A5,BY,vax,CS];by_cases h5:(CQ w.toInt).l≥ic l.length
      ·rw [AE h5,CP];exact hK (i:Int) es
      ·rw [AM h5,CS,AE (show (CQ w.toInt).r≥ic l.length by omega),CP];exact hK (i:Int) es
     | false=>
      have g4:=A8 h4;rw [AM (show ¬ (CQ w.toInt).l≥ic l.length by omega),CS,AM (show ¬ (CQ w.toInt).r≥ic l.length by omega),CS];cases h2:((CQ w.toInt).l==(CQ w.toInt).r) with
      | true=>
       simp only [CP,CS,A5,BJ,BY,vax];exact hK (i:Int) es
      | false=>
       have g2:(CQ w.toInt).l≠(CQ w.toInt).r:=CG.1 h2;simp only [ic] at g4;obtain ⟨a,ha⟩:∃ a:Nat,(CQ w.toInt).l=(a:Int):=⟨(CQ w.toInt).l.toNat,by omega⟩;obtain ⟨b,hb'⟩:∃ b:Nat,(CQ w.toInt).r=(b:Int):=⟨(CQ w.toInt).r.toNat,by omega⟩;have hab:a≠b:=fun e=>g2 (by rw [ha,hb',e])
       have hN:=vE hw hlf hl ha hb' hab hc;rw [CS,ha,hb'];simp only [BJ,BE,BH];exact dG N l dim hl K R hK hx d (i+1) n _ hN (by omega) (by omega)
abbrev Nv (l:LI) (b:Bool) (j:Int) (es:List (Int × IV)):St:=
 ⟨[(0,(.list false [(.int .u64)] l)),(4,(.bool b)),(5,(.ptr 19 0 0)),(10,(.int .i64 j))],[(19,(some (.map .z es)))]⟩
theorem n7 (N:Nat) (l:LI) (es:List (Int × IV)) (hl:l.length≤31) (hc:PI l l.length es):∀ (d j n:Nat),j+1+d=l.length→d < n →
  C4 (GK N) (CR IR [1,1,1,1,0,1,0,0]) ⟨[0,4,5,10],[19],[]⟩ n (Nv l false ((j+1:Nat):Int) es) (CY 2 (C0 (GK N) (CR IR [1,1,1,1,1]) (C1 (GK N) none [(BD 4)] [[.bool]]))) =
   some (.bool ((va1 j d).all fun j=>E5 l (j+1)==1),[])
 | d,j,0,_,h=>absurd h (by omega)
 | 0,j,n+1,hd,_=>by
  rw [DD,pZ,AM (show ¬ ((j+1:Nat):Int) < ic l.length by simp only [ic]; omega),CS];exact wH N l false _ es
 | d+1,j,n+1,hd,hn=>by
  have ej:AA AC (((j+1:Nat):Int)+1)=((j+1+1:Nat):Int):=by
   rw [DV (by omega) (by omega)];omega
  have hg:=hc (j+1);rw [A9] at hg;rw [DD,pZ,ej,AE (show ((j+1:Nat):Int) < ic l.length by simp only [ic]; omega),CP,hg,List.range'_succ,List.all_cons];have e:(((E5 l (j+1):Nat):Int) != 1)=!(E5 l (j+1)==1):=by
   show (!(((E5 l (j+1):Nat):Int)==1))=_;congr 1;rw [vaW,BR,BR];omega
  rw [e];cases (E5 l (j+1)==1) with
  | false=>
   rw [BJ,CP];exact wI N l false _ es
  | true=>
   rw [A5,CS,BH];exact n7 N l es hl hc d (j+1) n (by omega) (by omega)
theorem o5:C5 PR B0 67 OY:=by
 refine DC [(70,JP)] [(5,⟨[0,1,4,5,20,21,22],[19],[]⟩),(17,⟨[0,4,5,10],[19],[]⟩)] OY [[.bool]] Tryz.func67 zI ⟨VT,trivial⟩ ?_;intro vs r hwf h;unfold OY at h;split at h
 ·rename_i l dim;rw [R.get_ok] at h;refine ⟨40,(Du 40 l dim).trans ?_⟩;rw [← h];unfold F7;by_cases h1:1≤l.length
  ·by_cases h2:l.length≤31
   ·rw [AM (show ¬ ic l.length < 1 by simp only [ic]; omega),AM (show ¬ ic l.length > 31 by simp only [ic]; omega),CS,CS,BX h1,BX h2];refine (dG 40 l dim h2 _ (some (.bool (RM l),[])) (fun i es=>?_) (fun es hc=>?_) l.length 0 40 [] (fun j=>?_) (by omega) (by omega)).trans ?_
    ·exact wG 40 l dim false l (ic l.length) i es
    ·refine (wF 40 l dim false l (ic l.length) (ic l.length) es).trans ?_;refine (n7 40 l es h2 hc (l.length - 1) 0 40 (by omega) (by omega)).trans ?_;unfold RM;rw [List.range_eq_range']
    ·rw [Bu,List.take_zero];rfl
    ·rw [CC];cases IF dim (ic l.length) 0 l <;> rfl
   ·have e:BI l.length 31=false:=by
     cases hb:BI l.length 31 with
     | false=>rfl
     | true=>exact absurd (AK hb) h2
    rw [AM (show ¬ ic l.length < 1 by simp only [ic]; omega),AE (show ic l.length > 31 by simp only [ic]; omega),CS,CP,e,vax,BY]
  ·have e:BI 1 l.length=false:=by
    cases hb:BI 1 l.length with
    | false=>rfl
    | true=>exact absurd (AK hb) h1
   rw [AE (show ic l.length < 1 by simp only [ic]; omega),CP,e,BY,BY]
 ·simp [R.get] at h
abbrev eZ (l:LI) (p:Pt) (x4 a j:Int):St:=
 ⟨[(0,(.list false [(.int .u64)] l)),(3,(.ptr 3 0 0)),(4,(.int .i64 x4)),(5,(.int .i64 a)),(8,(.int .i64 j))],[(3,(some (.box (Pt.cs p))))]⟩
theorem eT (N:Nat) (l:LI) (p:Pt):∀ (m j n:Nat) (a:Int),0≤a→j+m=31→m < n →
  C4 (HH N) (CR JS [1,1,0,1,0,0]) ⟨[0,3,4,5,8],[3],[]⟩ n (eZ l p 0 a (j:Int)) (CY 0 (C0 (HH N) (CR JS [1,1,1]) (C1 (HH N) none [(BD 4)] [[.z]]))) =
   some (.int .i64 (FR l p m a).1,[])
 | m,j,0,a,_,_,h=>absurd h (by omega)
 | 0,j,n+1,a,ha,hd,_=>by
  have hj:j=31:=by omega
  subst hj;rw [DD,p7,AM (show ¬ ((31:Nat):Int) < 31 by omega),CS];exact wJ N p l _ _ _
 | m+1,j,n+1,a,ha,hd,hn=>by
  have ej:AA AC ((j:Int)+1)=((j+1:Nat):Int):=FN (by omega);rw [DD,p7,AE (show (j:Int) < 31 by omega),CP,FR,ej];cases hge:decide (a≥ic l.length) with
  | true=>
   rw [CP,CP];exact aE N p l _ _ _
  | false=>
   have hge:=A8 hge;rw [CS,CS,AE ha,AE (show a < ic l.length by omega),BE,CP];generalize (l.getD a.toNat default).toInt=w;cases hb:ES w with
   | false=>
    rw [BJ,CP,CP];exact aE N p l _ _ _
   | true=>
    rw [A5,CS,CS];cases hl:(CQ w).lf with
    | true=>
     rw [CP,CP];exact aE N p l _ _ _
    | false=>
     obtain ⟨⟨f0,f4⟩,⟨l1,l31⟩,⟨r1,r31⟩,_⟩:=PZ hb hl;rw [CS,CS];have step:∀ c:Bool,(cond c (C4 (HH N) (CR JS [1,1,0,1,0,0]) ⟨[0,3,4,5,8],[3],[]⟩ n (eZ l p 0 (CQ w).l ((j+1:Nat):Int)) (CY 0 (C0 (HH N) (CR JS [1,1,1]) (C1 (HH N) none [(BD 4)] [[.z]]))))
       (C4 (HH N) (CR JS [1,1,0,1,0,0]) ⟨[0,3,4,5,8],[3],[]⟩ n (eZ l p 0 (CQ w).r ((j+1:Nat):Int)) (CY 0 (C0 (HH N) (CR JS [1,1,1]) (C1 (HH N) none [(BD 4)] [[.z]]))))) =
       some (.int .i64 (cond c (FR l p m (CQ w).l) (FR l p m (CQ w).r)).1,[]):=fun c=>by
      cases c with
      | true=>exact eT N l p m (j+1) n (CQ w).l (by omega) (by omega) (by omega)
      | false=>exact eT N l p m (j+1) n (CQ w).r (by omega) (by omega) (by omega)
     obtain e | e | e | e:(CQ w).f=0∨(CQ w).f=1∨(CQ w).f=2∨(CQ w).f=3:=by omega
     all_goals
      rw [e];exact step _
theorem Kr:C5 PR B0 88 TA:=by
 refine DC [(70,JP)] [(3,⟨[0,3,4,5,8],[3],[]⟩)] TA [[.z]] Tryz.func88 zL ⟨VT,trivial⟩ ?_;intro vs r hwf h;unfold TA at h;split at h
 ·rename_i l p;replace h:=L7 h;obtain ⟨p,rfl,h⟩:=h;rw [R.get_ok] at h;refine ⟨32,?_⟩;rw [← h];exact (Dx 32 l p).trans (eT 32 l p 31 0 32 0 (by omega) rfl (by omega))
 ·simp [R.get] at h
theorem Z5 (l:LI) (p:Pt):∀ (n:Nat) (a:Int),0≤a→((FR l p n a).1 = -1∧(FR l p n a).2=Nd.zero)∨(0≤(FR l p n a).1∧(FR l p n a).1 < ic l.length∧(FR l p n a).2=CQ (l.getD (FR l p n a).1.toNat default).toInt)
 | 0,_,_=>.inl ⟨rfl,rfl⟩
 | n+1,a,ha=>by
  rw [FR];cases hge:decide (a≥ic l.length) with
  | true=>exact .inl ⟨rfl,rfl⟩
  | false=>
   have hge:=A8 hge;rw [CS];generalize hw:(l.getD a.toNat default).toInt=w;cases hb:ES w with
   | false=>exact .inl ⟨rfl,rfl⟩
   | true=>
    rw [A5,CS];cases hl:(CQ w).lf with
    | true=>
     right;rw [CP];exact ⟨ha,by show a < _; omega,by rw [hw]⟩
    | false=>
     obtain ⟨_,⟨l1,_⟩,⟨r1,_⟩,_⟩:=PZ hb hl;rw [CS];cases decide (p.g (CQ w).f.toNat≤(CQ w).a) with
     | true=>exact Z5 l p n _ (by omega)
     | false=>exact Z5 l p n _ (by omega)
theorem Kq:C5 PR B0 69 S9:=by
 refine DC [(70,JP),(88,TA)] [] S9 [[.z]] Tryz.func69 zK ⟨VT,Kr,trivial⟩ ?_;intro vs r hwf h;unfold S9 at h;split at h
 ·rename_i l p;replace h:=L7 h;obtain ⟨p,rfl,h⟩:=h;rw [R.get_ok] at h;refine ⟨0,(Dw 0 l p).trans ?_⟩;rw [← h];unfold HG WO PL;rcases Z5 l p 31 0 (by omega) with ⟨e1,e2⟩ | ⟨e1,e2,e3⟩
  ·rw [e1,e2];rfl
  ·rw [AM (show ¬ (FR l p 31 0).1 < 0 by omega),CS,AE e1,AE e2,BE,CP,e3]
 ·simp [R.get] at h
theorem Ja (N:Nat) (m:Md) (K:Out→St→CU) (R:CU) (hr:∀ i,K .ret ⟨[(1,(.ptr 1 0 0)),(2,(.bool false)),(32,(.agg [(.int .i64 m.b0),(.int .i64 m.b1),(.int .i64 m.b2)])),(33,(.int .i64 i))],[(1,(some (.box (Md.cs m))))]⟩=some (.bool false,[]))
  (hx:K (.exit 0) ⟨[(1,(.ptr 1 0 0)),(2,(.bool false)),(32,(.agg [(.int .i64 m.b0),(.int .i64 m.b1),(.int .i64 m.b2)])),(33,(.int .i64 3))],[(1,(some (.box (Md.cs m))))]⟩=R) :
  C4 (GJ N) (CR IQ [1,1,0,1,0,0]) ⟨[1,2,32,33],[1],[]⟩ 10 ⟨[(1,(.ptr 1 0 0)),(2,(.bool false)),(32,(.agg [(.int .i64 m.b0),(.int .i64 m.b1),(.int .i64 m.b2)])),(33,(.int .i64 0))],[(1,(some (.box (Md.cs m))))]⟩ K =
   cond (FZ m.c 0 m.b0&&(FZ m.c 1 m.b1&&FZ m.c 2 m.b2)) R (some (.bool false,[])):=by
 have key:∀ (n:Nat) (i:Int) (b:Int) (X:CU),(cond (!DL b) (some (V.bool false,[])) (cond (decide (i≥m.c)) (cond (b != 0) (some (V.bool false,[])) X) X):CU)=cond (FZ m.c i b) X (some (V.bool false,[])):=fun n i b X=>by
  unfold FZ;show (cond (!DL b) _ (cond (decide (i≥m.c)) (cond (!(b==0)) _ X) X))=_;cases DL b <;> cases decide (i≥m.c) <;> cases b==0 <;> rfl
 have w1:AA AC (0+1)=1:=rfl;have w2:AA AC (1+1)=2:=rfl;have w3:AA AC (2+1)=3:=rfl;rw [show (10:Nat)=9+1 from rfl,DD,YO];rw [show decide ((0:Int) < 3)=true from rfl,CP,show decide ((0:Int)=ic 0)=true from rfl,CP,hr,w1,key 0];rw [show (9:Nat)=8+1 from rfl,DD,YO];rw [show decide ((1:Int) < 3)=true from rfl,CP,show decide ((1:Int)=ic 0)=false from rfl,CS,show decide ((1:Int)=ic 1)=true from rfl,CP,hr,w2,key 0];rw [show (8:Nat)=7+1 from rfl,DD,YO];rw [show decide ((2:Int) < 3)=true from rfl,CP,show decide ((2:Int)=ic 0)=false from rfl,CS,show decide ((2:Int)=ic 1)=false from rfl,CS,show decide ((2:Int)=ic 2)=true from rfl,CP,hr,w3,key 0];rw [show (7:Nat)=6+1 from rfl,DD,YO];rw [show decide ((3:Int) < 3)=false from rfl,CS,hx];cases FZ m.c 0 m.b0 <;> cases FZ m.c 1 m.b1 <;> cases FZ m.c 2 m.b2 <;> rfl
abbrev Nu (m:Md) (i:Int):St:=⟨[(1,(.ptr 1 0 0)),(2,(.bool false)),(52,(.list true EU m.ts)),(53,(.int .i64 (ic m.ts.length))),(54,(.int .i64 i))],[(1,(some (.box (Md.cs m))))]⟩
theorem oE (N:Nat) (m:Md) (hm:m.ts.length≤8):∀ (d i n:Nat),i+d=m.ts.length→d < n →
  C4 (GJ N) (CR IQ [1,1,1,0,1,0,0]) ⟨[1,2,52,53,54],[1],[]⟩ n (Nu m (i:Int)) (CY 2 (C0 (GJ N) (CR IQ [1,1,1,1]) (C1 (GJ N) none [(BD 2)] [[.bool]]))) =
   some (.bool ((m.ts.drop i).all (GU m.d m.c)),[])
 | d,i,0,_,h=>absurd h (by omega)
 | 0,i,n+1,hd,_=>by
  have hi:i=m.ts.length:=by omega
  subst hi;rw [DD,pX,JB (AP _),CS,CE];exact wE N m false _ _ _
 | d+1,i,n+1,hd,hn=>by
  have hi:i < m.ts.length:=by omega
  have ei:AA AC ((i:Int)+1)=((i+1:Nat):Int):=FN (by omega);rw [DD,pX,ei,IB hi,CP,IA,BE,CP,IW hi,BC hi,List.all_cons];have ih:=oE N m hm d (i+1) n (by omega) (by omega);unfold GU;cases decide ((m.ts[i].cell 0).toInt < 0) with
  | true=>
   rw [CP];exact aD N m false _ _ _
  | false=>
   cases decide ((m.ts[i].cell 0).toInt≥m.c) with
   | true=>
    rw [CS,CP];exact aD N m false _ _ _
   | false=>
    cases F7 (m.ts[i].cell 1).toList m.d with
    | false=>
     rw [CS,CS,BJ,CP];exact aD N m false _ _ _
    | true=>
     rw [CS,CS,A5,CS];exact ih
theorem dV:C5 PR B0 41 MM:=by
 refine DC [(42,MK),(67,OY)] [(4,⟨[1,2,32,33],[1],[]⟩),(10,⟨[1,2,52,53,54],[1],[]⟩)] MM [[.bool]] Tryz.func41 zG ⟨dT,o5,trivial⟩ ?_;intro vs r hwf h;unfold MM at h;split at h
 ·rename_i m;replace h:=F8 h;obtain ⟨m,rfl,h⟩:=h;rw [R.get_ok] at h;refine ⟨10,(Dr 10 m).trans ?_⟩;rw [← h];unfold DX;cases decide (m.d < 1) with
  | true=>rfl
  | false=>
   cases decide (m.d > 4) with
   | true=>rfl
   | false=>
    cases decide (m.c < 1) with
    | true=>rfl
    | false=>
     cases decide (m.c > 3) with
     | true=>rfl
     | false=>
      rw [CS,CS,CS,CS];by_cases h8:m.ts.length≤8
      ·rw [AM (show ¬ ic m.ts.length > 8 by simp only [ic]; omega),CS,BX h8];refine (Ja 10 m _ (some (.bool (m.ts.all (GU m.d m.c)),[])) (fun i=>wD 10 m false _ _ _ i) ?_).trans ?_
       ·refine (wC 10 m false _ _ _ 3).trans ?_;exact oE 10 m h8 m.ts.length 0 10 (by omega) (by omega)
       ·cases (FZ m.c 0 m.b0&&(FZ m.c 1 m.b1&&FZ m.c 2 m.b2)) <;> rfl
      ·have e:BI m.ts.length 8=false:=by
        cases hb:BI m.ts.length 8 with
        | false=>rfl
        | true=>exact absurd (AK hb) h8
       rw [AE (show ic m.ts.length > 8 by simp only [ic]; omega),CP,e];rfl
 ·simp [R.get] at h
abbrev Nw (ts:LI) (p:Pt) (k s i:Int):St:=
 ⟨[(1,(.int .i64 k)),(5,(.ptr 5 0 0)),(6,(.int .i64 0)),(7,(.int .i64 s)),(28,(.list true EU ts)),(29,(.int .i64 (ic (AF ts)))),(30,(.int .i64 i))],[(5,(some (.box (Pt.cs p))))]⟩
theorem dC (N:Nat) (ts:LI) (p:Pt) (k:Int) (hts:ts.length≤8):∀ (m i n:Nat) (s:Int),i+m=ts.length→m < n → -2147483648*(i+1)≤s∧s≤2147483648*(i+1) →
  C4 (H2 N) (CR KC [1,1,1,0,1,0,0]) ⟨[1,5,6,7,28,29,30],[5],[]⟩ n (Nw ts p k s (i:Int)) (CY 0 (C0 (H2 N) (CR KC [1,1,1,1]) (C1 (H2 N) none [(BD 6)] [[.z]]))) =
   some (.int .i64 (NT k p (ts.drop i) s),[])
 | m,i,0,s,_,h,_=>absurd h (by omega)
 | 0,i,n+1,s,hd,_,_=>by
  have hi:i=ts.length:=by omega
  subst hi;rw [DD,pW,JB (AP _),CS,CE];exact wB N p _ _ _ _ _ _
 | m+1,i,n+1,s,hd,hn,hs=>by
  have hi:i < ts.length:=by omega
  have ei:AA AC ((i:Int)+1)=((i+1:Nat):Int):=FN (by omega);rw [DD,pW,ei,IB hi,CP,IA,BE,CP,IW hi,BC hi,NT];have hv:=rL (D2 ts[i]) p;cases hc:((ts[i].cell 0).toInt==k) with
  | true=>
   rw [CP,CP];have ew:AA AC (s+HG (D2 ts[i]) p)=s+HG (D2 ts[i]) p:=DV (by omega) (by omega);have ih:=dC N ts p k hts m (i+1) n (s+HG (D2 ts[i]) p) (by omega) (by omega) (by omega);rw [← ew] at ih;refine Eq.trans ih ?_;rw [ew]
  | false=>
   rw [CS,CS];exact dC N ts p k hts m (i+1) n s (by omega) (by omega) (by omega)
theorem Kp:C5 PR B0 46 S8:=by
 refine DC [(41,MM),(69,S9)] [(5,⟨[1,5,6,7,28,29,30],[5],[]⟩)] S8 [[.z]] Tryz.func46 zE ⟨dV,Kq,trivial⟩ ?_;intro vs r hwf h;unfold S8 at h;split at h
 ·rename_i m k p;replace h:=F8 h;obtain ⟨m,rfl,h⟩:=h;replace h:=L7 h;obtain ⟨p,rfl,h⟩:=h;rw [R.get_ok] at h;refine ⟨10,(Dp 10 m k p).trans ?_⟩;rw [← h];unfold CW;cases hm:DX m with
  | false=>rfl
  | true=>
   rw [A5,CS,BH];cases h0:decide (k < 0) with
   | true=>
    have:FA m k=false:=by unfold FA; rw [AM (show ¬ 0≤k by have:=A4 h0; omega)]; rfl
    rw [this]; rfl
   | false=>
    have h0:=A8 h0;cases h1:decide (k≥m.c) with
    | true=>
     have:FA m k=false:=by unfold FA; rw [AM (show ¬ k < m.c by have:=A4 h1; omega),vax]
     rw [this]; rfl
    | false=>
     have h1:=A8 h1;have hk:FA m k=true:=by unfold FA; rw [AE (show 0≤k by omega),AE (show k < m.c by omega)]; rfl
     have hb:=UF hm k;have run:=dC 10 m.ts p k (G2 hm).2.2.1 m.ts.length 0 10 (H5 m k) (by omega) (by have:=(G2 hm).2.2.1; omega) (by omega);rw [hk,CS,CS];rcases WK hm hk with rfl | rfl | rfl <;> exact run
 ·simp [R.get] at h
open Go
open Go Go.Proofs
open Go Go.Proofs
open Go Go.Proofs
open Go Go.Proofs
open Go Go.Proofs
theorem kP {j:Nat} (h:j < 5):E3 (j:Int)=true:=by
 unfold E3;rw [AE (by omega),AE (by omega)];rfl
open Go
open Go Go.Proofs
set_option maxRecDepth 100000
open Go Go.Proofs
def GD (N:Nat):Env:=DB [(70,JP)] [(8,⟨[3,6,8,9,10,42,43,44],[6,40],[]⟩),(11,⟨[3,6,8,9,10,42,43,44,49,50,51],[6,40],[]⟩),(20,⟨[8,17,96],[96,500],[⟨.tmp 17,500,3,false,[.z]⟩]⟩),(24,⟨[8,17,18,19,96],[96,500],[⟨.tmp 17,500,3,false,[.z]⟩]⟩)] 133 N
abbrev RE:KP:=⟨[3,6,8,9,10,42,43,44],[6,40],[]⟩
abbrev a5:KP:=⟨[3,6,8,9,10,42,43,44,49,50,51],[6,40],[]⟩
abbrev UX:KP:=⟨[8,17,96],[96,500],[⟨.tmp 17,500,3,false,[.z]⟩]⟩
abbrev a6:KP:=⟨[8,17,18,19,96],[96,500],[⟨.tmp 17,500,3,false,[.z]⟩]⟩
abbrev MA (b:Bx) (j f:Int) (ts:LI) (e i:Int) (es:List (Int × IV)):St:=⟨[(3,.int .i64 j),(6,.ptr 6 0 0),(8,.zs),(9,.int .i64 f),(10,.ptr 40 0 0),(42,.list true EU ts),(43,.int .i64 e),(44,.int .i64 i)],[(6,some (.box b.cs)),(40,some (.map .bool es))]⟩
abbrev J5 (b:Bx) (j f:Int) (ts:LI) (e i:Int) (l:LI) (g x:Int) (es:List (Int × IV)):St:=⟨[(3,.int .i64 j),(6,.ptr 6 0 0),(8,.zs),(9,.int .i64 f),(10,.ptr 40 0 0),(42,.list true EU ts),(43,.int .i64 e),(44,.int .i64 i),(49,.list false [.int .u64] l),(50,.int .i64 g),(51,.int .i64 x)],[(6,some (.box b.cs)),(40,some (.map .bool es))]⟩
abbrev OM (n:Nat) (u:Option (Int × IV)) (es:List (Int × IV)) (L:LI):St:=⟨[(8,.zs),(17,.row 500 0 n),(96,.ptr 96 0 0)],[(96,some (.iter .bool u es)),(500,some (.row true 3 false [.z] L))]⟩
abbrev NC (n:Nat) (t k:Int) (u:Option (Int × IV)) (es:List (Int × IV)) (L:LI):St:=⟨[(8,.zs),(17,.row 500 0 n),(18,.int .i64 t),(19,.int .i64 k),(96,.ptr 96 0 0)],[(96,some (.iter .bool u es)),(500,some (.row true 3 false [.z] L))]⟩
abbrev VH:List Nat:=[1,1,1,1,1,0,1,0,0]
abbrev cN:List Nat:=[1,1,1,1,1,0,1,0,0,1,1,0,0,1,1,0,0]
abbrev X4:List Nat:=[1,1,1,1,1,1,1,0,1,0,0]
abbrev cO:List Nat:=[1,1,1,1,1,1,1,0,1,0,0,1,1,0,1,1,1,0,0,0]
noncomputable abbrev W4 (N:Nat):Out→St→CU:=CY 0 (C0 (GD N) (CR GM [1,1,1,1,1,1]) (C1 (GD N) none [.tmp 8] [[.list false [.z]]]))
noncomputable abbrev kY (N:Nat) (again:St→CU) (k:Out→St→CU):Out→St→CU:=CY 2 (CY 1 (C0 (GD N) (CR GM [1,1,1,1,1,0,1,0,0,1,1,1]) (D4 again RE k)))
noncomputable abbrev RA (N:Nat):Out→St→CU:=CY 4 (C0 (GD N) (CR GM [1,1,1,1,1,1,1,1]) (C1 (GD N) none [.tmp 8] [[.list false [.z]]]))
noncomputable abbrev aT (N:Nat) (again:St→CU) (k:Out→St→CU):Out→St→CU:=CY 6 (C0 (GD N) (CR GM [1,1,1,1,1,1,1,0,1,0,0,1,1,0,1,1,1,1]) (CY 5 (D4 again UX k)))
def fR (q:Qy) (j:Nat):Int:=cond (AZ j 4) q.ft (j:Int)
set_option maxRecDepth 100000
theorem Db (N:Nat) (m:Md) (q:Qy) (b:Bx) {j:Nat} (hj:j < 5):C6 (GD N) GM [.tmp 8] [[.list false [.z]]] [m.V,q.V,b.V,.int .i64 (j:Int)] =
 cond (AZ j 4) (cond (q.k != 3) (some (.list false [.z] [],[])) (C4 (GD N) (CR GM VH) RE N (MA b (j:Int) (fR q j) m.ts (ic m.ts.length) 0 []) (W4 N)))
 (C4 (GD N) (CR GM VH) RE N (MA b (j:Int) (fR q j) m.ts (ic m.ts.length) 0 []) (W4 N)):=by
 obtain rfl | rfl | rfl | rfl | rfl:j=0∨j=1∨j=2∨j=3∨j=4:=by omega
 all_goals kernel_rfl
theorem qH (N:Nat) (b:Bx) (j f:Int) (ts:LI) (e i:Int) (es:List (Int × IV)) (again:St→CU) (k:Out→St→CU):D9 (GD N) (CR GM VH) (MA b j f ts e i es) (D4 again RE k) =
 cond (decide (i < e)) (cond (decide (0≤i)&&decide (i < ic (AF ts)))
 (C4 (GD N) (CR GM cN) a5 N (J5 b j f ts e i (IV.toList (IV.cell (AG ts (AD i) default) 1)) (ic (AF (IV.toList (IV.cell (AG ts (AD i) default) 1)))) 0 es) (kY N again k)) none)
 (k (.exit 0) (MA b j f ts e i es)):=by kernel_rfl
theorem qI (N:Nat) (b:Bx) {j:Nat} (hj:j < 5) (f:Int) (ts:LI) (e i:Int) (l:LI) (g x:Int) (es:List (Int × IV)) (again:St→CU) (k:Out→St→CU):D9 (GD N) (CR GM cN) (J5 b (j:Int) f ts e i l g x es) (D4 again a5 k) =
 cond (decide (x < g)) (cond (decide (0≤x)&&decide (x < ic (AF l)))
 (cond (ES (IV.toInt (AG l (AD x) default))) (cond (!(CQ (IV.toInt (AG l (AD x) default))).lf) (cond ((CQ (IV.toInt (AG l (AD x) default))).f==f)
 (cond (decide ((CQ (IV.toInt (AG l (AD x) default))).a≥(b.g j).lo)) (cond (decide ((CQ (IV.toInt (AG l (AD x) default))).a < (b.g j).hi))
 (again (J5 b (j:Int) f ts e i l g (CZ (x+1)) (E6 es (CQ (IV.toInt (AG l (AD x) default))).a (.bool true))))
 (again (J5 b (j:Int) f ts e i l g (CZ (x+1)) es))) (again (J5 b (j:Int) f ts e i l g (CZ (x+1)) es))) (again (J5 b (j:Int) f ts e i l g (CZ (x+1)) es)))
 (again (J5 b (j:Int) f ts e i l g (CZ (x+1)) es))) (again (J5 b (j:Int) f ts e i l g (CZ (x+1)) es))) none)
 (k (.exit 2) (J5 b (j:Int) f ts e i l g x es)):=by
 obtain rfl | rfl | rfl | rfl | rfl:j=0∨j=1∨j=2∨j=3∨j=4:=by omega
 all_goals kernel_rfl
theorem wY (N:Nat) (b:Bx) (j f:Int) (ts:LI) (e i:Int) (l:LI) (g x:Int) (es:List (Int × IV)) (again:St→CU) (k:Out→St→CU):kY N again k (.exit 2) (J5 b j f ts e i l g x es)=again (MA b j f ts e (CZ (i+1)) es):=by kernel_rfl
theorem wX (N:Nat) (b:Bx) (j f:Int) (ts:LI) (e i:Int) (es:List (Int × IV)):W4 N (.exit 0) (MA b j f ts e i es)=C4 (GD N) (CR GM X4) UX N (OM 0 none es []) (RA N):=by kernel_rfl
theorem qJ (N n:Nat) (u:Option (Int × IV)) (es:List (Int × IV)) (L:LI) (again:St→CU) (k:Out→St→CU):D9 (GD N) (CR GM X4) (OM n u es L) (D4 again UX k) =
 cond (AZ (AF es) 0) (k (.exit 4) (OM n u es L))
 (QR (AF es) fun i=>cond (decide ((n+1)*8≤DJ)) (C4 (GD N) (CR GM cO) a6 N (NC (n+1) (E7 es i).1 (ic (n - 0)) (some (E7 es i)) (GN es i) (AU n L++[IV.int (E7 es i).1])) (aT N again k)) none):=by kernel_rfl
theorem wZ (N n:Nat) (u:Option (Int × IV)) (es:List (Int × IV)) (L:LI):RA N (.exit 4) (OM n u es L)=some (.list false [.z] (B5 0 (AU n L)),[]):=by kernel_rfl
theorem qK (N n:Nat) (t x:Int) (u:Option (Int × IV)) (es:List (Int × IV)) (L:LI) (again:St→CU) (k:Out→St→CU):D9 (GD N) (CR GM cO) (NC n t x u es L) (D4 again a6 k) =
 cond (decide (x > 0)) (cond (decide (0≤CZ (x - 1))&&decide (CZ (x - 1) < ic (n - 0)))
 (cond (decide (IV.toInt (AG L (0+AD (CZ (x - 1))) default) > t))
 (cond (decide (0≤CZ (x - 1))&&decide (CZ (x - 1) < ic (n - 0))) (cond (decide (0≤x)&&decide (x < ic (n - 0)))
 (again (NC n t (CZ (x - 1)) u es (vaH L (0+AD x) (IV.int (IV.toInt (AG L (0+AD (CZ (x - 1))) default)))))) none) none)
 (k (.exit 6) (NC n t x u es L))) none)
 (k (.exit 6) (NC n t x u es L)):=by kernel_rfl
theorem w8 (N n:Nat) (t x:Int) (u:Option (Int × IV)) (es:List (Int × IV)) (L:LI) (again:St→CU) (k:Out→St→CU):aT N again k (.exit 6) (NC n t x u es L) =
 cond (decide (0≤x)&&decide (x < ic (n - 0))) (again (OM n u es (vaH L (0+AD x) (IV.int t)))) none:=by kernel_rfl
open Go Go.Proofs
set_option maxRecDepth 100000
def MY (f lo hi:Int) (w:IV):Bool:=ES w.toInt&&(!(CQ w.toInt).lf&&(((CQ w.toInt).f==f)&&(decide ((CQ w.toInt).a≥lo)&&decide ((CQ w.toInt).a < hi))))
def IY (f lo hi:Int) (es:List (Int × IV)) (w:IV):List (Int × IV):=cond (MY f lo hi w) (E6 es (CQ w.toInt).a (.bool true)) es
def LX (f lo hi:Int) (es:List (Int × IV)) (t:IV):List (Int × IV):=(D2 t).foldl (IY f lo hi) es
theorem Hx {f lo hi:Int} {w:IV} {es:List (Int × IV)} (a:Int):a∈D7 (IY f lo hi es w)↔a∈D7 es∨(MY f lo hi w=true∧a=(CQ w.toInt).a):=by
 unfold IY;cases MY f lo hi w with
 | true=>
  rw [CP,aY];constructor
  ·rintro (h | h)
   ·exact .inr ⟨rfl,h⟩
   ·exact .inl h
  ·rintro (h | ⟨_,h⟩)
   ·exact .inr h
   ·exact .inl h
 | false=>
  rw [CS];constructor
  ·exact .inl
  ·rintro (h | ⟨h,_⟩)
   ·exact h
   ·cases h
theorem Hy {f lo hi:Int} {w:IV} {es:List (Int × IV)} (h:(D7 es).Nodup):(D7 (IY f lo hi es w)).Nodup:=by
 unfold IY;cases MY f lo hi w with
 | true=>exact k8 h
 | false=>exact h
theorem nD {f lo hi:Int} (a:Int):∀ (l:LI) (es:List (Int × IV)),a∈D7 (l.foldl (IY f lo hi) es)↔a∈D7 es∨∃ w∈l,MY f lo hi w=true∧a=(CQ w.toInt).a
 | [],es=>by simp
 | w :: r,es=>by
  rw [vam,nD a r,Hx];constructor
  ·rintro ((h | h) | ⟨w',hw,h⟩)
   ·exact .inl h
   ·exact .inr ⟨w,AS ..,h⟩
   ·exact .inr ⟨w',AY _ hw,h⟩
  ·rintro (h | ⟨w',hw,h⟩)
   ·exact .inl (.inl h)
   ·rcases AR.1 hw with rfl | hw
    ·exact .inl (.inr h)
    ·exact .inr ⟨w',hw,h⟩
theorem nF {f lo hi:Int}:∀ (l:LI) (es:List (Int × IV)),(D7 es).Nodup→(D7 (l.foldl (IY f lo hi) es)).Nodup
 | [],_,h=>h
 | w :: r,es,h=>by
  rw [vam];exact nF r _ (Hy h)
theorem nG {f lo hi:Int} (a:Int):∀ (ts:LI) (es:List (Int × IV)),a∈D7 (ts.foldl (LX f lo hi) es)↔a∈D7 es∨∃ t∈ts,∃ w∈D2 t,MY f lo hi w=true∧a=(CQ w.toInt).a
 | [],es=>by simp
 | t :: r,es=>by
  rw [vam,nG a r];unfold LX;rw [nD];constructor
  ·rintro ((h | h) | ⟨w',hw,h⟩)
   ·exact .inl h
   ·exact .inr ⟨t,AS ..,h⟩
   ·exact .inr ⟨w',AY _ hw,h⟩
  ·rintro (h | ⟨w',hw,h⟩)
   ·exact .inl (.inl h)
   ·rcases AR.1 hw with rfl | hw
    ·exact .inl (.inr h)
    ·exact .inr ⟨w',hw,h⟩
theorem nI {f lo hi:Int}:∀ (ts:LI) (es:List (Int × IV)),(D7 es).Nodup→(D7 (ts.foldl (LX f lo hi) es)).Nodup
 | [],_,h=>h
 | t :: r,es,h=>by
  rw [vam];exact nI r _ (nF _ _ h)
theorem Bt (es:List (Int × IV)) (k:Int) (x:IV):(E6 es k x).length≤es.length+1:=by
 induction es with
 | nil=>exact AP _
 | cons e r ih=>
  obtain ⟨j,y⟩:=e;rw [XM];cases j==k with
  | true=>exact Nat.le_succ _
  | false=>
   rw [BB,AT,AT];omega
theorem nE {f lo hi:Int}:∀ (l:LI) (es:List (Int × IV)),(l.foldl (IY f lo hi) es).length≤es.length+l.length
 | [],_=>AP _
 | w :: r,es=>by
  rw [vam,AT];have h1:=nE (f:=f) (lo:=lo) (hi:=hi) r (IY f lo hi es w);have h2:(IY f lo hi es w).length≤es.length+1:=by
   unfold IY;cases MY f lo hi w with
   | true=>exact Bt ..
   | false=>exact Nat.le_succ _
  omega
theorem nH {f lo hi:Int}:∀ (ts:LI) (es:List (Int × IV)),(∀ t∈ts,(D2 t).length≤31)→(ts.foldl (LX f lo hi) es).length≤es.length+31*ts.length
 | [],_,_=>AP _
 | t :: r,es,h=>by
  rw [vam,AT];have h1:=nH (f:=f) (lo:=lo) (hi:=hi) r (LX f lo hi es t) fun x hx=>h x (AY _ hx)
  have h2:=nE (f:=f) (lo:=lo) (hi:=hi) (D2 t) es;have h3:=h t (AS ..);have h4:(LX f lo hi es t).length=((D2 t).foldl (IY f lo hi) es).length:=rfl;omega
theorem jN (N:Nat) (b:Bx) {j:Nat} (hj:j < 5) (f:Int) (ts:LI) (e i:Int) (l:LI) (hl:l.length≤31) (K:Out→St→CU):∀ (d x n:Nat) (es:List (Int × IV)),x+d=l.length→d < n →
  C4 (GD N) (CR GM cN) a5 n (J5 b (j:Int) f ts e i l (ic l.length) (x:Int) es) K=K (.exit 2) (J5 b (j:Int) f ts e i l (ic l.length) (ic l.length) ((l.drop x).foldl (IY f (b.g j).lo (b.g j).hi) es))
 | 0,x,n+1,es,hd,_=>by
  have hx:x=l.length:=by omega
  subst hx;rw [DD,qI N b hj,JB (AP _),CS,CE];rfl
 | d+1,x,n+1,es,hd,hn=>by
  have hx:x < l.length:=by omega
  have ih:=jN N b hj f ts e i l hl K d (x+1) n (IY f (b.g j).lo (b.g j).hi es l[x]) (by omega) (by omega);rw [DD,qI N b hj,IB hx,CP,IA,BE,CP,IW hx,show CZ ((x:Int)+1)=((x+1:Nat):Int) from FN (by omega),BC hx,vam,← ih];unfold IY MY;cases ES l[x].toInt <;> cases (CQ l[x].toInt).lf <;> cases (CQ l[x].toInt).f==f <;> cases decide ((CQ l[x].toInt).a≥(b.g j).lo) <;> cases decide ((CQ l[x].toInt).a < (b.g j).hi) <;> rfl
 | 0,_,0,_,_,h=>by omega
 | _+1,_,0,_,_,h=>by omega
theorem jP (N:Nat) (hN:40≤N) (b:Bx) {j:Nat} (hj:j < 5) (f:Int) (ts:LI) (hts:∀ t∈ts,(D2 t).length≤31) (h8:ts.length≤8) (K:Out→St→CU):∀ (d i n:Nat) (es:List (Int × IV)),i+d=ts.length→d < n →
  C4 (GD N) (CR GM VH) RE n (MA b (j:Int) f ts (ic ts.length) (i:Int) es) K=K (.exit 0) (MA b (j:Int) f ts (ic ts.length) (ic ts.length) ((ts.drop i).foldl (LX f (b.g j).lo (b.g j).hi) es))
 | 0,i,n+1,es,hd,_=>by
  have hx:i=ts.length:=by omega
  subst hx;rw [DD,qH,JB (AP _),CS,CE];rfl
 | d+1,i,n+1,es,hd,hn=>by
  have hi:i < ts.length:=by omega
  have hl:=hts _ (List.getElem_mem hi);have ih:=jP N hN b hj f ts hts h8 K d (i+1) n (LX f (b.g j).lo (b.g j).hi es ts[i]) (by omega) (by omega);rw [DD,qH,IB hi,CP,IA,BE,CP,IW hi,BC hi,vam,← ih];refine (jN N b hj f ts (ic ts.length) (i:Int) (D2 ts[i]) hl _ (D2 ts[i]).length 0 N es (by omega) (by omega)).trans ?_;rw [wY,show CZ ((i:Int)+1)=((i+1:Nat):Int) from FN (by omega),CC];rfl
 | 0,_,0,_,_,h=>by omega
 | _+1,_,0,_,_,h=>by omega
theorem kL (a b:List Int):iZ (a++b)=iZ a++iZ b:=List.map_append ..
def JH (L:List Int) (k:Nat) (x:Int):LI:=iZ (L.take k)++.int x :: iZ (L.drop k)
theorem Ik {L:List Int} {k:Nat} (hk:k < L.length) (x:Int):((JH L (k+1) x).getD k default).toInt=L[k]:=by
 unfold JH;have h1:k < (iZ (L.take (k+1))).length:=by rw [H9,A1]; omega
 rw [BG,List.getElem?_append_left h1];unfold iZ;rw [BZ,List.getElem?_take_of_lt (by omega),AV hk];rfl
theorem n8 {L:List Int} {k:Nat} (hk:k≤L.length) (x y:Int):(JH L k x).set k (.int y)=JH L k y:=by
 unfold JH;have h1:(iZ (L.take k)).length=k:=by rw [H9,A1]; omega
 rw [List.set_append_right _ _ (by omega),h1,Nat.sub_self];rfl
theorem Il {L:List Int} {k:Nat} (hk:k < L.length):JH L (k+1) L[k]=JH L k L[k]:=by
 have e1:L.take (k+1)=L.take k++[L[k]]:=by rw [List.take_add_one,AV hk]; rfl
 have e2:L.drop k=L[k] :: L.drop (k+1):=BC hk;unfold JH;rw [e1,e2,kL,List.append_assoc];rfl
theorem kT (N:Nat) (t:Int) (u:Option (Int × IV)) (es:List (Int × IV)) (L:List Int) (hL:L.Pairwise (· < ·)) (ht:t ∉ L) (hlen:L.length≤65536) (K:Out→St→CU):∀ (k n:Nat) (x:Int),k≤L.length→k < n→(∀ y∈L.drop k,t < y) →
  ∃ (k':Nat) (x':Int),k'≤L.length∧(∀ y∈L.drop k',t < y)∧(∀ y∈L.take k',y < t) ∧
   C4 (GD N) (CR GM cO) a6 n (NC (L.length+1) t (k:Int) u es (JH L k x)) K=K (.exit 6) (NC (L.length+1) t (k':Int) u es (JH L k' x'))
 | 0,n+1,x,_,_,hd=>by
  refine ⟨0,x,B3 _,hd,fun y hy=>by simp at hy,?_⟩;rw [DD,qK,AM (show ¬ ((0:Nat):Int) > 0 by omega),CS]
 | k+1,n+1,x,hk,hn,hd=>by
  have hk':k < L.length:=by omega
  have ek:CZ (((k+1:Nat):Int) - 1)=(k:Int):=by
   rw [show ((k+1:Nat):Int) - 1=(k:Int) by omega];exact DV (by omega) (by omega)
  rw [DD,qK,AE (show ((k+1:Nat):Int) > 0 by omega),CP,ek,AE (show (0:Int)≤(k:Int) by omega),AE (show (k:Int) < ic (L.length+1 - 0) by simp only [ic]; omega),BE,CP,A0,BL,Ik hk'];by_cases hgt:L[k] > t
  ·rw [AE hgt,CP,CP,AE (show (0:Int)≤((k+1:Nat):Int) by omega),AE (show ((k+1:Nat):Int) < ic (L.length+1 - 0) by simp only [ic]; omega),BE,CP,A0,BL,n8 hk,Il hk'];exact kT N t u es L hL ht hlen K k n L[k] (by omega) (by omega) fun y hy=>by
    rw [BC hk'] at hy;rcases AR.1 hy with rfl | hy
    ·exact hgt
    ·exact hd y hy
  ·rw [AM hgt,CS];refine ⟨k+1,x,hk,hd,fun y hy=>?_,rfl⟩;have hne:L[k]≠t:=fun e=>ht (e ▸ List.getElem_mem hk')
   obtain ⟨i,hi,rfl⟩:=List.mem_iff_getElem.1 hy;rw [A1] at hi;rw [List.getElem_take];by_cases e:i=k
   ·subst e; omega
   ·have:=List.pairwise_iff_getElem.1 hL i k (by omega) hk' (by omega)
    omega
 | 0,0,_,_,h,_=>by omega
 | _+1,0,_,_,h,_=>by omega
theorem jO (N:Nat) (hN:65537 < N) (T:List Int) (hT:T.Pairwise (· < ·)):∀ (d n:Nat) (L:List Int) (u:Option (Int × IV)) (es:List (Int × IV)),es.length=d→d < n→L.Pairwise (· < ·)→(D7 es).Nodup→(∀ x∈L,x ∉ D7 es)→(∀ x,x∈T↔x∈L∨x∈D7 es)→L.length+d≤65536 →
  C4 (GD N) (CR GM X4) UX n (OM L.length u es (iZ L)) (RA N)=some (.list false [.z] (iZ T),[])
 | 0,n+1,L,u,es,hes,_,hL,_,_,hm,_=>by
  have e0:es=[]:=vaK hes;subst e0;rw [DD,qJ];show RA N (.exit 4) (OM L.length u [] (iZ L))=_;rw [wZ,CC];have e1:T=L:=n0 hT hL fun x=>by rw [hm x]; simp [D7]
  have e2:AU L.length (iZ L)=iZ L:=vav (by rw [H9]; exact AP _);rw [e2,e1]
 | d+1,n+1,L,u,es,hes,hn,hL,hnd,hdj,hm,hsz=>by
  have e0:AZ es.length 0=false:=by rw [hes]; rfl
  rw [DD,qJ,e0,CS];refine tY (by omega) fun i hi=>?_
  obtain ⟨k1,k2,k3⟩:=jS es i hi;obtain ⟨k4,k5⟩:=k2 hnd;have ht:(E7 es i).1 ∉ L:=fun h=>hdj _ h ((k1 _).2 (.inl rfl))
  rw [AE (show (L.length+1)*8≤DJ by unfold DJ; omega),CP];have erow:AU L.length (iZ L)++[IV.int (E7 es i).1]=JH L L.length (E7 es i).1:=by
   unfold JH;rw [A9,CE,vav (by rw [H9]; exact AP _)];rfl
  rw [erow,vaq];obtain ⟨k',x',h1,h2,h3,h4⟩:=kT N (E7 es i).1 (some (E7 es i)) (GN es i) L hL ht (by omega) (aT N (fun s'=>C4 (GD N) (CR GM X4) UX n s' (RA N)) (RA N)) L.length N (E7 es i).1 (AP _) (by omega) (fun y hy=>by rw [CE] at hy; cases hy);refine h4.trans ?_;rw [w8,AE (show (0:Int)≤(k':Int) by omega),AE (show (k':Int) < ic (L.length+1 - 0) by simp only [ic]; omega),BE,CP,A0,BL,n8 h1];have er:JH L k' (E7 es i).1=iZ (L.take k'++(E7 es i).1 :: L.drop k'):=by
   unfold JH;rw [kL];rfl
  have el:(L.take k'++(E7 es i).1 :: L.drop k').length=L.length+1:=by
   rw [AQ,AT,A1,vaf];omega
  rw [er,← el];refine jO N hN T hT d n _ _ _ (by omega) (by omega) (Ii hL h3 h2) k5 (fun x hx=>?_) (fun x=>?_) (by rw [el]; omega)
  ·rcases (kS x).1 hx with rfl | hx
   ·exact k4
   ·exact fun h=>hdj x hx ((k1 x).2 (.inr h))
  ·rw [hm x,k1 x,kS];constructor
   ·rintro (h | h | h)
    ·exact .inl (.inr h)
    ·exact .inl (.inl h)
    ·exact .inr h
   ·rintro ((h | h) | h)
    ·exact .inr (.inl h)
    ·exact .inl h
    ·exact .inr (.inr h)
 | 0,0,_,_,_,_,h,_,_,_,_,_=>by omega
 | _+1,0,_,_,_,_,h,_,_,_,_,_=>by omega
theorem VO {m:Md} (hm:DX m=true):∀ t∈m.ts,(D2 t).length≤31∧∀ w∈D2 t,ES w.toInt=true:=by
 intro t ht;have h:=List.all_eq_true.1 (G2 hm).2.2.2.2 t ht;unfold GU at h;simp only [AI] at h;have h2:=h.2.2;unfold F7 at h2;simp only [AI] at h2;obtain ⟨⟨_,h31⟩,hn,_⟩:=h2;refine ⟨AK h31,?_⟩;have key:∀ {dim n:Int} (l:LI) (i:Nat),IF dim n i l=true→∀ w∈l,ES w.toInt=true:=by
  intro dim n l
  induction l with
  | nil=>intro i _ w hw; cases hw
  | cons x r ih=>
   intro i h w hw;rw [IF] at h;simp only [AI] at h;rcases AR.1 hw with rfl | hw
   ·exact h.1.1
   ·exact ih (i+1) h.2 w hw
 exact key _ 0 hn
theorem xS {m:Md} (hm:DX m=true) {t w:IV} (ht:t∈m.ts) (hw:w∈D2 t) (hl:(CQ w.toInt).lf=false):0≤(CQ w.toInt).f:=
 (PZ ((VO hm t ht).2 w hw) hl).1.1
theorem vK {m:Md} (hm:DX m=true) {q:Qy} {b:Bx} {j:Nat} (hj:j < 5) (hk:j=4→q.k=3) (a:Int):a∈EB m q b j↔a∈D7 (m.ts.foldl (LX (fR q j) (b.g j).lo (b.g j).hi) []):=by
 have ef:HL q (j:Int)=fR q j:=by
  unfold HL fR;by_cases h4:j=4
  ·subst h4;rw [hk rfl];rfl
  ·have e:AZ j 4=false:=by
    cases h:AZ j 4 with
    | false=>rfl
    | true=>exact absurd (vai h) h4
   rw [e,AE (show (j:Int)≥0 by omega),AE (show (j:Int) < 4 by omega)];rfl
 rw [jM,ef,q8,nG];unfold MY;constructor
 ·rintro ⟨h0,⟨t,ht,w,hw,h1,h2,h3⟩,h4,h5⟩;refine .inr ⟨t,ht,w,hw,?_,h3.symm⟩;rw [(VO hm t ht).2 w hw,h1,h2,h3,CH,AE (show a≥(b.g j).lo from h4),AE h5];rfl
 ·rintro (h | ⟨t,ht,w,hw,h,rfl⟩)
  ·cases h
  ·simp only [AI,CF,BR,AO] at h;obtain ⟨_,h1,h2,h3,h4⟩:=h;exact ⟨by rw [← h2]; exact xS hm ht hw h1,⟨t,ht,w,hw,h1,h2,rfl⟩,h3,h4⟩
theorem Kf:C5 PR B0 47 SY:=by
 refine DC [(70,JP)] [(8,⟨[3,6,8,9,10,42,43,44],[6,40],[]⟩),(11,⟨[3,6,8,9,10,42,43,44,49,50,51],[6,40],[]⟩),(20,⟨[8,17,96],[96,500],[⟨.tmp 17,500,3,false,[.z]⟩]⟩),(24,⟨[8,17,18,19,96],[96,500],[⟨.tmp 17,500,3,false,[.z]⟩]⟩)] SY [[.list false [.z]]] Tryz.func47 yX ⟨VT,trivial⟩ ?_;intro vs r hwf h;unfold SY at h;split at h
 ·rename_i m q b i;replace h:=F8 h;obtain ⟨m,rfl,h⟩:=h;replace h:=FV h;obtain ⟨q,rfl,h⟩:=h;replace h:=FU h;obtain ⟨b,rfl,h⟩:=h;cases hg:(DX m&&E3 i) with
  | false=>rw [hg] at h; simp [R.get] at h
  | true=>
  rw [hg,R.get_br,CP,R.get_ok] at h;rw [AI] at hg;obtain ⟨hm,hpl⟩:=hg;obtain ⟨j,hj,rfl⟩:∃ j:Nat,j < 5∧i=(j:Int):=by
   unfold E3 at hpl;simp only [AI,AO] at hpl;exact ⟨i.toNat,by omega,by omega⟩
  refine ⟨65538,(Db 65538 m q b hj).trans ?_⟩;rw [← h,BL];have run:(j=4→q.k=3)→C4 (GD 65538) (CR GM VH) RE 65538 (MA b (j:Int) (fR q j) m.ts (ic m.ts.length) 0 []) (W4 65538)=some (.list false [.z] (iZ (EB m q b j)),[]):=fun hk=>by
   have h8:=(G2 hm).2.2.1;refine (jP 65538 (by omega) b hj (fR q j) m.ts (fun t ht=>(VO hm t ht).1) h8 _ m.ts.length 0 65538 [] (by omega) (by omega)).trans ?_;rw [wX,CC];have hlen:=nH (f:=fR q j) (lo:=(b.g j).lo) (hi:=(b.g j).hi) m.ts [] fun t ht=>(VO hm t ht).1
   have hkeys:=fun a=>vK (b:=b) hm hj hk a
   have hnd:=nI (f:=fR q j) (lo:=(b.g j).lo) (hi:=(b.g j).hi) m.ts [] (by simp [D7]);generalize m.ts.foldl (LX (fR q j) (b.g j).lo (b.g j).hi) []=es at hlen hkeys hnd ⊢;rw [B8] at hlen;exact jO 65538 (by omega) (EB m q b j) (vL m q b j) es.length 65538 [] none es rfl (by omega) List.Pairwise.nil hnd (fun x hx=>by cases hx) (fun x=>by rw [hkeys x]; simp) (by rw [B8]; omega)
  cases h4:AZ j 4 with
  | true=>
   have e:j=4:=vai h4;rw [CP];by_cases hk:q.k=3
   ·rw [show (q.k != 3)=false by rw [hk]; rfl,CS];exact run fun _=>hk
   ·rw [show (q.k != 3)=true by simpa using hk,CP,e]
    have:EB m q b 4=[]:=by
     unfold EB HL;rw [show (q.k==3)=false by simpa using hk];rfl
    rw [this];rfl
  | false=>
   rw [CS];exact run fun h=>by rw [h] at h4; cases h4
 ·simp [R.get] at h
end Go.FM
