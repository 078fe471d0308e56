/-
  A small machine that reckons what a call comes to; the functions of the program, one by one. (NORMAL FORMS: what the functions' runs come to (written by a, HOW LONG A QUERY'S WORDS ARE. No program in sight., ask's FUNCTIONS COME TO WHAT IS SAID (2): Print., and so on.)
-/
import Derived.Test.YtihliihljmfhlaaGreatDoorUc
set_option linter.all false
set_option maxRecDepth 100000
open Array renaming getElem?_eq_some_iff→C7,getElem?_toList→vaC,getElem?_modify→vaL
open Bool renaming and_eq_true→AI,not_true→A1,not_false→A6,true_and→BC,false_and→BM,and_self→BY,not_eq_true'→B5,and_true→CJ,and_false→vaq,false_or→vaw,or_eq_true→vaz,eq_iff_iff→va3
open ByteArray renaming size→AG,toList→AX,size_append→A3
open Go.Addr.mk renaming injEq→C5
open Go.IntKind renaming wrap→AA,i64→AB
open Go.Lib renaming compactUpTo→vbn
open Go.ResultVar renaming tmp→CD,cell→va5
open Go.Sort renaming ahead→vbB
open Go.Value renaming ownBlock→CE
open Go.Value.slice renaming injEq→CM
open Go.World renaming cell?→vaF
open Int renaming toNat→AD,toNat_natCast→BE,le_refl→DA
open List renaming length→AF,getD→AH,take→AK,length_cons→AN,drop→AO,mem_cons_self→AR,mem_cons→AS,length_append→AU,mem_append→AV,mem_cons_of_mem→AY,map_cons→AZ,map→A2,getElem?_eq_getElem→A5,length_take→A7,length_nil→BB,drop_eq_getElem_cons→BF,take_length→BI,getElem?_eq_some_iff→BL,replicate→BN,length_map→BQ,getD_eq_getElem?_getD→BS,not_mem_nil→BW,mem_singleton→BX,drop_zero→BZ,getElem?_cons_zero→B2,getElem?_map→B9,map_nil→CC,mem_map→CN,getElem?_take→CR,all_eq_true→CS,take_of_length_le→CX,length_drop→CY,length_singleton→CZ,drop_of_length_le→C2,cons_append→C3,getElem_mem→C4,size_toArray→C9,append_nil→DB,nil_append→vac,drop_length→vad,mem_of_mem_take→vag,flatMap_cons→vai,append_assoc→var,getElem?_drop→vau,mem_of_mem_drop→vay,range→vaE,length_set→vaI,mem_range→va6,getElem?_set_ne→va8,sum_cons→vbb,pairwise_cons→vby,eraseIdx_eq_take_drop_succ→vbG
open List.Perm renaming refl→vbF
open Nat renaming le_of_ble_eq_true→AM,le_refl→AW,zero_add→BJ,blt→BK,beq→BO,ble→B6,zero_le→B7,ble_eq_true_of_le→CP,le_trans→CW,add_zero→C6,sub_zero→vaj,min_eq_left→vaD,add_assoc→vaG,beq_refl→vbj
open Option renaming getD→vav
open Option.some renaming injEq→AC,inj→B3
open Prod.mk renaming injEq→AQ
namespace Go.FM
open Go Go.Proofs
def G6 (N:Nat):Env:=D0 [(41,aP),(40,aQ),(43,R4),(42,OM),(44,YF)] [(18,⟨[2,4,6,75,76,77],[2,500],[⟨.tmp 6,500,9,false,[.str]⟩]⟩)] 100 N
abbrev OG (s4:BA) (n6 n75:Nat) (x76 x77 u02 u03 u0a u0b u0c u0d u0e u0f u0g u0h u04 u05 u06 u07 u08:Int) (u00:Bool) (u09:Int) (u01:LI):St:=⟨[(2,(.ptr 2 0 0)),(4,(.str s4)),(6,(.row 500 0 n6)),(75,(.bview 2 2 5 2 n75)),(76,(.i x76)),(77,(.i x77))],[(2,(some (.box [.i u02,.i u03,.i u0a,.i u0b,.i u0c,.i u0d,.i u0e,.i u0f,.i u0g,.i u0h,.i u04,.i u05,.i u06,.i u07,.i u08,.bool u00,.i u09]))),(500,(some (.row true 9 false [.str] u01)))]⟩
theorem zdf (N:Nat) (u04 u01 u06 u05 u08 u07 u0a u09 u0c u0b u0e u0d q_Lo q_Hi u03:Int) (u02:Bool) (u00 a1:Int):DV (G6 N) LF [.tmp 4] [[.str]] [.agg [.i u04,.i u01,.i u06,.i u05,.i u08,.i u07,.i u0a,.i u09,.i u0c,.i u0b,.i u0e,.i u0d,.i q_Lo,.i q_Hi,.i u03,.bool u02,.i u00],.i a1]=(cond (decide (a1 < 1)) (some ((.str ({data:=#[]})),[])) (cond (decide (a1 > 4)) (some ((.str ({data:=#[]})),[])) (cond (decide (0≤a1)&&decide (a1≤5)) (cond (! (u04==Qy.k (FO {k:=u04,c:=u01,a0:=u06,b0:=u05,a1:=u08,b1:=u07,a2:=u0a,b2:=u09,a3:=u0c,b3:=u0b,a4:=u0e,b4:=u0d,lo:=q_Lo,hi:=q_Hi,ft:=u03,fl:=u02,bu:=u00} a1)&&(u01==Qy.c (FO {k:=u04,c:=u01,a0:=u06,b0:=u05,a1:=u08,b1:=u07,a2:=u0a,b2:=u09,a3:=u0c,b3:=u0b,a4:=u0e,b4:=u0d,lo:=q_Lo,hi:=q_Hi,ft:=u03,fl:=u02,bu:=u00} a1)&&(u06==Qy.a0 (FO {k:=u04,c:=u01,a0:=u06,b0:=u05,a1:=u08,b1:=u07,a2:=u0a,b2:=u09,a3:=u0c,b3:=u0b,a4:=u0e,b4:=u0d,lo:=q_Lo,hi:=q_Hi,ft:=u03,fl:=u02,bu:=u00} a1)&&(u05==Qy.b0 (FO {k:=u04,c:=u01,a0:=u06,b0:=u05,a1:=u08,b1:=u07,a2:=u0a,b2:=u09,a3:=u0c,b3:=u0b,a4:=u0e,b4:=u0d,lo:=q_Lo,hi:=q_Hi,ft:=u03,fl:=u02,bu:=u00} a1)&&(u08==Qy.a1 (FO {k:=u04,c:=u01,a0:=u06,b0:=u05,a1:=u08,b1:=u07,a2:=u0a,b2:=u09,a3:=u0c,b3:=u0b,a4:=u0e,b4:=u0d,lo:=q_Lo,hi:=q_Hi,ft:=u03,fl:=u02,bu:=u00} a1)&&(u07==Qy.b1 (FO {k:=u04,c:=u01,a0:=u06,b0:=u05,a1:=u08,b1:=u07,a2:=u0a,b2:=u09,a3:=u0c,b3:=u0b,a4:=u0e,b4:=u0d,lo:=q_Lo,hi:=q_Hi,ft:=u03,fl:=u02,bu:=u00} a1)&&(u0a==Qy.a2 (FO {k:=u04,c:=u01,a0:=u06,b0:=u05,a1:=u08,b1:=u07,a2:=u0a,b2:=u09,a3:=u0c,b3:=u0b,a4:=u0e,b4:=u0d,lo:=q_Lo,hi:=q_Hi,ft:=u03,fl:=u02,bu:=u00} a1)&&(u09==Qy.b2 (FO {k:=u04,c:=u01,a0:=u06,b0:=u05,a1:=u08,b1:=u07,a2:=u0a,b2:=u09,a3:=u0c,b3:=u0b,a4:=u0e,b4:=u0d,lo:=q_Lo,hi:=q_Hi,ft:=u03,fl:=u02,bu:=u00} a1)&&(u0c==Qy.a3 (FO {k:=u04,c:=u01,a0:=u06,b0:=u05,a1:=u08,b1:=u07,a2:=u0a,b2:=u09,a3:=u0c,b3:=u0b,a4:=u0e,b4:=u0d,lo:=q_Lo,hi:=q_Hi,ft:=u03,fl:=u02,bu:=u00} a1)&&(u0b==Qy.b3 (FO {k:=u04,c:=u01,a0:=u06,b0:=u05,a1:=u08,b1:=u07,a2:=u0a,b2:=u09,a3:=u0c,b3:=u0b,a4:=u0e,b4:=u0d,lo:=q_Lo,hi:=q_Hi,ft:=u03,fl:=u02,bu:=u00} a1)&&(u0e==Qy.a4 (FO {k:=u04,c:=u01,a0:=u06,b0:=u05,a1:=u08,b1:=u07,a2:=u0a,b2:=u09,a3:=u0c,b3:=u0b,a4:=u0e,b4:=u0d,lo:=q_Lo,hi:=q_Hi,ft:=u03,fl:=u02,bu:=u00} a1)&&(u0d==Qy.b4 (FO {k:=u04,c:=u01,a0:=u06,b0:=u05,a1:=u08,b1:=u07,a2:=u0a,b2:=u09,a3:=u0c,b3:=u0b,a4:=u0e,b4:=u0d,lo:=q_Lo,hi:=q_Hi,ft:=u03,fl:=u02,bu:=u00} a1)&&(q_Lo==Qy.lo (FO {k:=u04,c:=u01,a0:=u06,b0:=u05,a1:=u08,b1:=u07,a2:=u0a,b2:=u09,a3:=u0c,b3:=u0b,a4:=u0e,b4:=u0d,lo:=q_Lo,hi:=q_Hi,ft:=u03,fl:=u02,bu:=u00} a1)&&(q_Hi==Qy.hi (FO {k:=u04,c:=u01,a0:=u06,b0:=u05,a1:=u08,b1:=u07,a2:=u0a,b2:=u09,a3:=u0c,b3:=u0b,a4:=u0e,b4:=u0d,lo:=q_Lo,hi:=q_Hi,ft:=u03,fl:=u02,bu:=u00} a1)&&(u03==Qy.ft (FO {k:=u04,c:=u01,a0:=u06,b0:=u05,a1:=u08,b1:=u07,a2:=u0a,b2:=u09,a3:=u0c,b3:=u0b,a4:=u0e,b4:=u0d,lo:=q_Lo,hi:=q_Hi,ft:=u03,fl:=u02,bu:=u00} a1)&&(u02==Qy.fl (FO {k:=u04,c:=u01,a0:=u06,b0:=u05,a1:=u08,b1:=u07,a2:=u0a,b2:=u09,a3:=u0c,b3:=u0b,a4:=u0e,b4:=u0d,lo:=q_Lo,hi:=q_Hi,ft:=u03,fl:=u02,bu:=u00} a1)&&(u00==Qy.bu (FO {k:=u04,c:=u01,a0:=u06,b0:=u05,a1:=u08,b1:=u07,a2:=u0a,b2:=u09,a3:=u0c,b3:=u0b,a4:=u0e,b4:=u0d,lo:=q_Lo,hi:=q_Hi,ft:=u03,fl:=u02,bu:=u00} a1)&&true)))))))))))))))))) (some ((.str ({data:=#[]})),[])) (cond (!JS u01) (some ((.str ({data:=#[]})),[])) (cond (!JS u03) (some ((.str ({data:=#[]})),[])) (cond (!JS u00) (some ((.str ({data:=#[]})),[])) (cond (u04==1) (cond (decide (0≤a1)&&decide (a1≤ic 5)) (DT (G6 N) (DF LF [1,1,1,1,1,1,0,1,0,0]) ⟨[2,4,6,75,76,77],[2,500],[⟨(.tmp 6),500,9,false,[.str]⟩]⟩ N (OG ({data:=#[]}) 7 (AD a1) (ic (AD a1)) 0 u04 u01 u06 u05 u08 u07 u0a u09 u0c u0b u0e u0d q_Lo q_Hi u03 u02 u00 [(IV.str {data:=#[114,97,110,103,101]}),(IV.str (DL u01)),(IV.str {data:=#[102,114,111,109]}),(IV.str (DQ q_Lo)),(IV.str {data:=#[116,111]}),(IV.str (DQ q_Hi)),(IV.str {data:=#[105,110]})]) (DM 1 (DN (G6 N) (DF LF [1,1,1,1,1,1,1]) (DP (G6 N) none [.tmp 4] [[.str]])))) none) (cond (u04==2) (cond (decide (0≤a1)&&decide (a1≤ic 5)) (DT (G6 N) (DF LF [1,1,1,1,1,1,0,1,0,0]) ⟨[2,4,6,75,76,77],[2,500],[⟨(.tmp 6),500,9,false,[.str]⟩]⟩ N (OG ({data:=#[]}) 3 (AD a1) (ic (AD a1)) 0 u04 u01 u06 u05 u08 u07 u0a u09 u0c u0b u0e u0d q_Lo q_Hi u03 u02 u00 [(IV.str {data:=#[98,101,115,116]}),(IV.str (DL u01)),(IV.str {data:=#[105,110]})]) (DM 1 (DN (G6 N) (DF LF [1,1,1,1,1,1,1]) (DP (G6 N) none [.tmp 4] [[.str]])))) none) (cond (u04==3) (cond u02 (cond (decide (0≤a1)&&decide (a1≤ic 5)) (DT (G6 N) (DF LF [1,1,1,1,1,1,0,1,0,0]) ⟨[2,4,6,75,76,77],[2,500],[⟨(.tmp 6),500,9,false,[.str]⟩]⟩ N (OG ({data:=#[]}) 5 (AD a1) (ic (AD a1)) 0 u04 u01 u06 u05 u08 u07 u0a u09 u0c u0b u0e u0d q_Lo q_Hi u03 u02 u00 [(IV.str {data:=#[102,97,108,108,115]}),(IV.str (DL u01)),(IV.str {data:=#[98,121]}),(IV.str (DL u03)),(IV.str {data:=#[105,110]})]) (DM 1 (DN (G6 N) (DF LF [1,1,1,1,1,1,1]) (DP (G6 N) none [.tmp 4] [[.str]])))) none) (cond (decide (0≤a1)&&decide (a1≤ic 5)) (DT (G6 N) (DF LF [1,1,1,1,1,1,0,1,0,0]) ⟨[2,4,6,75,76,77],[2,500],[⟨(.tmp 6),500,9,false,[.str]⟩]⟩ N (OG ({data:=#[]}) 5 (AD a1) (ic (AD a1)) 0 u04 u01 u06 u05 u08 u07 u0a u09 u0c u0b u0e u0d q_Lo q_Hi u03 u02 u00 [(IV.str {data:=#[114,105,115,101,115]}),(IV.str (DL u01)),(IV.str {data:=#[98,121]}),(IV.str (DL u03)),(IV.str {data:=#[105,110]})]) (DM 1 (DN (G6 N) (DF LF [1,1,1,1,1,1,1]) (DP (G6 N) none [.tmp 4] [[.str]])))) none)) (some ((.str ({data:=#[]})),[]))))))))) none))):=by kernel_rfl
theorem Lr (N:Nat) (s4:BA) (n6 n75:Nat) (x76 x77 u02 u03 u0a u0b u0c u0d u0e u0f u0g u0h u04 u05 u06 u07 u08:Int) (u00:Bool) (u09:Int) (u01:LI) (again:St→DJ) (k:Out→St→DJ):EX (G6 N) (DF LF [1,1,1,1,1,1,0,1,0,0]) (OG s4 n6 n75 x76 x77 u02 u03 u0a u0b u0c u0d u0e u0f u0g u0h u04 u05 u06 u07 u08 u00 u09 u01) (ED again ⟨[2,4,6,75,76,77],[2,500],[⟨(.tmp 6),500,9,false,[.str]⟩]⟩ k)=(cond (decide (x77 < x76)) (cond (decide (x77 < ic n75)) (cond (decide (x77=ic 0)) (cond (decide (AG (DQ u0a)+AG {data:=#[46,46]}≤strMax)) (cond (decide (AG (DQ u0a++{data:=#[46,46]})+AG (DQ u0b)≤strMax)) (cond (decide ((n6+AF (AO 0 (AK 1 [IV.str (DQ u0a++{data:=#[46,46]}++DQ u0b)])))*TI.bytes (Env.tyd (G6 N) 9)≤D6)) (again (OG s4 (n6+AF (AO 0 (AK 1 [IV.str (DQ u0a++{data:=#[46,46]}++DQ u0b)]))) n75 x76 (AA AB (x77+1)) u02 u03 u0a u0b u0c u0d u0e u0f u0g u0h u04 u05 u06 u07 u08 u00 u09 (AK n6 u01++AO 0 (AK 1 [IV.str (DQ u0a++{data:=#[46,46]}++DQ u0b)])))) none) none) none) (cond (decide (x77=ic 1)) (cond (decide (AG (DQ u0c)+AG {data:=#[46,46]}≤strMax)) (cond (decide (AG (DQ u0c++{data:=#[46,46]})+AG (DQ u0d)≤strMax)) (cond (decide ((n6+AF (AO 0 (AK 1 [IV.str (DQ u0c++{data:=#[46,46]}++DQ u0d)])))*TI.bytes (Env.tyd (G6 N) 9)≤D6)) (again (OG s4 (n6+AF (AO 0 (AK 1 [IV.str (DQ u0c++{data:=#[46,46]}++DQ u0d)]))) n75 x76 (AA AB (x77+1)) u02 u03 u0a u0b u0c u0d u0e u0f u0g u0h u04 u05 u06 u07 u08 u00 u09 (AK n6 u01++AO 0 (AK 1 [IV.str (DQ u0c++{data:=#[46,46]}++DQ u0d)])))) none) none) none) (cond (decide (x77=ic 2)) (cond (decide (AG (DQ u0e)+AG {data:=#[46,46]}≤strMax)) (cond (decide (AG (DQ u0e++{data:=#[46,46]})+AG (DQ u0f)≤strMax)) (cond (decide ((n6+AF (AO 0 (AK 1 [IV.str (DQ u0e++{data:=#[46,46]}++DQ u0f)])))*TI.bytes (Env.tyd (G6 N) 9)≤D6)) (again (OG s4 (n6+AF (AO 0 (AK 1 [IV.str (DQ u0e++{data:=#[46,46]}++DQ u0f)]))) n75 x76 (AA AB (x77+1)) u02 u03 u0a u0b u0c u0d u0e u0f u0g u0h u04 u05 u06 u07 u08 u00 u09 (AK n6 u01++AO 0 (AK 1 [IV.str (DQ u0e++{data:=#[46,46]}++DQ u0f)])))) none) none) none) (cond (decide (x77=ic 3)) (cond (decide (AG (DQ u0g)+AG {data:=#[46,46]}≤strMax)) (cond (decide (AG (DQ u0g++{data:=#[46,46]})+AG (DQ u0h)≤strMax)) (cond (decide ((n6+AF (AO 0 (AK 1 [IV.str (DQ u0g++{data:=#[46,46]}++DQ u0h)])))*TI.bytes (Env.tyd (G6 N) 9)≤D6)) (again (OG s4 (n6+AF (AO 0 (AK 1 [IV.str (DQ u0g++{data:=#[46,46]}++DQ u0h)]))) n75 x76 (AA AB (x77+1)) u02 u03 u0a u0b u0c u0d u0e u0f u0g u0h u04 u05 u06 u07 u08 u00 u09 (AK n6 u01++AO 0 (AK 1 [IV.str (DQ u0g++{data:=#[46,46]}++DQ u0h)])))) none) none) none) (cond (decide (x77=ic 4)) (cond (decide (AG (DQ u04)+AG {data:=#[46,46]}≤strMax)) (cond (decide (AG (DQ u04++{data:=#[46,46]})+AG (DQ u05)≤strMax)) (cond (decide ((n6+AF (AO 0 (AK 1 [IV.str (DQ u04++{data:=#[46,46]}++DQ u05)])))*TI.bytes (Env.tyd (G6 N) 9)≤D6)) (again (OG s4 (n6+AF (AO 0 (AK 1 [IV.str (DQ u04++{data:=#[46,46]}++DQ u05)]))) n75 x76 (AA AB (x77+1)) u02 u03 u0a u0b u0c u0d u0e u0f u0g u0h u04 u05 u06 u07 u08 u00 u09 (AK n6 u01++AO 0 (AK 1 [IV.str (DQ u04++{data:=#[46,46]}++DQ u05)])))) none) none) none) none))))) none) (k (.exit 1) (OG s4 n6 n75 x76 x77 u02 u03 u0a u0b u0c u0d u0e u0f u0g u0h u04 u05 u06 u07 u08 u00 u09 u01))):=by kernel_rfl
theorem Xd (N:Nat) (s4:BA) (n6 n75:Nat) (x76 x77 u02 u03 u0a u0b u0c u0d u0e u0f u0g u0h u04 u05 u06 u07 u08:Int) (u00:Bool) (u09:Int) (u01:LI):(DM 1 (DN (G6 N) (DF LF [1,1,1,1,1,1,1]) (DP (G6 N) none [.tmp 4] [[.str]]))) (.exit 1) (OG s4 n6 n75 x76 x77 u02 u03 u0a u0b u0c u0d u0e u0f u0g u0h u04 u05 u06 u07 u08 u00 u09 u01)=(cond (decide ((n6+AF (AO 0 (AK 2 [IV.str {data:=#[98,117,100,103,101,116]},IV.str (DL u09)])))*TI.bytes (Env.tyd (G6 N) 9)≤D6)) (cond (decide (AF (AO 0 (AK (n6+AF (AO 0 (AK 2 [IV.str {data:=#[98,117,100,103,101,116]},IV.str (DL u09)]))) (AK n6 u01++AO 0 (AK 2 [IV.str {data:=#[98,117,100,103,101,116]},IV.str (DL u09)]))))≤strMax)&&decide (AG (F9 (A2 IV.toStr (AO 0 (AK (n6+AF (AO 0 (AK 2 [IV.str {data:=#[98,117,100,103,101,116]},IV.str (DL u09)]))) (AK n6 u01++AO 0 (AK 2 [IV.str {data:=#[98,117,100,103,101,116]},IV.str (DL u09)]))))) {data:=#[32]})≤strMax)) (some ((.str (F9 (A2 IV.toStr (AO 0 (AK (n6+AF (AO 0 (AK 2 [IV.str {data:=#[98,117,100,103,101,116]},IV.str (DL u09)]))) (AK n6 u01++AO 0 (AK 2 [IV.str {data:=#[98,117,100,103,101,116]},IV.str (DL u09)]))))) {data:=#[32]})),[])) none) none):=by kernel_rfl
open Go
theorem Cy (l:List BA) (h:∀ w∈l,w.size≤100):(F9 l GR).size≤101*l.length:=by
 have hs:(F9 l GR).size=(Lib.join (l.map (·.data.toList)) [32]).length:=by
  show (Array.size (List.toArray _))=_;rw [C9]
 rw [hs];cases l with
 | nil=>simp [Lib.join_nil]
 | cons x r=>
  rw [AZ,Lib.join_length]
  have:∀ (r:List BA),(∀ w∈r,w.size≤100)→Lib.lens (r.map (·.data.toList))≤100*r.length:=fun r=>by
   induction r with
   | nil=>intro _; simp [Lib.lens]
   | cons y r ih=>
    intro h;have h1:=h y (AR ..);rw [S1] at h1;have h2:=ih (fun w hw=>h w (AY _ hw));rw [AZ,AN];simp only [Lib.lens,AZ,vbb] at h2 ⊢;omega
  have:=this (x :: r) h
  rw [AZ] at this;simp only [AN,BQ,BB] at this ⊢;omega
theorem Lf {a b:Int} (ha:D7 a) (hb:D7 b):(MR a b).size≤82:=by
 unfold MR;have h1:=(XL a ha).2;have h2:=(XL b hb).2;have h3:AG Z7=2:=rfl;rw [A3,A3,h3];omega
theorem pI {n:Int} (h:D7 n):(DL n).size≤21:=Y6 h.1 h.2
structure Qy.In (q:Qy):Prop where
 k:D7 q.k
 c:D7 q.c
 a0:D7 q.a0
 b0:D7 q.b0
 a1:D7 q.a1
 b1:D7 q.b1
 a2:D7 q.a2
 b2:D7 q.b2
 a3:D7 q.a3
 b3:D7 q.b3
 a4:D7 q.a4
 b4:D7 q.b4
 lo:D7 q.lo
 hi:D7 q.hi
 ft:D7 q.ft
 bu:D7 q.bu
open Go Go.Proofs
abbrev nH (q:Qy):Ob:=.box [.int .i64 q.k,.int .i64 q.c,.int .i64 q.a0,.int .i64 q.b0,.int .i64 q.a1,.int .i64 q.b1,.int .i64 q.a2,.int .i64 q.b2,.int .i64 q.a3,.int .i64 q.b3,.int .i64 q.a4,.int .i64 q.b4,.int .i64 q.lo,.int .i64 q.hi,.int .i64 q.ft,.bool q.fl,.int .i64 q.bu]
abbrev lV (q:Qy) (s4:BA) (W:LI) (D:Nat) (i:Int):St:=⟨[(2,(.ptr 2 0 0)),(4,(.str s4)),(6,(.row 500 0 W.length)),(75,(.bview 2 2 5 2 D)),(76,(.int .i64 (ic D))),(77,(.int .i64 i))],[(2,(some (nH q))),(500,(some (.row true 9 false [.str] W)))]⟩
theorem Nm (N:Nat):TI.bytes (Env.tyd (G6 N) 9)=16:=by rfl
theorem zga (N:Nat) (q:Qy) (hq:q.In) (s4:BA) (W:LI) (hW:W.length≤20) (hs:∀ w∈W,w.toStr.size≤100) (D:Nat) (i:Int) :
  (DM 1 (DN (G6 N) (DF LF [1,1,1,1,1,1,1]) (DP (G6 N) none [(CD 4)] [[.str]]))) (.exit 1) (lV q s4 W D i)=some (.str (F9 (W.map IV.toStr++[U3,DL q.bu]) GR),[]):=by
 refine (Xd N s4 W.length D (ic D) i q.k q.c q.a0 q.b0 q.a1 q.b1 q.a2 q.b2 q.a3 q.b3 q.a4 q.b4 q.lo q.hi q.ft q.fl q.bu W).trans ?_;have e2:(AO 0 (AK 2 [IV.str { data:=#[98,117,100,103,101,116] },IV.str (DL q.bu)]))=[IV.str { data:=#[98,117,100,103,101,116] },IV.str (DL q.bu)]:=rfl;rw [Nm,e2,BI];have e3:AO 0 (AK (W.length+AF [IV.str { data:=#[98,117,100,103,101,116] },IV.str (DL q.bu)]) (W++[IV.str { data:=#[98,117,100,103,101,116] },IV.str (DL q.bu)]))=W++[IV.str { data:=#[98,117,100,103,101,116] },IV.str (DL q.bu)]:=by
  rw [BZ,CX (by simp)]
 rw [e3];have e4:A2 IV.toStr (W++[IV.str { data:=#[98,117,100,103,101,116] },IV.str (DL q.bu)])=W.map IV.toStr++[U3,DL q.bu]:=by simp [IV.toStr]
 rw [e4];have hz:=Cy (W.map IV.toStr++[U3,DL q.bu]) (fun w hw=>by
  rcases AV.1 hw with h | h
  ·obtain ⟨x,hx,rfl⟩:=CN.1 h;exact hs x hx
  ·simp only [AS,BW,CU] at h;rcases h with rfl | rfl
   ·decide
   ·have:=pI hq.bu
    omega)
 simp only [AU,BQ,AN,BB] at hz ⊢;rw [AE (show (W.length+(0+1+1))*16≤D6 by unfold D6; omega),DE,AE (show W.length+(0+1+1)≤strMax by unfold strMax; omega),
  AE (show AG (F9 (W.map IV.toStr++[U3,DL q.bu]) { data:=#[32] })≤strMax from CW hz (by unfold strMax; omega)),CJ,DE]
def lS (a b:Int):IV:=.str (MR a b)
theorem zgc (N:Nat) (q:Qy) (s4:BA) (W:LI) (hW:W.length≤20) (D i:Nat) (hiD:i < D) (a b:Int) (again:St→DJ) (k:Out→St→DJ) (ha:D7 a) (hb:D7 b)
  (hab:(i=0∧a=q.a0∧b=q.b0)∨(i=1∧a=q.a1∧b=q.b1)∨(i=2∧a=q.a2∧b=q.b2)∨(i=3∧a=q.a3∧b=q.b3)) :
  EX (G6 N) (DF LF [1,1,1,1,1,1,0,1,0,0]) (lV q s4 W D (i:Int)) (ED again ⟨[2,4,6,75,76,77],[2,500],[⟨.tmp 6,500,9,false,[.str]⟩]⟩ k)=again (lV q s4 (W++[lS a b]) D ((i+1:Nat):Int)):=by
 refine (Lr N s4 W.length D (ic D) i q.k q.c q.a0 q.b0 q.a1 q.b1 q.a2 q.b2 q.a3 q.b3 q.a4 q.b4 q.lo q.hi q.ft q.fl q.bu W again k).trans ?_;have d1:decide ((i:Int) < ic D)=true:=AE (by simp only [ic]; omega);rw [d1,DE,DE];have h3:AG { data:=#[46,46] }=2:=rfl;have sz:∀ x y:Int,D7 x→D7 y→decide (AG (DQ x)+AG { data:=#[46,46] }≤strMax)=true∧decide (AG (DQ x++{ data:=#[46,46] })+AG (DQ y)≤strMax)=true:=fun x y hx hy=>by
  have h1:=(XL x hx).2;have h2:=(XL y hy).2;refine ⟨AE (by rw [h3]; unfold strMax; omega),AE (by rw [A3,h3]; unfold strMax; omega)⟩
 have e1:∀ x:IV,(AO 0 (AK 1 [x]))=[x]:=fun _=>rfl
 have g16:∀ x:IV,decide ((W.length+AF [x])*TI.bytes (Env.tyd (G6 N) 9)≤D6)=true:=fun x=>AE (by rw [Nm]; simp only [AN,BB]; unfold D6; omega)
 have hl:∀ x:IV,W.length+AF [x]=(W++[x]).length:=fun x=>by simp
 obtain ⟨s1,s2⟩:=sz a b ha hb;simp only [e1,g16,DE,BI];rcases hab with ⟨rfl,rfl,rfl⟩ | ⟨rfl,rfl,rfl⟩ | ⟨rfl,rfl,rfl⟩ | ⟨rfl,rfl,rfl⟩
 ·rw [s1,s2,show decide (((0:Nat):Int)=ic 0)=true from rfl,DE,DE,DE,hl];rfl
 ·rw [s1,s2,show decide (((1:Nat):Int)=ic 0)=false from rfl,show decide (((1:Nat):Int)=ic 1)=true from rfl,DG,DE,DE,DE,hl];rfl
 ·rw [s1,s2,show decide (((2:Nat):Int)=ic 0)=false from rfl,show decide (((2:Nat):Int)=ic 1)=false from rfl,show decide (((2:Nat):Int)=ic 2)=true from rfl,DG,DG,DE,DE,DE,hl];rfl
 ·rw [s1,s2,show decide (((3:Nat):Int)=ic 0)=false from rfl,show decide (((3:Nat):Int)=ic 1)=false from rfl,show decide (((3:Nat):Int)=ic 2)=false from rfl,show decide (((3:Nat):Int)=ic 3)=true from rfl,DG,DG,DG,DE,DE,DE,hl];rfl
theorem Hi (N:Nat) (q:Qy) (hq:q.In) (s4:BA) (D:Nat) (hD:D≤4) :
  ∀ (d i n:Nat) (W:LI),i+d=D→d < n→W.length+d≤20→(∀ w∈W,w.toStr.size≤100) →
   DT (G6 N) (DF LF [1,1,1,1,1,1,0,1,0,0]) ⟨[2,4,6,75,76,77],[2,500],[⟨.tmp 6,500,9,false,[.str]⟩]⟩ n (lV q s4 W D (i:Int)) (DM 1 (DN (G6 N) (DF LF [1,1,1,1,1,1,1]) (DP (G6 N) none [(CD 4)] [[.str]]))) =
    some (.str (F9 (W.map IV.toStr++(((q.spans.take D).drop i).map fun s=>MR s.1 s.2)++[U3,DL q.bu]) GR),[])
 | 0,i,n+1,W,hd,hn,hW,hs=>by
  have hi:i=D:=by omega
  rw [DX];refine (Lr N s4 W.length D (ic D) i q.k q.c q.a0 q.b0 q.a1 q.b1 q.a2 q.b2 q.a3 q.b3 q.a4 q.b4 q.lo q.hi q.ft q.fl q.bu W _ _).trans ?_;rw [AL (show ¬ (i:Int) < ic D by simp only [ic]; omega),DG];refine (zga N q hq s4 W (by omega) hs D i).trans ?_;rw [C2 (by rw [A7]; omega)];simp
 | d+1,i,n+1,W,hd,hn,hW,hs=>by
  obtain ⟨a,b,ha,hb,hab,hsp⟩:∃ a b,D7 a∧D7 b∧((i=0∧a=q.a0∧b=q.b0)∨(i=1∧a=q.a1∧b=q.b1)∨(i=2∧a=q.a2∧b=q.b2)∨(i=3∧a=q.a3∧b=q.b3))∧(q.spans.take D).drop i=(a,b) :: (q.spans.take D).drop (i+1):=by
   have hi:i=0∨i=1∨i=2∨i=3:=by omega
   have hDD:D=0∨D=1∨D=2∨D=3∨D=4:=by omega
   rcases hi with rfl | rfl | rfl | rfl
   ·exact ⟨q.a0,q.b0,hq.a0,hq.b0,.inl ⟨rfl,rfl,rfl⟩,by rcases hDD with rfl | rfl | rfl | rfl | rfl <;> first | rfl | omega⟩
   ·exact ⟨q.a1,q.b1,hq.a1,hq.b1,.inr (.inl ⟨rfl,rfl,rfl⟩),by rcases hDD with rfl | rfl | rfl | rfl | rfl <;> first | rfl | omega⟩
   ·exact ⟨q.a2,q.b2,hq.a2,hq.b2,.inr (.inr (.inl ⟨rfl,rfl,rfl⟩)),by rcases hDD with rfl | rfl | rfl | rfl | rfl <;> first | rfl | omega⟩
   ·exact ⟨q.a3,q.b3,hq.a3,hq.b3,.inr (.inr (.inr ⟨rfl,rfl,rfl⟩)),by rcases hDD with rfl | rfl | rfl | rfl | rfl <;> first | rfl | omega⟩
  rw [DX,zgc N q s4 W (by omega) D i (by omega) a b _ _ ha hb hab,hsp];have ih:=Hi N q hq s4 D hD d (i+1) n (W++[lS a b]) (by omega) (by omega) (by simp only [AU,AN,BB]; omega) (fun w hw=>by
   rcases AV.1 hw with h | h
   ·exact hs w h
   ·rw [BX] at h;subst h
    have:=Lf ha hb
    simp only [lS,IV.toStr];omega)
  refine ih.trans ?_;simp [lS,IV.toStr]
 | _,_,0,_,_,h,_,_=>by omega
theorem Jt:DS PR B0 10 VT:=by
 refine D2 [(41,aP),(40,aQ),(43,R4),(42,OM),(44,YF)] [(18,⟨[2,4,6,75,76,77],[2,500],[⟨.tmp 6,500,9,false,[.str]⟩]⟩)] VT [[.str]] Tryz.func10 zah
  ⟨zhl,zhm,s6,gH,Ks,trivial⟩ ?_
 intro vs r hwf h;unfold VT at h;split at h
 ·rename_i k c a0 b0 a1 b1 a2 b2 a3 b3 a4 b4 lo hi ft fl bu d;refine ⟨20,?_⟩;rw [R.get_ok] at h;rw [← h];refine (zdf 20 k c a0 b0 a1 b1 a2 b2 a3 b3 a4 b4 lo hi ft fl bu d).trans ?_;have hb:=hwf (by simp [K2]);have hq:Qy.In ⟨k,c,a0,b0,a1,b1,a2,b2,a3,b3,a4,b4,lo,hi,ft,fl,bu⟩:=by
   have:=hb.1
   simp only [QE,wfLs,wfL,B4,vaO] at this;obtain ⟨h1,h2,h3,h4,h5,h6,h7,h8,h9,h10,h11,h12,h13,h14,h15,h16⟩:=this;exact ⟨h1,h2,h3,h4,h5,h6,h7,h8,h9,h10,h11,h12,h13,h14,h15,h16⟩
  show cond (decide (d < 1)) _ (cond (decide (d > 4)) _ (cond _ (cond (!(Qy.eq ⟨k,c,a0,b0,a1,b1,a2,b2,a3,b3,a4,b4,lo,hi,ft,fl,bu⟩ (FO ⟨k,c,a0,b0,a1,b1,a2,b2,a3,b3,a4,b4,lo,hi,ft,fl,bu⟩ d))) _ _) _))=_;generalize hQ:(⟨k,c,a0,b0,a1,b1,a2,b2,a3,b3,a4,b4,lo,hi,ft,fl,bu⟩:Qy)=q at hq ⊢;unfold E6 N6;cases h1:decide (d < 1) with
  | true=>simp only [DE,DG,A1,BM]
  | false=>
   cases h4:decide (d > 4) with
   | true=>simp only [DE,DG,A1,A6,BM,vaq]
   | false=>
    have h1:=BH h1;have h4:=BH h4;rw [AE (show 0≤d by omega),AE (show d≤5 by omega),AE (show d≤ic 5 by simp only [ic]; omega)];simp only [CJ,DE,DG,A6,BC];cases he:q.eq (FO q d) with
    | false=>simp only [A6,DE,DG,BM]
    | true=>
     have ec:q.c=c:=by rw [← hQ]
     have ef:q.ft=ft:=by rw [← hQ]
     have eb:q.bu=bu:=by rw [← hQ]
     have ek:q.k=k:=by rw [← hQ]
     rw [ec,ef,eb,ek];cases hc:JS c with
     | false=>simp only [A1,A6,DE,DG,BM,BC]
     | true=>
      cases hf:JS ft with
      | false=>simp only [A1,A6,DE,DG,BM,BC]
      | true=>
       cases hbu:JS bu with
       | false=>simp only [A1,A6,DE,DG,BM,BC]
       | true=>
        simp only [A1,DG,BC];have hDn:d.toNat≤4:=by omega
        have run:=fun (W:LI) (hW:W.length≤16) (hs:∀ w∈W,w.toStr.size≤100)=>Hi 20 q hq ⟨#[]⟩ d.toNat hDn d.toNat 0 20 W (by omega) (by omega) (by omega) hs
        have zi:∀ {n:Int},D7 n→(DL n).size≤100:=fun h=>by have:=pI h; omega
        have zp:∀ {n:Int},D7 n→(DQ n).size≤100:=fun h=>by have:=(XL _ h).2; omega
        have fin:∀ (W:LI) (l:List BA),W.map IV.toStr=l++[NG]→HH q=l→F9 (W.map IV.toStr++(((q.spans.take d.toNat).drop 0).map fun s=>MR s.1 s.2)++[U3,DL q.bu]) GR=F9 (I8 q d.toNat) GR:=fun W l hWl hl=>by
         unfold I8;rw [hWl,hl,BZ];simp
        subst hQ;cases k1:(k==1) with
        | true=>
         simp only [DE,Bool.true_or];refine (run [IV.str MS,IV.str (DL c),IV.str U4,IV.str (DQ lo),IV.str U8,IV.str (DQ hi),IV.str NG] (by simp) (fun w hw=>?_)).trans ?_
         ·simp only [AS,BW,CU] at hw;rcases hw with rfl | rfl | rfl | rfl | rfl | rfl | rfl
          ·decide
          ·exact zi hq.c
          ·decide
          ·exact zp hq.lo
          ·decide
          ·exact zp hq.hi
          ·decide
         ·rw [fin _ [MS,DL c,U4,DQ lo,U8,DQ hi] rfl (by unfold HH; simp only [k1,DE])]
        | false=>
         simp only [DG,vaw];cases k2:(k==2) with
         | true=>
          simp only [DE,Bool.true_or];refine (run [IV.str OD,IV.str (DL c),IV.str NG] (by simp) (fun w hw=>?_)).trans ?_
          ·simp only [AS,BW,CU] at hw;rcases hw with rfl | rfl | rfl
           ·decide
           ·exact zi hq.c
           ·decide
          ·rw [fin _ [OD,DL c] rfl (by unfold HH; simp only [k1,k2,DE,DG])]
         | false=>
          simp only [DG,vaw];cases k3:(k==3) with
          | false=>simp only [DG]
          | true=>
           simp only [DE];cases fl with
           | true=>
            simp only [DE];refine (run [IV.str L3,IV.str (DL c),IV.str OE,IV.str (DL ft),IV.str NG] (by simp) (fun w hw=>?_)).trans ?_
            ·simp only [AS,BW,CU] at hw;rcases hw with rfl | rfl | rfl | rfl | rfl
             ·decide
             ·exact zi hq.c
             ·decide
             ·exact zi hq.ft
             ·decide
            ·rw [fin _ [L3,DL c,OE,DL ft] rfl (by unfold HH; simp only [k1,k2,DE,DG])]
           | false=>
            simp only [DG];refine (run [IV.str MT,IV.str (DL c),IV.str OE,IV.str (DL ft),IV.str NG] (by simp) (fun w hw=>?_)).trans ?_
            ·simp only [AS,BW,CU] at hw;rcases hw with rfl | rfl | rfl | rfl | rfl
             ·decide
             ·exact zi hq.c
             ·decide
             ·exact zi hq.ft
             ·decide
            ·rw [fin _ [MT,DL c,OE,DL ft] rfl (by unfold HH; simp only [k1,k2,DG])]
 ·simp [R.get] at h
open Go Go.Proofs
def PH (N:Nat):Env:=D0 [(10,VT),(84,VU),(81,aO),(83,VV),(80,dA),(82,TR),(64,MX)] [(9,⟨[0,2,3,4,5,7,8,9,45,46,47],[2,9],[]⟩)] 82 N
abbrev RP (s0:BA) (x3:Int) (b4:Bool) (l5:LI) (x7 x8:Int) (l45:LI) (x46 x47 u02 u03 u0a u0b u0c u0d u0e u0f u0g u0h u04 u05 u06 u07 u08:Int) (u00:Bool) (u09 u0i u0j u0q u0r u0s u0t u0u u0v u0w u0x u0k u0l u0m u0n u0o:Int) (u01:Bool) (u0p:Int):St:=⟨[(0,(.str s0)),(2,(.ptr 2 0 0)),(3,(.i x3)),(4,(.bool b4)),(5,(.list false [.str] l5)),(7,(.i x7)),(8,(.i x8)),(9,(.ptr 9 0 0)),(45,(.list false [.str] l45)),(46,(.i x46)),(47,(.i x47))],[(2,(some (.box [.i u02,.i u03,.i u0a,.i u0b,.i u0c,.i u0d,.i u0e,.i u0f,.i u0g,.i u0h,.i u04,.i u05,.i u06,.i u07,.i u08,.bool u00,.i u09]))),(9,(some (.box [.i u0i,.i u0j,.i u0q,.i u0r,.i u0s,.i u0t,.i u0u,.i u0v,.i u0w,.i u0x,.i u0k,.i u0l,.i u0m,.i u0n,.i u0o,.bool u01,.i u0p])))]⟩
theorem zde (N:Nat) (s:BA):DV (PH N) SD [.cell 2 39,.tmp 3,.tmp 4] [[.z,.z,.z,.z,.z,.z,.z,.z,.z,.z,.z,.z,.z,.z,.z,.bool,.z],[.z],[.bool]] [.str s]=(cond (decide (AG s < 4294967281)&&decide (1≤AG {data:=#[32]})) (cond (decide (FU (A2 IV.str (D1 s {data:=#[32]})) {data:=#[105,110]} 0 < 0)) (some ((.tup [.agg [.i 0,.i 0,.i 0,.i 0,.i 0,.i 0,.i 0,.i 0,.i 0,.i 0,.i 0,.i 0,.i 0,.i 0,.i 0,.bool false,.i 0],.i 0,.bool false]),[])) (cond (decide (AA AB (AA AB (AA AB (ic (AF (A2 IV.str (D1 s {data:=#[32]}))) - 2) - FU (A2 IV.str (D1 s {data:=#[32]})) {data:=#[105,110]} 0) - 1) < 1)) (some ((.tup [.agg [.i 0,.i 0,.i 0,.i 0,.i 0,.i 0,.i 0,.i 0,.i 0,.i 0,.i 0,.i 0,.i 0,.i 0,.i 0,.bool false,.i 0],.i 0,.bool false]),[])) (cond (decide (AA AB (AA AB (AA AB (ic (AF (A2 IV.str (D1 s {data:=#[32]}))) - 2) - FU (A2 IV.str (D1 s {data:=#[32]})) {data:=#[105,110]} 0) - 1) > 4)) (some ((.tup [.agg [.i 0,.i 0,.i 0,.i 0,.i 0,.i 0,.i 0,.i 0,.i 0,.i 0,.i 0,.i 0,.i 0,.i 0,.i 0,.bool false,.i 0],.i 0,.bool false]),[])) (cond (decide (0≤FU (A2 IV.str (D1 s {data:=#[32]})) {data:=#[105,110]} 0)&&decide (FU (A2 IV.str (D1 s {data:=#[32]})) {data:=#[105,110]} 0≤ic (AF (A2 IV.str (D1 s {data:=#[32]}))))) (cond (decide (AF (AO 0 (AK (AD (FU (A2 IV.str (D1 s {data:=#[32]})) {data:=#[105,110]} 0)) (A2 IV.str (D1 s {data:=#[32]}))))≤4294967290)&&List.all (AO 0 (AK (AD (FU (A2 IV.str (D1 s {data:=#[32]})) {data:=#[105,110]} 0)) (A2 IV.str (D1 s {data:=#[32]})))) fun x=>decide (AG (IV.toStr x) < 4294967281)) (cond (decide (0≤AA AB (FU (A2 IV.str (D1 s {data:=#[32]})) {data:=#[105,110]} 0+1))&&(decide (AA AB (FU (A2 IV.str (D1 s {data:=#[32]})) {data:=#[105,110]} 0+1)≤AA AB (ic (AF (A2 IV.str (D1 s {data:=#[32]}))) - 2))&&decide (AA AB (ic (AF (A2 IV.str (D1 s {data:=#[32]}))) - 2)≤ic (AF (A2 IV.str (D1 s {data:=#[32]})))))) (DT (PH N) (DF SD [1,1,1,1,1,1,1,0,1,0,0]) ⟨[0,2,3,4,5,7,8,9,45,46,47],[2,9],[]⟩ N (RP s 0 false (A2 IV.str (D1 s {data:=#[32]})) (AA AB (ic (AF (A2 IV.str (D1 s {data:=#[32]}))) - 2)) (AA AB (AA AB (AA AB (ic (AF (A2 IV.str (D1 s {data:=#[32]}))) - 2) - FU (A2 IV.str (D1 s {data:=#[32]})) {data:=#[105,110]} 0) - 1)) (AO (AD (AA AB (FU (A2 IV.str (D1 s {data:=#[32]})) {data:=#[105,110]} 0+1))) (AK (AD (AA AB (ic (AF (A2 IV.str (D1 s {data:=#[32]}))) - 2))) (A2 IV.str (D1 s {data:=#[32]})))) (ic (AF (AO (AD (AA AB (FU (A2 IV.str (D1 s {data:=#[32]})) {data:=#[105,110]} 0+1))) (AK (AD (AA AB (ic (AF (A2 IV.str (D1 s {data:=#[32]}))) - 2))) (A2 IV.str (D1 s {data:=#[32]})))))) 0 0 0 0 0 0 0 0 0 0 0 0 0 0 0 0 false 0 (Qy.k (EK (AO 0 (AK (AD (FU (A2 IV.str (D1 s {data:=#[32]})) {data:=#[105,110]} 0)) (A2 IV.str (D1 s {data:=#[32]})))))) (Qy.c (EK (AO 0 (AK (AD (FU (A2 IV.str (D1 s {data:=#[32]})) {data:=#[105,110]} 0)) (A2 IV.str (D1 s {data:=#[32]})))))) (Qy.a0 (EK (AO 0 (AK (AD (FU (A2 IV.str (D1 s {data:=#[32]})) {data:=#[105,110]} 0)) (A2 IV.str (D1 s {data:=#[32]})))))) (Qy.b0 (EK (AO 0 (AK (AD (FU (A2 IV.str (D1 s {data:=#[32]})) {data:=#[105,110]} 0)) (A2 IV.str (D1 s {data:=#[32]})))))) (Qy.a1 (EK (AO 0 (AK (AD (FU (A2 IV.str (D1 s {data:=#[32]})) {data:=#[105,110]} 0)) (A2 IV.str (D1 s {data:=#[32]})))))) (Qy.b1 (EK (AO 0 (AK (AD (FU (A2 IV.str (D1 s {data:=#[32]})) {data:=#[105,110]} 0)) (A2 IV.str (D1 s {data:=#[32]})))))) (Qy.a2 (EK (AO 0 (AK (AD (FU (A2 IV.str (D1 s {data:=#[32]})) {data:=#[105,110]} 0)) (A2 IV.str (D1 s {data:=#[32]})))))) (Qy.b2 (EK (AO 0 (AK (AD (FU (A2 IV.str (D1 s {data:=#[32]})) {data:=#[105,110]} 0)) (A2 IV.str (D1 s {data:=#[32]})))))) (Qy.a3 (EK (AO 0 (AK (AD (FU (A2 IV.str (D1 s {data:=#[32]})) {data:=#[105,110]} 0)) (A2 IV.str (D1 s {data:=#[32]})))))) (Qy.b3 (EK (AO 0 (AK (AD (FU (A2 IV.str (D1 s {data:=#[32]})) {data:=#[105,110]} 0)) (A2 IV.str (D1 s {data:=#[32]})))))) (Qy.a4 (EK (AO 0 (AK (AD (FU (A2 IV.str (D1 s {data:=#[32]})) {data:=#[105,110]} 0)) (A2 IV.str (D1 s {data:=#[32]})))))) (Qy.b4 (EK (AO 0 (AK (AD (FU (A2 IV.str (D1 s {data:=#[32]})) {data:=#[105,110]} 0)) (A2 IV.str (D1 s {data:=#[32]})))))) (Qy.lo (EK (AO 0 (AK (AD (FU (A2 IV.str (D1 s {data:=#[32]})) {data:=#[105,110]} 0)) (A2 IV.str (D1 s {data:=#[32]})))))) (Qy.hi (EK (AO 0 (AK (AD (FU (A2 IV.str (D1 s {data:=#[32]})) {data:=#[105,110]} 0)) (A2 IV.str (D1 s {data:=#[32]})))))) (Qy.ft (EK (AO 0 (AK (AD (FU (A2 IV.str (D1 s {data:=#[32]})) {data:=#[105,110]} 0)) (A2 IV.str (D1 s {data:=#[32]})))))) (Qy.fl (EK (AO 0 (AK (AD (FU (A2 IV.str (D1 s {data:=#[32]})) {data:=#[105,110]} 0)) (A2 IV.str (D1 s {data:=#[32]})))))) (Qy.bu (EK (AO 0 (AK (AD (FU (A2 IV.str (D1 s {data:=#[32]})) {data:=#[105,110]} 0)) (A2 IV.str (D1 s {data:=#[32]}))))))) (DM 0 (DN (PH N) (DF SD [1,1,1,1,1,1,1,1]) (DP (PH N) none [.cell 2 39,.tmp 3,.tmp 4] [[.z,.z,.z,.z,.z,.z,.z,.z,.z,.z,.z,.z,.z,.z,.z,.bool,.z],[.z],[.bool]])))) none) none) none)))) none):=by kernel_rfl
theorem Lq (N:Nat) (s0:BA) (x3:Int) (b4:Bool) (l5:LI) (x7 x8:Int) (l45:LI) (x46 x47 u02 u03 u0a u0b u0c u0d u0e u0f u0g u0h u04 u05 u06 u07 u08:Int) (u00:Bool) (u09 u0i u0j u0q u0r u0s u0t u0u u0v u0w u0x u0k u0l u0m u0n u0o:Int) (u01:Bool) (u0p:Int) (again:St→DJ) (k:Out→St→DJ):EX (PH N) (DF SD [1,1,1,1,1,1,1,0,1,0,0]) (RP s0 x3 b4 l5 x7 x8 l45 x46 x47 u02 u03 u0a u0b u0c u0d u0e u0f u0g u0h u04 u05 u06 u07 u08 u00 u09 u0i u0j u0q u0r u0s u0t u0u u0v u0w u0x u0k u0l u0m u0n u0o u01 u0p) (ED again ⟨[0,2,3,4,5,7,8,9,45,46,47],[2,9],[]⟩ k)=(cond (decide (x47 < x46)) (cond (decide (0≤x47)&&decide (x47 < ic (AF l45))) (cond (decide (AG (IV.toStr (AH l45 (AD x47) default)) < 4294967281)) (cond (decide (AG (cutL (IV.toStr (AH l45 (AD x47) default)) {data:=#[46,46]}) < 4294967281)) (cond (decide (AG (FT (IV.toStr (AH l45 (AD x47) default)) {data:=#[46,46]}) < 4294967281)) (cond (decide (x47=ic 0)) (again (RP s0 x3 b4 l5 x7 x8 l45 x46 (AA AB (x47+1)) u02 u03 u0a u0b u0c u0d u0e u0f u0g u0h u04 u05 u06 u07 u08 u00 u09 u0i u0j (F1 (cutL (IV.toStr (AH l45 (AD x47) default)) {data:=#[46,46]})) (F1 (FT (IV.toStr (AH l45 (AD x47) default)) {data:=#[46,46]})) u0s u0t u0u u0v u0w u0x u0k u0l u0m u0n u0o u01 u0p)) (cond (decide (x47=ic 1)) (again (RP s0 x3 b4 l5 x7 x8 l45 x46 (AA AB (x47+1)) u02 u03 u0a u0b u0c u0d u0e u0f u0g u0h u04 u05 u06 u07 u08 u00 u09 u0i u0j u0q u0r (F1 (cutL (IV.toStr (AH l45 (AD x47) default)) {data:=#[46,46]})) (F1 (FT (IV.toStr (AH l45 (AD x47) default)) {data:=#[46,46]})) u0u u0v u0w u0x u0k u0l u0m u0n u0o u01 u0p)) (cond (decide (x47=ic 2)) (again (RP s0 x3 b4 l5 x7 x8 l45 x46 (AA AB (x47+1)) u02 u03 u0a u0b u0c u0d u0e u0f u0g u0h u04 u05 u06 u07 u08 u00 u09 u0i u0j u0q u0r u0s u0t (F1 (cutL (IV.toStr (AH l45 (AD x47) default)) {data:=#[46,46]})) (F1 (FT (IV.toStr (AH l45 (AD x47) default)) {data:=#[46,46]})) u0w u0x u0k u0l u0m u0n u0o u01 u0p)) (cond (decide (x47=ic 3)) (again (RP s0 x3 b4 l5 x7 x8 l45 x46 (AA AB (x47+1)) u02 u03 u0a u0b u0c u0d u0e u0f u0g u0h u04 u05 u06 u07 u08 u00 u09 u0i u0j u0q u0r u0s u0t u0u u0v (F1 (cutL (IV.toStr (AH l45 (AD x47) default)) {data:=#[46,46]})) (F1 (FT (IV.toStr (AH l45 (AD x47) default)) {data:=#[46,46]})) u0k u0l u0m u0n u0o u01 u0p)) (cond (decide (x47=ic 4)) (again (RP s0 x3 b4 l5 x7 x8 l45 x46 (AA AB (x47+1)) u02 u03 u0a u0b u0c u0d u0e u0f u0g u0h u04 u05 u06 u07 u08 u00 u09 u0i u0j u0q u0r u0s u0t u0u u0v u0w u0x (F1 (cutL (IV.toStr (AH l45 (AD x47) default)) {data:=#[46,46]})) (F1 (FT (IV.toStr (AH l45 (AD x47) default)) {data:=#[46,46]})) u0m u0n u0o u01 u0p)) none))))) none) none) none) none) (k (.exit 0) (RP s0 x3 b4 l5 x7 x8 l45 x46 x47 u02 u03 u0a u0b u0c u0d u0e u0f u0g u0h u04 u05 u06 u07 u08 u00 u09 u0i u0j u0q u0r u0s u0t u0u u0v u0w u0x u0k u0l u0m u0n u0o u01 u0p))):=by kernel_rfl
theorem Xc (N:Nat) (s0:BA) (x3:Int) (b4:Bool) (l5:LI) (x7 x8:Int) (l45:LI) (x46 x47 u02 u03 u0a u0b u0c u0d u0e u0f u0g u0h u04 u05 u06 u07 u08:Int) (u00:Bool) (u09 u0i u0j u0q u0r u0s u0t u0u u0v u0w u0x u0k u0l u0m u0n u0o:Int) (u01:Bool) (u0p:Int):(DM 0 (DN (PH N) (DF SD [1,1,1,1,1,1,1,1]) (DP (PH N) none [.cell 2 39,.tmp 3,.tmp 4] [[.z,.z,.z,.z,.z,.z,.z,.z,.z,.z,.z,.z,.z,.z,.z,.bool,.z],[.z],[.bool]]))) (.exit 0) (RP s0 x3 b4 l5 x7 x8 l45 x46 x47 u02 u03 u0a u0b u0c u0d u0e u0f u0g u0h u04 u05 u06 u07 u08 u00 u09 u0i u0j u0q u0r u0s u0t u0u u0v u0w u0x u0k u0l u0m u0n u0o u01 u0p)=(cond (decide (0≤AA AB (x7+1))&&decide (AA AB (x7+1) < ic (AF l5))) (cond (!AX (E6 {k:=u0i,c:=u0j,a0:=u0q,b0:=u0r,a1:=u0s,b1:=u0t,a2:=u0u,b2:=u0v,a3:=u0w,b3:=u0x,a4:=u0k,b4:=u0l,lo:=u0m,hi:=u0n,ft:=u0o,fl:=u01,bu:=FA (IV.toStr (AH l5 (AD (AA AB (x7+1))) default))} x8)==AX s0) (some ((.tup [.agg [.i 0,.i 0,.i 0,.i 0,.i 0,.i 0,.i 0,.i 0,.i 0,.i 0,.i 0,.i 0,.i 0,.i 0,.i 0,.bool false,.i 0],.i 0,.bool false]),[])) (some ((.tup [.agg [.i u0i,.i u0j,.i u0q,.i u0r,.i u0s,.i u0t,.i u0u,.i u0v,.i u0w,.i u0x,.i u0k,.i u0l,.i u0m,.i u0n,.i u0o,.bool u01,.i (FA (IV.toStr (AH l5 (AD (AA AB (x7+1))) default)))],.i x8,.bool true]),[]))) none):=by kernel_rfl
open Go Go.Proofs
theorem zcd (l:LI):(EK l).a0=0∧(EK l).b0=0∧(EK l).a1=0∧(EK l).b1=0∧(EK l).a2=0∧(EK l).b2=0∧(EK l).a3=0∧(EK l).b3=0∧(EK l).a4=0∧(EK l).b4=0∧(EK l).bu=0:=by
 unfold EK;cases ((DU l 0).toList==MS.toList) <;> cases ((DU l 0).toList==OD.toList) <;> cases ((DU l 0).toList==MT.toList||(DU l 0).toList==L3.toList) <;> exact ⟨rfl,rfl,rfl,rfl,rfl,rfl,rfl,rfl,rfl,rfl,rfl⟩
def rq (l:LI) (i d:Nat):Qy:=
 ⟨(
  EK (l.take i)).k,(EK (l.take i)).c,
  cond (BK 0 d) (RK l (i+1)) 0,cond (BK 0 d) (RL l (i+1)) 0,cond (BK 1 d) (RK l (i+2)) 0,cond (BK 1 d) (RL l (i+2)) 0,cond (BK 2 d) (RK l (i+3)) 0,cond (BK 2 d) (RL l (i+3)) 0,cond (BK 3 d) (RK l (i+4)) 0,cond (BK 3 d) (RL l (i+4)) 0,0,0,
  (EK (l.take i)).lo,(EK (l.take i)).hi,(EK (l.take i)).ft,(EK (l.take i)).fl,0⟩
theorem zgZ (l:LI) (i:Nat):EK (l.take i)=rq l i 0:=by
 obtain ⟨h1,h2,h3,h4,h5,h6,h7,h8,h9,h10,h11⟩:=zcd (l.take i);unfold rq;generalize EK (l.take i)=q at *;cases q;simp only at *;subst h1 h2 h3 h4 h5 h6 h7 h8 h9 h10 h11;rfl
abbrev lW (s:BA) (W:LI) (x7 x8:Int) (L:LI) (q:Qy) (i:Int):St:=
 ⟨[(0,(.str s)),(2,(.ptr 2 0 0)),(3,(.int .i64 0)),(4,(.bool false)),(5,(.list false [.str] W)),(7,(.int .i64 x7)),(8,(.int .i64 x8)),(9,(.ptr 9 0 0)),(45,(.list false [.str] L)),(46,(.int .i64 (ic L.length))),(47,(.int .i64 i))],[(2,(some (nH Qy.none))),(9,(some (nH q)))]⟩
theorem Vw (w sep:BA) (h:w.size < 4294967281):decide (AG w < 4294967281)=true∧decide (AG (cutL w sep) < 4294967281)=true∧decide (AG (FT w sep) < 4294967281)=true:=by
 obtain ⟨h1,h2⟩:=jC w sep;exact ⟨AE h,AE (by omega),AE (by omega)⟩
theorem zf1 (N:Nat) (s:BA) (W:LI) (x7 x8:Int) (L:LI) (I i:Nat) (hi:i < L.length) (h4:i < 4) (hL:IV.toStr (L.getD i default)=DU W (I+1+i)) (hw:(DU W (I+1+i)).size < 4294967281) (again:St→DJ) (k:Out→St→DJ) :
  EX (PH N) (DF SD [1,1,1,1,1,1,1,0,1,0,0]) (lW s W x7 x8 L (rq W I i) (i:Int)) (ED again ⟨[0,2,3,4,5,7,8,9,45,46,47],[2,9],[]⟩ k)=again (lW s W x7 x8 L (rq W I (i+1)) ((i+1:Nat):Int)):=by
 refine (Lq N s 0 false W x7 x8 L (ic L.length) i 0 0 0 0 0 0 0 0 0 0 0 0 0 0 0 false 0 (rq W I i).k (rq W I i).c (rq W I i).a0 (rq W I i).b0 (rq W I i).a1 (rq W I i).b1 (rq W I i).a2 (rq W I i).b2 (rq W I i).a3 (rq W I i).b3 (rq W I i).a4 (rq W I i).b4 (rq W I i).lo (rq W I i).hi (rq W I i).ft (rq W I i).fl (rq W I i).bu again k).trans ?_;rw [H0 hi,IH,CJ,DE,DE,BE,hL];obtain ⟨c1,c2,c3⟩:=Vw (DU W (I+1+i)) { data:=#[46,46] } hw;rw [c1,c2,c3,DE,DE,DE];have hi4:i=0∨i=1∨i=2∨i=3:=by omega
 rcases hi4 with rfl | rfl | rfl | rfl
 ·rw [show decide (((0:Nat):Int)=ic 0)=true from rfl,DE];rfl
 ·rw [show decide (((1:Nat):Int)=ic 0)=false from rfl,show decide (((1:Nat):Int)=ic 1)=true from rfl,DG,DE];rfl
 ·rw [show decide (((2:Nat):Int)=ic 0)=false from rfl,show decide (((2:Nat):Int)=ic 1)=false from rfl,show decide (((2:Nat):Int)=ic 2)=true from rfl,DG,DG,DE];rfl
 ·rw [show decide (((3:Nat):Int)=ic 0)=false from rfl,show decide (((3:Nat):Int)=ic 1)=false from rfl,show decide (((3:Nat):Int)=ic 2)=false from rfl,show decide (((3:Nat):Int)=ic 3)=true from rfl,DG,DG,DG,DE];rfl
theorem Gw (N:Nat) (s:BA) (W:LI) (x7 x8:Int) (L:LI) (I:Nat) (h4:L.length≤4) (hL:∀ i,i < L.length→IV.toStr (L.getD i default)=DU W (I+1+i)) (hw:∀ i,(DU W i).size < 4294967281) (K:Out→St→DJ) :
  ∀ (d i n:Nat),i+d=L.length→d < n →
   DT (PH N) (DF SD [1,1,1,1,1,1,1,0,1,0,0]) ⟨[0,2,3,4,5,7,8,9,45,46,47],[2,9],[]⟩ n (lW s W x7 x8 L (rq W I i) (i:Int)) K=K (.exit 0) (lW s W x7 x8 L (rq W I L.length) (ic L.length))
 | 0,i,n+1,hd,hn=>by
  have hi:i=L.length:=by omega
  subst hi;rw [DX];refine (Lq N s 0 false W x7 x8 L (ic L.length) _ 0 0 0 0 0 0 0 0 0 0 0 0 0 0 0 false 0 (rq W I L.length).k (rq W I L.length).c (rq W I L.length).a0 (rq W I L.length).b0 (rq W I L.length).a1 (rq W I L.length).b1 (rq W I L.length).a2 (rq W I L.length).b2 (rq W I L.length).a3 (rq W I L.length).b3 (rq W I L.length).a4 (rq W I L.length).b4 (rq W I L.length).lo (rq W I L.length).hi (rq W I L.length).ft (rq W I L.length).fl (rq W I L.length).bu _ _).trans ?_;rw [IT (AW _),DG];rfl
 | d+1,i,n+1,hd,hn=>by
  rw [DX,zf1 N s W x7 x8 L I i (by omega) (by omega) (hL i (by omega)) (hw _)];exact Gw N s W x7 x8 L I h4 hL hw K d (i+1) n (by omega) (by omega)
 | _,_,0,_,h=>by omega
theorem Cm (w:BA):∀ (l:LI) (k:Int),0≤k→FU l w k = -1∨(k≤FU l w k∧FU l w k < k+(l.length:Int))
 | [],_,_=>.inl rfl
 | x :: l,k,hk=>by
  unfold FU;cases (w.toList==x.toStr.toList) with
  | true=>rw [DE]; exact .inr ⟨DA _,by simp only [AN]; omega⟩
  | false=>
   rw [DG];rcases Cm w l (k+1) (by omega) with h | ⟨h1,h2⟩
   ·exact .inl h
   ·exact .inr ⟨by omega,by simp only [AN]; omega⟩
theorem zcS (s:BA) (hs:s.size < 4294967281):(G4 s).length≤4294967282∧∀ i,(DU (G4 s) i).size < 4294967281:=by
 have h1:=Lib.splitB_all GR (by decide) 0 _ s rfl;have h2:=Lib.countB_le GR (by decide) s.size s (AW _);refine ⟨?_,fun i=>?_⟩
 ·have e:(G4 s).length=Lib.countB s GR+1:=by
   unfold G4 D1;rw [BQ];exact h1
  omega
 ·unfold DU;by_cases hi:i < (G4 s).length
  ·have:AH (G4 s) i default=(G4 s)[i]:=by simp [hi]
   rw [this];have hm:=C4 hi;unfold G4 at hm;obtain ⟨p,hp,hpe⟩:=CN.1 hm;have hz:=(XS GR _ s).2 p hp
   have:((G4 s)[i]).toStr=p:=by
    show (A2 IV.str (D1 s GR))[i].toStr=p;rw [← hpe];rfl
   rw [this];omega
  ·have:AH (G4 s) i default=default:=by simp [AH,hi]
   rw [this];decide
theorem Js:DS PR B0 23 VS:=by
 refine D2 [(10,VT),(84,VU),(81,aO),(83,VV),(80,dA),(82,TR),(64,MX)] [(9,⟨[0,2,3,4,5,7,8,9,45,46,47],[2,9],[]⟩)] VS
  [[.z,.z,.z,.z,.z,.z,.z,.z,.z,.z,.z,.z,.z,.z,.z,.bool,.z],[.z],[.bool]] Tryz.func23 zag
  ⟨Jt,Ju,zhk,Jv,ziw,tB,ZZ,trivial⟩ ?_
 intro vs r hwf h;unfold VS at h;split at h
 ·rename_i s;refine ⟨20,?_⟩;cases hs:decide (s.size < 4294967281) with
  | false=>rw [hs] at h; simp [R.get] at h
  | true=>
   rw [hs,R.get_br,DE,R.get_ok] at h;rw [← h];refine (zde 20 s).trans ?_;have hs':=A0 hs;rw [hs];obtain ⟨hl,hw⟩:=zcS s hs';have eW:A2 IV.str (D1 s { data:=#[32] })=G4 s:=rfl;have eI:FU (G4 s) { data:=#[105,110] } 0=M6 s:=rfl;rw [eW,eI,show decide (1≤AG { data:=#[32] })=true from rfl,CJ,DE];have hr:=Cm NG (G4 s) 0 (DA _)
   change M6 s = -1∨(0≤M6 s∧M6 s < 0+((G4 s).length:Int)) at hr
   have w2:AA AB (ic (AF (G4 s)) - 2)=ic (AF (G4 s)) - 2:=EI (by simp only [ic]; omega) (by simp only [ic]; omega);rw [w2];have wd:AA AB (AA AB (ic (AF (G4 s)) - 2 - M6 s) - 1)=N3 s:=by
    unfold N3;rw [EI (n:=ic (AF (G4 s)) - 2 - M6 s) (by simp only [ic]; omega) (by simp only [ic]; omega),EI (by simp only [ic]; omega) (by simp only [ic]; omega)]
   rw [wd];unfold FK MA MY;cases h1:decide (M6 s < 0) with
   | true=>simp only [DE,DG,A1,BM]; rfl
   | false=>
    cases h2:decide (N3 s < 1) with
    | true=>simp only [DE,DG,A1,A6,BM,vaq]; rfl
    | false=>
     cases h3:decide (N3 s > 4) with
     | true=>simp only [DE,DG,A1,A6,BM,vaq]; rfl
     | false=>
      simp only [DG,A6,BC];have h1:=BH h1;have h2:=BH h2;have h3:=BH h3;obtain ⟨I,hI⟩:∃ I:Nat,M6 s=I:=⟨(M6 s).toNat,by omega⟩;obtain ⟨D,hD⟩:∃ D:Nat,N3 s=D:=⟨(N3 s).toNat,by omega⟩;have hD1:1≤D:=by omega
      have hD4:D≤4:=by omega
      unfold eZ;have hDd:(D:Int)=((G4 s).length:Int) - 2 - I - 1:=by
       rw [← hD,← hI];rfl
      rw [hI,hD] at *;generalize G4 s=W at *;have wi:AA AB ((I:Int)+1)=((I+1:Nat):Int):=by rw [EI (by omega) (by omega)]; rfl
      have eb:ic (AF W) - 2=((W.length - 2:Nat):Int):=by simp only [ic]; omega
      rw [wi,eb];simp only [BE,BZ];have hall:List.all (AK I W) (fun x=>decide (AG (IV.toStr x) < 4294967281))=true:=by
       rw [CS];intro x hx;obtain ⟨j,hj,rfl⟩:=List.mem_iff_getElem.1 (vag hx)
       have:=hw j
       unfold DU at this;have e:AH W j default=W[j]:=by simp [hj]
       rw [e] at this;exact AE this
      rw [hall,AE (show (0:Int)≤(I:Int) by omega),AE (show (I:Int)≤ic (AF W) by simp only [ic]; omega),AE (show AF (AK I W)≤4294967290 by rw [A7]; omega),
       AE (show (0:Int)≤((I+1:Nat):Int) by omega),AE (show ((I+1:Nat):Int)≤((W.length - 2:Nat):Int) by omega),AE (show ((W.length - 2:Nat):Int)≤ic (AF W) by simp only [ic]; omega)]
      simp only [CJ,DE];have hLl:(AO (I+1) (AK (W.length - 2) W)).length=D:=by rw [CY,A7]; omega
      have hLg:∀ i,i < (AO (I+1) (AK (W.length - 2) W)).length→IV.toStr ((AO (I+1) (AK (W.length - 2) W)).getD i default)=DU W (I+1+i):=fun i hi=>by
       rw [hLl] at hi;unfold DU;congr 1;simp only [AH,vau,CR];rw [BR (by omega)]
      rw [zgZ W I];have run:=Gw 20 s W ((W.length - 2:Nat):Int) (D:Int) (AO (I+1) (AK (W.length - 2) W)) I (by rw [hLl]; exact hD4) hLg hw (DM 0 (DN (PH 20) (DF SD [1,1,1,1,1,1,1,1]) (DP (PH 20) none [(va5 2 39),(CD 3),(CD 4)] [[.z,.z,.z,.z,.z,.z,.z,.z,.z,.z,.z,.z,.z,.z,.z,.bool,.z],[.z],[.bool]]))) D 0 20 (by rw [hLl]; omega) (by omega);refine run.trans ?_;rw [hLl];refine (Xc 20 s 0 false W ((W.length - 2:Nat):Int) (D:Int) (AO (I+1) (AK (W.length - 2) W)) (ic (AO (I+1) (AK (W.length - 2) W)).length) _ 0 0 0 0 0 0 0 0 0 0 0 0 0 0 0 false 0 (rq W I D).k (rq W I D).c (rq W I D).a0 (rq W I D).b0 (rq W I D).a1 (rq W I D).b1 (rq W I D).a2 (rq W I D).b2 (rq W I D).a3 (rq W I D).b3 (rq W I D).a4 (rq W I D).b4 (rq W I D).lo (rq W I D).hi (rq W I D).ft (rq W I D).fl (rq W I D).bu).trans ?_;have e7:AA AB (((W.length - 2:Nat):Int)+1)=((W.length - 1:Nat):Int):=by rw [EI (by omega) (by omega)]; omega
      rw [e7,BE,AE (show (0:Int)≤((W.length - 1:Nat):Int) by omega),AE (show ((W.length - 1:Nat):Int) < ic (AF W) by simp only [ic]; omega),CJ,DE];have eq:(⟨(rq W I D).k,(rq W I D).c,(rq W I D).a0,(rq W I D).b0,(rq W I D).a1,(rq W I D).b1,(rq W I D).a2,(rq W I D).b2,(rq W I D).a3,(rq W I D).b3,(rq W I D).a4,(rq W I D).b4,(rq W I D).lo,(rq W I D).hi,(rq W I D).ft,(rq W I D).fl,FA (IV.toStr (AH W (W.length - 1) default))⟩:Qy)=fU W I D:=rfl;rw [eq];cases ((E6 (fU W I D) (D:Int)).toList==s.toList) with
      | false=>rfl
      | true=>rfl
 ·simp [R.get] at h
open Go
def Q0 (x:IV):Prop:=∃ v,-3000≤v∧v≤3000∧x=LP v
def UF (dim n:Int) (i:Nat) (x:IV):Prop:=∃ f a l,0≤f∧f < dim∧0≤a∧a≤9∧(i:Int) < l∧l+1 < n∧x=ST false 0 f a l (l+1)
def nm (x:IV) (j:Nat):Nat:=cond (x.cell 0).toBool 0 ((if (x.cell 4).toInt=(j:Int) then 1 else 0)+(if (x.cell 5).toInt=(j:Int) then 1 else 0))
def M8 (l:LI) (j:Nat):Nat:=(l.map (nm · j)).sum
theorem kS {x:IV} (h:Q0 x) (j:Nat):nm x j=0:=by
 obtain ⟨v,_,_,rfl⟩:=h;rfl
theorem zfa (f a:Int) (n j:Nat):nm (ST false 0 f a (n:Int) ((n:Int)+1)) j=(if j=n then 1 else 0)+(if j=n+1 then 1 else 0):=by
 show (if (n:Int)=(j:Int) then 1 else 0)+(if (n:Int)+1=(j:Int) then 1 else 0)=_;have e1:((n:Int)=(j:Int))↔(j=n):=by omega
 have e2:((n:Int)+1=(j:Int))↔(j=n+1):=by omega
 simp only [e1,e2]
theorem ze9 (l m:LI) (j:Nat):M8 (l++m) j=M8 l j+M8 m j:=by simp [M8]
theorem Fc:∀ {l:LI} {p:Nat} {x:IV} (y:IV) (j:Nat),l[p]?=some x→M8 (l.set p y) j+nm x j=M8 l j+nm y j
 | [],p,x,y,j,h=>by simp at h
 | z :: l,0,x,y,j,h=>by
  simp only [B2,AC] at h;subst h;simp only [List.set_cons_zero,M8,AZ,vbb];omega
 | z :: l,p+1,x,y,j,h=>by
  have:=Fc (l:=l) y j (by simpa using h)
  simp only [List.set_cons_succ,M8,AZ,vbb] at this ⊢;omega
structure NsOK (dim:Int) (i:Nat) (s:Ns):Prop where
 len:s.nodes.length=2*i+1
 ll:s.leaves.length=i+1
 node:∀ (k:Nat) x,s.nodes[k]?=some x→Q0 x∨UF dim (2*(i:Int)+1) k x
 leaf:∀ y∈s.leaves,∃ p:Nat,y = .int (p:Int)∧∃ x,s.nodes[p]?=some x∧Q0 x
 dist:s.leaves.Nodup
 cnt:∀ j,M8 s.nodes j=if 1≤j∧j < 2*i+1 then 1 else 0
theorem k9 (l:LI) (i lo hi:Int) (h:lo≤hi) (h0 : -2000000000000000000≤lo) (h1:hi≤2000000000000000000):lo≤DO (EH l i) lo hi∧DO (EH l i) lo hi≤hi:=
 (G2 h h0 h1).2
theorem eU (l:LI) (i:Int):Q0 (LP (DO (EH l i) (-3000) 3000)):=
 ⟨_,(k9 l i (-3000) 3000 (by omega) (by omega) (by omega)).1,(k9 l i (-3000) 3000 (by omega) (by omega) (by omega)).2,rfl⟩
theorem zfj (val:LI) (dim:Int):NsOK dim 0 ⟨[LP (DO (EH val 0) (-3000) 3000)],[.int 0]⟩ where
 len:=rfl
 ll:=rfl
 node k x h:=by
  cases k with
  | zero=>
   simp only [B2,AC] at h;subst h;exact .inl (eU val 0)
  | succ k=>simp at h
 leaf y hy:=by
  simp only [AS,BW,CU] at hy;exact ⟨0,hy,_,rfl,eU val 0⟩
 dist:=by simp
 cnt j:=by
  have:¬ (1≤j∧j < 2*0+1):=by omega
  rw [A9 this];show nm _ j+0=0;rw [kS (eU val 0)]
theorem zff {l:LI} (h:l.Nodup) {k:Nat} {y:IV} (hk:l[k]?=some y):y ∉ l.take k++l.drop (k+1):=by
 intro hy;rw [← vbG,List.mem_eraseIdx_iff_getElem?] at hy;obtain ⟨i,hne,hi⟩:=hy;have h1:i < l.length:=(BL.1 hi).1;have h2:k < l.length:=(BL.1 hk).1
 have:l[i]=l[k]:=by
  rw [(BL.1 hi).2,(BL.1 hk).2]
 have hp:=List.pairwise_iff_getElem.1 h;rcases Nat.lt_trichotomy i k with hlt | heq | hlt
 ·exact hp i k h1 h2 hlt this
 ·exact hne heq
 ·exact hp k i h2 h1 hlt this.symm
theorem zfi {part byl atl val:LI} {dim:Int} (hd:1≤dim∧dim≤4) {i:Nat} (hi:i < 7) {s:Ns} (h:NsOK dim i s):NsOK dim (i+1) (J4 part byl atl val dim i s):=by
 obtain ⟨k0,k1⟩:=(G2 (n:=(part.getD i default).toInt) (lo:=0) (hi:=ic s.leaves.length - 1) (by simp only [ic]; have:=h.ll; omega) (by omega) (by simp only [ic]; have:=h.ll; omega)).2;have hk0:0≤HT part i s:=k0;have hk1:HT part i s≤ic s.leaves.length - 1:=k1;obtain ⟨k,hk⟩:∃ k:Nat,HT part i s=k:=⟨(HT part i s).toNat,by omega⟩;have hkl:k < s.leaves.length:=by simp only [ic] at hk1; omega
 have hky:s.leaves[k]?=some s.leaves[k]:=A5 hkl;obtain ⟨p,hp,x,hx,hlf⟩:=h.leaf _ (C4 hkl);have hat:(RB part i s).toNat=p:=by
  unfold RB;rw [hk,BE,BS,hky,hp];show ((p:Int)).toNat=p;omega
 have hpl:p < 2*i+1:=by rw [← h.len]; exact (BL.1 hx).1
 have f1:=k9 byl (i:Int) 0 (dim - 1) (by omega) (by omega) (by omega);have a1:=k9 atl (i:Int) 0 9 (by omega) (by omega) (by omega);generalize hf:DO (EH byl (i:Int)) 0 (dim - 1)=f at f1;generalize ha:DO (EH atl (i:Int)) 0 9=a at a1;have el:ic s.nodes.length=2*(i:Int)+1:=by simp only [ic]; have:=h.len; omega
 have hs:J4 part byl atl val dim i s=⟨s.nodes.set p (ST false 0 f a (2*(i:Int)+1) (2*(i:Int)+1+1))++[LP (DO (EH val (2*(i:Int)+1)) (-3000) 3000),LP (DO (EH val (2*(i:Int)+2)) (-3000) 3000)],
   s.leaves.take k++s.leaves.drop (k+1)++[.int (2*(i:Int)+1),.int (2*(i:Int)+1+1)]⟩:=by
  unfold J4;rw [hat,hk,BE,hf,ha,el]
 rw [hs];have L1:=eU val (2*(i:Int)+1);have L2:=eU val (2*(i:Int)+2);have hgrow:∀ (q:Nat) z,UF dim (2*(i:Int)+1) q z→UF dim (2*((i+1:Nat):Int)+1) q z:=fun q z hz=>by
  obtain ⟨f,a,l,h1,h2,h3,h4,h5,h6,h7⟩:=hz;exact ⟨f,a,l,h1,h2,h3,h4,h5,by omega,h7⟩
 have hlen:(s.nodes.set p (ST false 0 f a (2*(i:Int)+1) (2*(i:Int)+1+1))).length=2*i+1:=by rw [vaI,h.len]
 have hnew:∀ (q:Nat) z,(s.nodes.set p (ST false 0 f a (2*(i:Int)+1) (2*(i:Int)+1+1))++[LP (DO (EH val (2*(i:Int)+1)) (-3000) 3000),LP (DO (EH val (2*(i:Int)+2)) (-3000) 3000)])[q]?=some z →
   (q≠p∧s.nodes[q]?=some z)∨(q=p∧z=ST false 0 f a (2*(i:Int)+1) (2*(i:Int)+1+1))∨Q0 z:=fun q z hz=>by
  by_cases hq:q < 2*i+1
  ·rw [List.getElem?_append_left (by rw [hlen]; exact hq)] at hz;by_cases e:p=q
   ·subst e;rw [List.getElem?_set_self (by rw [h.len]; exact hpl)] at hz;exact .inr (.inl ⟨rfl,(B3 hz).symm⟩)
   ·rw [va8 e] at hz;exact .inl ⟨fun e'=>e e'.symm,hz⟩
  ·rw [List.getElem?_append_right (by rw [hlen]; omega),hlen] at hz;obtain ⟨r,hr⟩:∃ r,q - (2*i+1)=r:=⟨_,rfl⟩;rw [hr] at hz
   match r,hz with
   | 0,hz=>exact .inr (.inr (by simp at hz; subst hz; exact L1))
   | 1,hz=>exact .inr (.inr (by simp at hz; subst hz; exact L2))
   | r+2,hz=>simp at hz
 refine ⟨?_,?_,?_,?_,?_,?_⟩
 ·show (s.nodes.set p _++[_,_]).length=_;rw [AU,hlen];simp only [AN,BB];omega
 ·show (s.leaves.take k++s.leaves.drop (k+1)++[_,_]).length=_;simp only [AU,A7,CY,AN,BB]
  have:=h.ll
  omega
 ·intro q z hz;rcases hnew q z hz with ⟨_,hz⟩ | ⟨rfl,rfl⟩ | hz
  ·rcases h.node q z hz with h1 | h1
   ·exact .inl h1
   ·exact .inr (hgrow q z h1)
  ·exact .inr ⟨f,a,2*(i:Int)+1,f1.1,by omega,a1.1,a1.2,by omega,by omega,rfl⟩
  ·exact .inl hz
 ·intro y hy;rcases AV.1 hy with hy | hy
  ·have hne:y≠.int (p:Int):=fun e=>by
    have:=zff h.dist hky
    rw [hp] at this;exact this (e ▸ hy)
   have hyl:y∈s.leaves:=by
    rcases AV.1 hy with hy | hy
    ·exact vag hy
    ·exact vay hy
   obtain ⟨q,hq,x',hx',hl'⟩:=h.leaf y hyl;have hqp:p≠q:=fun e=>by subst e; exact hne hq
   refine ⟨q,hq,x',?_,hl'⟩;have hql:q < 2*i+1:=by rw [← h.len]; exact (BL.1 hx').1
   show (s.nodes.set p _++[_,_])[q]?=_;rw [List.getElem?_append_left (by rw [hlen]; exact hql),va8 hqp,hx']
  ·simp only [AS,BW,CU] at hy;rcases hy with rfl | rfl
   ·refine ⟨2*i+1,by simp,LP (DO (EH val (2*(i:Int)+1)) (-3000) 3000),?_,L1⟩;show (s.nodes.set p _++[_,_])[2*i+1]?=_;rw [List.getElem?_append_right (by rw [hlen]; omega),hlen]
    have:2*i+1 - (2*i+1)=0:=by omega
    rw [this];rfl
   ·refine ⟨2*i+1+1,by simp,LP (DO (EH val (2*(i:Int)+2)) (-3000) 3000),?_,L2⟩;show (s.nodes.set p _++[_,_])[2*i+1+1]?=_;rw [List.getElem?_append_right (by rw [hlen]; omega),hlen]
    have:2*i+1+1 - (2*i+1)=1:=by omega
    rw [this];rfl
 ·show (s.leaves.take k++s.leaves.drop (k+1)++[_,_]).Nodup;have big:∀ y∈s.leaves,∀ n:Int,2*(i:Int)+1≤n→y≠.int n:=fun y hy n hn e=>by
   obtain ⟨q,hq,x',hx',_⟩:=h.leaf y hy;have hql:q < 2*i+1:=by rw [← h.len]; exact (BL.1 hx').1
   rw [hq] at e;injection e with e
   omega
  have hsub:∀ y∈s.leaves.take k++s.leaves.drop (k+1),y∈s.leaves:=fun y hy=>by
   rcases AV.1 hy with hy | hy
   ·exact vag hy
   ·exact vay hy
  rw [List.nodup_append];refine ⟨?_,?_,?_⟩
  ·rw [← vbG];exact List.Nodup.sublist (List.eraseIdx_sublist ..) h.dist
  ·rw [List.nodup_cons];refine ⟨fun hm=>?_,by simp⟩;simp only [AS,BW,CU] at hm;injection hm with hm
   omega
  ·intro y hy z hz e;subst e;simp only [AS,BW,CU] at hz;rcases hz with hz | hz
   ·exact big y (hsub y hy) _ (by omega) hz
   ·exact big y (hsub y hy) _ (by omega) hz
 ·intro j;show M8 (s.nodes.set p _++[_,_]) j=_;rw [ze9];have h1:=Fc (ST false 0 f a (2*(i:Int)+1) (2*(i:Int)+1+1)) j hx;rw [kS hlf,h.cnt j] at h1;have h2:M8 [LP (DO (EH val (2*(i:Int)+1)) (-3000) 3000),LP (DO (EH val (2*(i:Int)+2)) (-3000) 3000)] j=0:=by
   show nm _ j+(nm _ j+0)=0;rw [kS L1,kS L2]
  have h3:=zfa f a (2*i+1) j;have e:((2*i+1:Nat):Int)=2*(i:Int)+1:=by omega
  rw [e] at h3;rw [h3] at h1;rw [h2];by_cases c1:1≤j∧j < 2*i+1
  ·rw [BR c1,A9 (by omega),A9 (by omega)] at h1;rw [BR (by omega)];omega
  ·rw [A9 c1] at h1;by_cases c2:j=2*i+1
   ·rw [BR c2,A9 (by omega)] at h1;rw [BR (by omega)];omega
   ·by_cases c3:j=2*i+1+1
    ·rw [A9 c2,BR c3] at h1;rw [BR (by omega)];omega
    ·rw [A9 c2,A9 c3] at h1;rw [A9 (by omega)];omega
theorem Fv {part byl atl val:LI} {dim:Int} (hd:1≤dim∧dim≤4):∀ (d i:Nat) (s:Ns),i+d≤7→NsOK dim i s→NsOK dim (i+d) (ZB part byl atl val dim d i s)
 | 0,i,s,_,h=>h
 | d+1,i,s,hi,h=>by
  have:=Fv (part:=part) (byl:=byl) (atl:=atl) (val:=val) hd d (i+1) _ (by omega) (zfi (part:=part) (byl:=byl) (atl:=atl) (val:=val) hd (by omega) h)
  rw [vaG,Nat.add_comm 1 d] at this;exact this
theorem Fw (part byl atl val:LI) {dim:Int} (hd:1≤dim∧dim≤4):∃ i,i≤7∧NsOK dim i (O3 part byl atl val dim):=by
 refine ⟨min part.length 7,by omega,?_⟩
 have:=Fv (part:=part) (byl:=byl) (atl:=atl) (val:=val) hd (min part.length 7) 0 _ (by omega) (zfj val dim)
 rw [BJ] at this;exact this
open Go
theorem Nd.eq_of {x y:Nd} (h:x.eq y=true):x=y:=by
 obtain ⟨a1,a2,a3,a4,a5,a6⟩:=x;obtain ⟨b1,b2,b3,b4,b5,b6⟩:=y;simp only [Nd.eq,AI,B8,B4] at h;obtain ⟨rfl,rfl,rfl,rfl,rfl,rfl⟩:=h;rfl
theorem kT {w:Int} (h:F6 w=true):IM (DH w)=w∧MN (DH w)=true:=by
 have hn:DH w=XM w:=by unfold DH; rw [h]; rfl
 unfold F6 at h;simp only [AI,B5,B8,A8] at h;rw [hn];refine ⟨h.2,?_⟩;cases hr:MN (XM w) with
 | true=>rfl
 | false=>
  have:=h.2
  unfold IM at this;rw [hr] at this;exact absurd this.symm h.1
def pU (i:Nat):Bool:=F6 (H2 true ((i:Int) - 3000) 0 0 0 0)&&(DH (H2 true ((i:Int) - 3000) 0 0 0 0)).eq ⟨true,(i:Int) - 3000,0,0,0,0⟩
def kH:Nat→Bool
 | 0=>true
 | n+1=>pU n&&kH n
theorem Du:∀ {n i:Nat},kH n=true→i < n→pU i=true
 | n+1,i,h,hi=>by
  rw [kH,AI] at h;by_cases e:i=n
  ·subst e; exact h.1
  ·exact Du h.2 (by omega)
def oX (i:Nat):Bool:=F6 (H2 false 0 ((i % 4:Nat):Int) ((i / 4 % 10:Nat):Int) ((i / 40:Nat):Int) (((i / 40:Nat):Int)+1)) &&
 (DH (H2 false 0 ((i % 4:Nat):Int) ((i / 4 % 10:Nat):Int) ((i / 40:Nat):Int) (((i / 40:Nat):Int)+1))).eq ⟨false,0,((i % 4:Nat):Int),((i / 4 % 10:Nat):Int),((i / 40:Nat):Int),((i / 40:Nat):Int)+1⟩
def jQ:Nat→Bool
 | 0=>true
 | n+1=>(BK n 40||oX n)&&jQ n
theorem Bn:∀ {n i:Nat},jQ n=true→i < n→40≤i→oX i=true
 | n+1,i,h,hi,h40=>by
  rw [jQ,AI] at h;by_cases e:i=n
  ·subst e
   have:=h.1
   rw [vaz] at this;rcases this with h1 | h1
   ·have:i < 40:=AM h1
    omega
   ·exact h1
  ·exact Bn h.2 (by omega) h40
theorem zcR:kH 6001=true:=by kernel_rfl
theorem Zw:jQ 1200=true:=by kernel_rfl
theorem pR {v:Int} (h0 : -3000≤v) (h1:v≤3000):F6 (H2 true v 0 0 0 0)=true∧DH (H2 true v 0 0 0 0)=⟨true,v,0,0,0,0⟩:=by
 have h:=Du zcR (show (v+3000).toNat < 6001 by omega);have e:(((v+3000).toNat:Nat):Int) - 3000=v:=by omega
 unfold pU at h;rw [e,AI] at h;exact ⟨h.1,Nd.eq_of h.2⟩
theorem Bv {f a l:Int} (hf:0≤f∧f < 4) (ha:0≤a∧a≤9) (hl:1≤l∧l≤28):F6 (H2 false 0 f a l (l+1))=true∧DH (H2 false 0 f a l (l+1))=⟨false,0,f,a,l,l+1⟩:=by
 have h:=Bn Zw (show l.toNat*40+a.toNat*4+f.toNat < 1200 by omega) (by omega);have e1:(((l.toNat*40+a.toNat*4+f.toNat) % 4:Nat):Int)=f:=by omega
 have e2:(((l.toNat*40+a.toNat*4+f.toNat) / 4 % 10:Nat):Int)=a:=by omega
 have e3:(((l.toNat*40+a.toNat*4+f.toNat) / 40:Nat):Int)=l:=by omega
 unfold oX at h;rw [e1,e2,e3,AI] at h;exact ⟨h.1,Nd.eq_of h.2⟩
theorem zjC {dim n:Int} (hd:dim≤4) (hn:n≤29) {i:Nat} {x:IV} (h:Q0 x∨UF dim n i x) (j:Nat):KZ (DH (SY x).toInt) j=nm x j:=by
 rcases h with ⟨v,h0,h1,rfl⟩ | ⟨f,a,l,h0,h1,h2,h3,h4,h5,rfl⟩
 ·show KZ (DH (H2 true v 0 0 0 0)) j=_;rw [(pR h0 h1).2];rfl
 ·show KZ (DH (H2 false 0 f a l (l+1))) j=_;rw [(Bv ⟨h0,by omega⟩ ⟨h2,h3⟩ ⟨by omega,by omega⟩).2];rfl
theorem zjD {dim n:Int} (hd:dim≤4) (hn:n≤29) {i:Nat} {x:IV} (h:Q0 x∨UF dim n i x):(F6 (SY x).toInt&&N1 dim n i (DH (SY x).toInt))=true:=by
 rcases h with ⟨v,h0,h1,rfl⟩ | ⟨f,a,l,h0,h1,h2,h3,h4,h5,rfl⟩
 ·show (F6 (H2 true v 0 0 0 0)&&N1 dim n i (DH (H2 true v 0 0 0 0)))=true;rw [(pR h0 h1).1,(pR h0 h1).2];rfl
 ·show (F6 (H2 false 0 f a l (l+1))&&N1 dim n i (DH (H2 false 0 f a l (l+1))))=true;have hw:=Bv ⟨h0,by omega⟩ ⟨h2,h3⟩ (show 1≤l∧l≤28 by omega);rw [hw.1,hw.2];unfold N1;simp only [BG,AL (show ¬ f≥dim by omega),A8.2 (show l≠l+1 by omega),AL (show ¬ min l (l+1)≤(i:Int) by omega),AL (show ¬ max l (l+1)≥n by omega)];rfl
theorem Fm {dim n:Int} (hd:dim≤4) (hn:n≤29):∀ {l:LI} {i:Nat},(∀ (k:Nat) x,l[k]?=some x→Q0 x∨UF dim n (i+k) x)→J3 dim n i (l.map SY)=true
 | [],_,_=>rfl
 | x :: l,i,h=>by
  rw [AZ,J3,AI];refine ⟨zjD hd hn (h 0 x rfl),Fm hd hn (i:=i+1) fun k y hk=>?_⟩
  have:=h (k+1) y (by simpa using hk)
  rwa [show i+(k+1)=i+1+k by omega] at this
theorem Ew {dim n:Int} (hd:dim≤4) (hn:n≤29) (j:Nat):∀ {l:LI} {i:Nat},(∀ (k:Nat) x,l[k]?=some x→Q0 x∨UF dim n (i+k) x)→IJ (l.map SY) j=M8 l j
 | [],_,_=>rfl
 | x :: l,i,h=>by
  have ih:=Ew hd hn j (l:=l) (i:=i+1) fun k y hk=>by
   have:=h (k+1) y (by simpa using hk)
   rwa [show i+(k+1)=i+1+k by omega] at this
  have h0:=zjC hd hn (h 0 x rfl) j;unfold IJ M8 at ih ⊢;simp only [AZ,vbb];rw [h0,ih]
theorem zfe (part byl atl val:LI) {dim:Int} (hd:1≤dim∧dim≤4):GK (MJ part byl atl val dim) dim=true:=by
 obtain ⟨i,hi,h⟩:=Fw part byl atl val hd;have hlen:(MJ part byl atl val dim).length=2*i+1:=by
  unfold MJ;rw [BQ,h.len]
 have hn:∀ (k:Nat) x,(O3 part byl atl val dim).nodes[k]?=some x→Q0 x∨UF dim (ic (MJ part byl atl val dim).length) (0+k) x:=fun k x hk=>by
  have e:ic (MJ part byl atl val dim).length=2*(i:Int)+1:=by simp only [ic]; omega
  rw [e,BJ];exact h.node k x hk
 have hb:ic (MJ part byl atl val dim).length≤29:=by simp only [ic]; omega
 unfold GK;rw [AI,AI,AI];refine ⟨⟨CP (by omega),CP (by omega)⟩,Fm hd.2 hb hn,?_⟩;unfold ZF;rw [CS];intro j hj;have hj:=va6.1 hj;rw [B8]
 have:=Ew hd.2 hb (j+1) hn
 have e:IJ (MJ part byl atl val dim) (j+1)=M8 (O3 part byl atl val dim).nodes (j+1):=this;rw [e,h.cnt,BR (by omega)]
theorem YX (d:Int):1≤NY d∧NY d≤3:=(G2 (n:=d) (lo:=1) (hi:=3) (by omega) (by omega) (by omega)).2
theorem dV (d:Int):1≤KF d∧KF d≤3:=(G2 (n:=d) (lo:=1) (hi:=3) (by omega) (by omega) (by omega)).2
def kQ (d c:Int) (bias ts:LI):Md:=⟨NY d,KF c,SC c bias 0,SC c bias 1,SC c bias 2,RN d c ts⟩
theorem nC (c:Int) (bias:LI) (j:Int):HE (KF c) j (SC c bias j)=true:=by
 unfold HE SC
 have:=(G2 (n:=EH bias j) (lo := -500) (hi:=500) (by omega) (by omega) (by omega)).2
 rcases Int.lt_or_le j (KF c) with h | h
 ·rw [AE h,AL (show ¬ j≥KF c by omega)];simp only [B1,BM,A6,CJ];unfold EZ;rw [AE (by omega),AE (by omega)];rfl
 ·rw [AL (show ¬ j < KF c by omega),AE (show j≥KF c from h)];rfl
theorem zjl (d c:Int) (t:IV):G8 (NY d) (KF c) (Z2 d c t)=true:=by
 have hd:=YX d;have hc:=dV c;have hk:=(G2 (n:=(t.cell 0).toInt) (lo:=0) (hi:=KF c - 1) (by omega) (by omega) (by omega)).2;show (!(decide (DO (t.cell 0).toInt 0 (KF c - 1) < 0))&&(!(decide (DO (t.cell 0).toInt 0 (KF c - 1)≥KF c))&&GK (MJ (t.cell 1).toList (t.cell 2).toList (t.cell 3).toList (t.cell 4).toList (NY d)) (NY d)))=true;rw [AL (by omega),AL (by omega),zfe _ _ _ _ ⟨hd.1,by omega⟩];rfl
theorem zjn (d c:Int) (ts:LI):(RN d c ts).all (G8 (NY d) (KF c))=true:=by
 rw [CS];intro t ht;unfold RN at ht;obtain ⟨u,_,rfl⟩:=CN.1 ht;exact zjl d c u
theorem zjm (d c:Int) (ts:LI):(RN d c ts).length≤4:=by
 unfold RN;rw [BQ,A7];omega
theorem zda {m:Md} (hd:1≤m.d∧m.d≤4) (hc:1≤m.c∧m.c≤3) (hl:m.ts.length≤8) (h0:HE m.c 0 m.b0=true) (h1:HE m.c 1 m.b1=true) (h2:HE m.c 2 m.b2=true) (ht:m.ts.all (G8 m.d m.c)=true):EP m=true:=by
 unfold EP;rw [AL (show ¬ m.d < 1 by omega),AL (show ¬ m.d > 4 by omega),AL (show ¬ m.c < 1 by omega),AL (show ¬ m.c > 3 by omega),CP hl,h0,h1,h2,ht];rfl
theorem zdb (d c:Int) (bias ts:LI):EP (kQ d c bias ts)=true:=by
 have hd:=YX d;have hc:=dV c;exact zda (m:=kQ d c bias ts) ⟨hd.1,by show NY d≤4; omega⟩ hc (by have:=zjm d c ts; show (RN d c ts).length≤8; omega) (nC c bias 0) (nC c bias 1) (nC c bias 2) (zjn d c ts)
open Go
abbrev D8:List Kd:=[.bool,.z,.z]
def H9 (x:IV):Bool:=(x.cell 0).toBool
def E9 (x:IV):Int:=(x.cell 1).toInt
def F2 (x:IV):Int:=(x.cell 2).toInt
def tJ (x y:IV):Bool:=H9 x==H9 y&&(E9 x==E9 y&&F2 x==F2 y)
def lY (x:IV):Bool:=!(H9 x&&!(E9 x==0&&F2 x==0))&&(decide (0≤E9 x)&&decide (E9 x≤4))
def XT (l:LI):Bool:=decide (1≤l.length)&&(decide (l.length≤65536)&&l.all lY)
def bG:DR
 | [.list true [.bool,.z,.z] l]=>.ok (.bool (XT l)) []
 | _=>.no
def MP:LI→LI→Bool
 | [],[]=>true
 | x :: l,y :: m=>tJ x y&&MP l m
 | _,_=>false
structure Vd where
 kind:Int
 proof:LI
 w0:Int
 w1:Int
 w2:Int
 w3:Int
 twin:Int
 spent:Int
def Vd.none:Vd:=⟨0,[],0,0,0,0,0,0⟩
def Vd.V (v:Vd):V:=.agg [.int .i64 v.kind,.list true D8 v.proof,.int .i64 v.w0,.int .i64 v.w1,.int .i64 v.w2,.int .i64 v.w3,.int .i64 v.twin,.int .i64 v.spent]
def Vd.bare (v:Vd):Bool:=v.w0==0&&(v.w1==0&&(v.w2==0&&(v.w3==0&&v.twin==0)))
def Vd.right (v:Vd):Bool:=
 decide (0≤v.spent)&&(decide (v.spent≤65536) &&
  (v.kind==1&&(v.bare&&XT v.proof)||(v.kind==2&&v.proof.isEmpty||(v.kind==3||v.kind==4)&&(v.bare&&v.proof.isEmpty))))
def bB:DR
 | [.agg [.int .i64 k,.list true [.bool,.z,.z] p,.int .i64 a,.int .i64 b,.int .i64 c,.int .i64 d,.int .i64 t,.int .i64 s]]=>.ok (.bool (Vd.right ⟨k,p,a,b,c,d,t,s⟩)) []
 | _=>.no
def O6:BA→LI→BA
 | s,[]=>s
 | s,x :: l=>O6 (s.push 32++DL x.toInt) l
def GN (s w:BA) (l:LI):BA:=(O6 (s++w) l).push 10
def bC:DR
 | [.bor [.bld s],.str w,.list false [.z] l]=>.br (decide ((GN s w l).size≤strMax)) (.ok (.tup []) [[.bld (GN s w l)]]) .no
 | _=>.no
def GA (l:LI) (i:Int):Int:=cond (decide (ic l.length≤i)) 0 (FA (l.getD i.toNat default).toStr)
def bD:DR
 | [.list false [.str] l,.int .i64 i]=>.br (decide (0≤i)) (.ok (.int .i64 (GA l i)) []) .no
 | _=>.no
def Es (b:Bool) (p a:Int):IV:=.agg [.bool b,.int p,.int a]
abbrev PF:BA:=⟨#[104,111,108,100,115]⟩
abbrev Z8:BA:=⟨#[102,97,105,108,115]⟩
abbrev Z9:BA:=⟨#[117,110,107,110,111,119,110]⟩
abbrev aA:BA:=⟨#[119,114,111,110,103]⟩
abbrev U7:BA:=⟨#[115,117,109]⟩
abbrev gX:BA:=⟨#[99,117,116]⟩
abbrev FC:BA:=⟨#[10]⟩
abbrev U6:BA:=⟨#[32]⟩
abbrev EF:BA:=⟨#[]⟩
def IG (s:BA):LI:=(D1 (cutL s FC) U6).map IV.str
def NI (l:LI):BA:=(l.getD 0 default).toStr
def lC (s:BA):IV:=
 cond ((NI (IG s)).toList==U7.toList) (Es true 0 0) (Es false (GA (IG s) 1) (GA (IG s) 2))
def ZM:Nat→BA→LI→LI
 | 0,_,p=>p
 | n+1,s,p=>cond (!(s.toList==EF.toList)&&decide (p.length≤65536)) (ZM n (FT s FC) (p++[lC s])) p
def JI (s:BA):Vd:=
 cond ((NI (IG s)).toList==PF.toList) ⟨1,ZM ((FT s FC).size+1) (FT s FC) [],0,0,0,0,0,GA (IG s) 1⟩
 (cond ((NI (IG s)).toList==Z8.toList) ⟨2,[],GA (IG s) 2,GA (IG s) 3,GA (IG s) 4,GA (IG s) 5,GA (IG s) 6,GA (IG s) 1⟩
 (cond ((NI (IG s)).toList==Z9.toList) ⟨3,[],0,0,0,0,0,GA (IG s) 1⟩
 (cond ((NI (IG s)).toList==aA.toList) ⟨4,[],0,0,0,0,0,GA (IG s) 1⟩
 ⟨0,[],0,0,0,0,0,GA (IG s) 1⟩)))
def bE:DR
 | [.str s]=>.br (decide (s.size < 4294967281)) (.ok (.agg [.int .i64 (JI s).kind,.list true [.bool,.z,.z] (JI s).proof,.int .i64 (JI s).w0,.int .i64 (JI s).w1,.int .i64 (JI s).w2,.int .i64 (JI s).w3,.int .i64 (JI s).twin,.int .i64 (JI s).spent]) []) .no
 | _=>.no
def RG:BA→LI→BA
 | s,[]=>s
 | s,x :: l=>RG (cond (H9 x) (GN s U7 []) (GN s gX [.int (E9 x),.int (F2 x)])) l
def GT (v:Vd):BA:=
 cond v.right
  (cond (v.kind==1) (RG (GN EF PF [.int v.spent,.int (ic v.proof.length)]) v.proof)
  (cond (v.kind==2) (GN EF Z8 [.int v.spent,.int v.w0,.int v.w1,.int v.w2,.int v.w3,.int v.twin])
  (cond (v.kind==3) (GN EF Z9 [.int v.spent])
  (GN EF aA [.int v.spent]))))
  EF
def RZ:DR
 | [.agg [.int .i64 k,.list true [.bool,.z,.z] p,.int .i64 a,.int .i64 b,.int .i64 c,.int .i64 d,.int .i64 t,.int .i64 s]]=>
  .br (decide ((GT ⟨k,p,a,b,c,d,t,s⟩).size≤strMax)) (.ok (.str (GT ⟨k,p,a,b,c,d,t,s⟩)) []) .no
 | _=>.no
def ZI (s:BA):Bool:=!(s.toList==EF.toList)&&(GT (JI s)).toList==s.toList
def J6 (s:BA):Vd:=cond (ZI s) (JI s) Vd.none
def bA:DR
 | [.str s]=>.br (decide (s.size < 4294967281)) (.br (decide ((GT (JI s)).size≤strMax)) (.ok (.tup [.agg [.int .i64 (J6 s).kind,.list true [.bool,.z,.z] (J6 s).proof,.int .i64 (J6 s).w0,.int .i64 (J6 s).w1,.int .i64 (J6 s).w2,.int .i64 (J6 s).w3,.int .i64 (J6 s).twin,.int .i64 (J6 s).spent],.bool (ZI s)]) []) .no) .no
 | _=>.no
open Go
def Nd.cs (x:Nd):List FM.V:=[.bool x.lf,.int .i64 x.v,.int .i64 x.f,.int .i64 x.a,.int .i64 x.l,.int .i64 x.r]
def Nd.V (x:Nd):FM.V:=.agg x.cs
def Md.cs (m:Md):List FM.V:=[.int .i64 m.d,.int .i64 m.c,.int .i64 m.b0,.int .i64 m.b1,.int .i64 m.b2,.list true [.z,.list false [.int .u64]] m.ts]
def Md.V (m:Md):FM.V:=.agg m.cs
def Qy.cs (q:Qy):List FM.V:=[.int .i64 q.k,.int .i64 q.c,.int .i64 q.a0,.int .i64 q.b0,.int .i64 q.a1,.int .i64 q.b1,.int .i64 q.a2,.int .i64 q.b2,.int .i64 q.a3,.int .i64 q.b3,.int .i64 q.a4,.int .i64 q.b4,.int .i64 q.lo,.int .i64 q.hi,.int .i64 q.ft,.bool q.fl,.int .i64 q.bu]
def Vd.cs (v:Vd):List FM.V:=[.int .i64 v.kind,.list true [.bool,.z,.z] v.proof,.int .i64 v.w0,.int .i64 v.w1,.int .i64 v.w2,.int .i64 v.w3,.int .i64 v.twin,.int .i64 v.spent]
def Ak.cs (a:Ak):List FM.V:=[.int .i64 a.k,.int .i64 a.c,.int .i64 a.lo,.int .i64 a.size,.int .i64 a.ft,.int .i64 a.bu,.bool a.fl,.list false [.z] a.sp]
def Ak.V (a:Ak):FM.V:=.agg a.cs
structure Sp where
 lo:Int
 hi:Int
def Sp.cs (s:Sp):List FM.V:=[.int .i64 s.lo,.int .i64 s.hi]
def Sp.V (s:Sp):FM.V:=.agg s.cs
structure Bx where
 s0:Sp
 s1:Sp
 s2:Sp
 s3:Sp
 s4:Sp
def Bx.g (b:Bx):Nat→Sp
 | 0=>b.s0
 | 1=>b.s1
 | 2=>b.s2
 | 3=>b.s3
 | _=>b.s4
def Bx.p (b:Bx) (s:Sp):Nat→Bx
 | 0=>⟨s,b.s1,b.s2,b.s3,b.s4⟩
 | 1=>⟨b.s0,s,b.s2,b.s3,b.s4⟩
 | 2=>⟨b.s0,b.s1,s,b.s3,b.s4⟩
 | 3=>⟨b.s0,b.s1,b.s2,s,b.s4⟩
 | _=>⟨b.s0,b.s1,b.s2,b.s3,s⟩
def Bx.cs (b:Bx):List FM.V:=[.int .i64 b.s0.lo,.int .i64 b.s0.hi,.int .i64 b.s1.lo,.int .i64 b.s1.hi,.int .i64 b.s2.lo,.int .i64 b.s2.hi,.int .i64 b.s3.lo,.int .i64 b.s3.hi,.int .i64 b.s4.lo,.int .i64 b.s4.hi]
def Bx.V (b:Bx):FM.V:=.agg b.cs
structure Pt where
 p0:Int
 p1:Int
 p2:Int
 p3:Int
def Pt.cs (p:Pt):List FM.V:=[.int .i64 p.p0,.int .i64 p.p1,.int .i64 p.p2,.int .i64 p.p3]
def Pt.V (p:Pt):FM.V:=.agg p.cs
def Pt.g (p:Pt):Nat→Int
 | 0=>p.p0
 | 1=>p.p1
 | 2=>p.p2
 | _=>p.p3
def spOf?:List FM.V→Option Sp
 | [.int .i64 a,.int .i64 b]=>some ⟨a,b⟩
 | _=>none
def ptOf?:List FM.V→Option Pt
 | [.int .i64 a,.int .i64 b,.int .i64 c,.int .i64 d]=>some ⟨a,b,c,d⟩
 | _=>none
def bxOf?:List FM.V→Option Bx
 | [.int .i64 a0,.int .i64 b0,.int .i64 a1,.int .i64 b1,.int .i64 a2,.int .i64 b2,.int .i64 a3,.int .i64 b3,.int .i64 a4,.int .i64 b4]=>some ⟨⟨a0,b0⟩,⟨a1,b1⟩,⟨a2,b2⟩,⟨a3,b3⟩,⟨a4,b4⟩⟩
 | _=>none
def mdOf?:List FM.V→Option Md
 | [.int .i64 d,.int .i64 c,.int .i64 b0,.int .i64 b1,.int .i64 b2,.list true [.z,.list false [.int .u64]] ts]=>some ⟨d,c,b0,b1,b2,ts⟩
 | _=>none
def qyOf?:List FM.V→Option Qy
 | [.int .i64 k,.int .i64 c,.int .i64 a0,.int .i64 b0,.int .i64 a1,.int .i64 b1,.int .i64 a2,.int .i64 b2,.int .i64 a3,.int .i64 b3,.int .i64 a4,.int .i64 b4,.int .i64 lo,.int .i64 hi,.int .i64 ft,.bool fl,.int .i64 bu]=>
  some ⟨k,c,a0,b0,a1,b1,a2,b2,a3,b3,a4,b4,lo,hi,ft,fl,bu⟩
 | _=>none
def vdOf?:List FM.V→Option Vd
 | [.int .i64 k,.list true [.bool,.z,.z] p,.int .i64 a,.int .i64 b,.int .i64 c,.int .i64 d,.int .i64 t,.int .i64 s]=>some ⟨k,p,a,b,c,d,t,s⟩
 | _=>none
def RO {α:Type} (of:List FM.V→Option α) (v:FM.V) (k:α→R):R:=
 match v with
 | .agg l=>match of l with | some x=>k x | none=>.no
 | _=>.no
abbrev mJ (v:FM.V) (k:Sp→R):R:=RO spOf? v k
abbrev VB (v:FM.V) (k:Pt→R):R:=RO ptOf? v k
abbrev IB (v:FM.V) (k:Bx→R):R:=RO bxOf? v k
abbrev IC (v:FM.V) (k:Md→R):R:=RO mdOf? v k
abbrev IP (v:FM.V) (k:Qy→R):R:=RO qyOf? v k
abbrev uN (v:FM.V) (k:Vd→R):R:=RO vdOf? v k
theorem VA {α:Type} {of:List FM.V→Option α} {v:FM.V} {k:α→R} {z:FM.V × List (List FM.V)} (h:(RO of v k).get=some z):∃ l x,v = .agg l∧of l=some x∧(k x).get=some z:=by
 unfold RO at h;split at h
 ·rename_i l;split at h
  ·rename_i x hx;exact ⟨l,x,rfl,hx,h⟩
  ·simp [R.get] at h
 ·simp [R.get] at h
theorem uM {v:FM.V} {k:Sp→R} {z:FM.V × List (List FM.V)} (h:(mJ v k).get=some z):∃ x:Sp,v=x.V∧(k x).get=some z:=by
 obtain ⟨l,x,rfl,hx,h⟩:=VA h;unfold spOf? at hx;split at hx
 ·simp only [AC] at hx;subst hx;exact ⟨_,rfl,h⟩
 ·cases hx
theorem X4 {v:FM.V} {k:Pt→R} {z:FM.V × List (List FM.V)} (h:(VB v k).get=some z):∃ x:Pt,v=x.V∧(k x).get=some z:=by
 obtain ⟨l,x,rfl,hx,h⟩:=VA h;unfold ptOf? at hx;split at hx
 ·simp only [AC] at hx;subst hx;exact ⟨_,rfl,h⟩
 ·cases hx
theorem IN {v:FM.V} {k:Bx→R} {z:FM.V × List (List FM.V)} (h:(IB v k).get=some z):∃ x:Bx,v=x.V∧(k x).get=some z:=by
 obtain ⟨l,x,rfl,hx,h⟩:=VA h;unfold bxOf? at hx;split at hx
 ·simp only [AC] at hx;subst hx;exact ⟨_,rfl,h⟩
 ·cases hx
theorem IO {v:FM.V} {k:Md→R} {z:FM.V × List (List FM.V)} (h:(IC v k).get=some z):∃ x:Md,v=x.V∧(k x).get=some z:=by
 obtain ⟨l,x,rfl,hx,h⟩:=VA h;unfold mdOf? at hx;split at hx
 ·simp only [AC] at hx;subst hx;exact ⟨_,rfl,h⟩
 ·cases hx
theorem I0 {v:FM.V} {k:Qy→R} {z:FM.V × List (List FM.V)} (h:(IP v k).get=some z):∃ x:Qy,v=x.V∧(k x).get=some z:=by
 obtain ⟨l,x,rfl,hx,h⟩:=VA h;unfold qyOf? at hx;split at hx
 ·simp only [AC] at hx;subst hx;exact ⟨_,rfl,h⟩
 ·cases hx
theorem Pg {v:FM.V} {k:Vd→R} {z:FM.V × List (List FM.V)} (h:(uN v k).get=some z):∃ x:Vd,v=x.V∧(k x).get=some z:=by
 obtain ⟨l,x,rfl,hx,h⟩:=VA h;unfold vdOf? at hx;split at hx
 ·simp only [AC] at hx;subst hx;exact ⟨_,rfl,h⟩
 ·cases hx
def Sp.emp (s:Sp):Bool:=decide (s.lo > s.hi)
def Sp.has (s:Sp) (n:Int):Bool:=decide (s.lo≤n)&&decide (n≤s.hi)
def MQ (lo hi:Int):Sp:=cond (decide (lo > hi)) ⟨1,0⟩ ⟨lo,hi⟩
def Sp.cutL (s:Sp) (a:Int):Sp:=MQ s.lo (min s.hi a)
def Sp.cutH (s:Sp) (a:Int):Sp:=cond (decide (a≥s.hi)) ⟨1,0⟩ (MQ (max s.lo (FD (a+1))) s.hi)
def WB:DR
 | []=>.ok (.agg [.int .i64 1,.int .i64 0]) []
 | _=>.no
def dC:DR
 | [.int .i64 lo,.int .i64 hi]=>.ok (MQ lo hi).V []
 | _=>.no
def V9:DR
 | [s]=>mJ s fun s=>.ok (.bool (s.emp)) []
 | _=>.no
def WA:DR
 | [s,.int .i64 n]=>mJ s fun s=>.ok (.bool (s.has n)) []
 | _=>.no
def iC:DR
 | [s,.int .i64 n]=>mJ s fun s=>.ok (.tup [(s.cutL n).V,(s.cutH n).V]) []
 | _=>.no
def Bx.I (b:Bx):IV:=.agg [.int b.s0.lo,.int b.s0.hi,.int b.s1.lo,.int b.s1.hi,.int b.s2.lo,.int b.s2.hi,.int b.s3.lo,.int b.s3.hi,.int b.s4.lo,.int b.s4.hi]
abbrev cI (x:IV) (j:Nat):Int:=(x.cell j).toInt
def DY (x:IV):Bx:=⟨⟨cI x 0,cI x 1⟩,⟨cI x 2,cI x 3⟩,⟨cI x 4,cI x 5⟩,⟨cI x 6,cI x 7⟩,⟨cI x 8,cI x 9⟩⟩
abbrev EA:List Kd:=[.z,.z,.z,.z,.z,.z,.z,.z,.z,.z]
def Bx.emp (b:Bx):Bool:=b.s0.emp||(b.s1.emp||(b.s2.emp||(b.s3.emp||b.s4.emp)))
def YN:Bx:=⟨⟨0,0⟩,⟨0,0⟩,⟨0,0⟩,⟨0,0⟩,⟨0,0⟩⟩
def GZ (i:Int):Bool:=decide (0≤i)&&decide (i < 5)
def Bx.cutL (b:Bx) (i a:Int):Bx:=b.p ((b.g i.toNat).cutL a) i.toNat
def Bx.cutH (b:Bx) (i a:Int):Bx:=b.p ((b.g i.toNat).cutH a) i.toNat
def Pt.p (p:Pt) (x:Int):Nat→Pt
 | 0=>⟨x,p.p1,p.p2,p.p3⟩
 | 1=>⟨p.p0,x,p.p2,p.p3⟩
 | 2=>⟨p.p0,p.p1,x,p.p3⟩
 | _=>⟨p.p0,p.p1,p.p2,x⟩
def Bx.low (b:Bx):Pt:=⟨b.s0.lo,b.s1.lo,b.s2.lo,b.s3.lo⟩
def Bx.has (b:Bx) (p:Pt) (t:Int):Bool:=b.s0.has p.p0&&(b.s1.has p.p1&&(b.s2.has p.p2&&(b.s3.has p.p3&&b.s4.has t)))
def KV:DR
 | [b]=>IB b fun b=>.ok (.bool (b.emp)) []
 | _=>.no
def VZ:DR
 | [b]=>IB b fun b=>.ok b.low.V []
 | _=>.no
def a8:DR
 | [b,p,.int .i64 t]=>IB b fun b=>VB p fun p=>.ok (.bool (b.has p t)) []
 | _=>.no
def NO:DR
 | [b,.int .i64 i,.int .i64 a]=>IB b fun b=>.br (GZ i) (.ok (.tup [(b.cutL i a).V,(b.cutH i a).V]) []) .no
 | _=>.no
def IF (l:LI) (p:Pt):Nat→Int→Int × Nd
 | 0,_=>(-1,Nd.zero)
 | n+1,a=>
  cond (decide (a≥ic l.length)) (-1,Nd.zero)
   (cond (!(F6 (l.getD a.toNat default).toInt)) (-1,Nd.zero)
    (cond (DH (l.getD a.toNat default).toInt).lf (a,DH (l.getD a.toNat default).toInt)
     (cond (decide (p.g (DH (l.getD a.toNat default).toInt).f.toNat≤(DH (l.getD a.toNat default).toInt).a)) (IF l p n (DH (l.getD a.toNat default).toInt).l) (IF l p n (DH (l.getD a.toNat default).toInt).r))))
def Wx (l:LI) (p:Pt):Int:=(IF l p 31 0).1
def jI (l:LI) (p:Pt):Nd:=(IF l p 31 0).2
def dG:DR
 | [.list false [.int .u64] l,p]=>VB p fun p=>.ok (.tup [.int .i64 (Wx l p),(jI l p).V]) []
 | _=>.no
def G1 (l:LI) (p:Pt):Int:=(jI l p).v
def dF:DR
 | [.list false [.int .u64] l,p]=>VB p fun p=>.ok (.int .i64 (G1 l p)) []
 | _=>.no
def LD (m:Md) (c:Int):Int:=cond (c==0) m.b0 (cond (c==1) m.b1 m.b2)
abbrev U0 (t:IV):Int:=cI t 0
abbrev E5 (t:IV):LI:=(t.cell 1).toList
def PW (c:Int) (p:Pt):LI→Int→Int
 | [],s=>s
 | t :: r,s=>PW c p r (cond (U0 t==c) (s+G1 (E5 t) p) s)
def HX (m:Md) (c:Int):Bool:=decide (0≤c)&&decide (c < m.c)
def cL:DR
 | [m,.int .i64 k,p]=>IC m fun m=>VB p fun p=>.br (EP m&&HX m k) (.ok (.int .i64 (PW k p m.ts (LD m k))) []) .no
 | _=>.no
def EN (m:Md) (k:Int) (p:Pt):Int:=cond (EP m&&HX m k) (PW k p m.ts (LD m k)) 0
def cJ:DR
 | [m,.int .i64 k,p]=>IC m fun m=>VB p fun p=>.ok (.int .i64 (EN m k p)) []
 | _=>.no
def W0 (x:Int):List Int→List Int
 | []=>[x]
 | y :: r=>cond (decide (x≤y)) (x :: y :: r) (y :: W0 x r)
def KO:List Int→List Int
 | []=>[]
 | x :: r=>W0 x (KO r)
def JX:Int→List Int→List Int
 | _,[]=>[]
 | p,x :: r=>cond (x==p) (JX x r) (x :: JX x r)
def I2:List Int→List Int
 | []=>[]
 | x :: r=>x :: JX x r
def IX (f:Int) (w:IV):List Int:=cond (!(DH w.toInt).lf&&(DH w.toInt).f==f) [(DH w.toInt).a] []
def IA (ts:LI) (f:Int):List Int:=ts.flatMap fun t=>(E5 t).flatMap (IX f)
def I7 (ts:LI) (f:Int):List Int:=I2 (KO (IA ts f))
def iZ (l:List Int):LI:=l.map IV.int
def cK:DR
 | [m,.int .i64 f]=>IC m fun m=>.br (EP m) (.ok (.vec 3 false [.z] (iZ (I7 m.ts f))) []) .no
 | _=>.no
def jY:Ip:=⟨3,false,fun rs l=>match rs with
 | []=>some (iZ (KO (l.map IV.toInt)))
 | _=>none⟩
def jW:Ip:=⟨3,true,fun rs l=>match rs with
 | []=>some (iZ (I2 (l.map IV.toInt)))
 | _=>none⟩
def KY (a b:Int) (l:List Int):List Int:=l.filter fun t=>!(decide (t < a)||decide (t≥b))
def jX:Ip:=⟨3,true,fun rs l=>match rs with
 | [.clo f [.bor [.int .i64 a,.int .i64 b]]]=>cond (BO f 152) (some (iZ (KY a b (l.map IV.toInt)))) none
 | _=>none⟩
def Qy.bx (q:Qy):Bx:=⟨⟨q.a0,q.b0⟩,⟨q.a1,q.b1⟩,⟨q.a2,q.b2⟩,⟨q.a3,q.b3⟩,⟨q.a4,q.b4⟩⟩
def KR (d i:Int) (s:Sp):Bool:=!(decide (i≥d)&&!((s.lo==0)&&(s.hi==0)))&&(!s.emp&&(EZ s.lo&&EZ s.hi))
def P0 (b:Bx) (d:Int):Bool:=KR d 0 b.s0&&(KR d 1 b.s1&&(KR d 2 b.s2&&(KR d 3 b.s3&&KR d 4 b.s4)))
def cV:DR
 | [b,.int .i64 d]=>IB b fun b=>.ok (.bool (P0 b d)) []
 | _=>.no
def Q3 (m:Md) (q:Qy):Bool:=
 cond (q.k==1) (decide (q.lo≤q.hi)&&((q.ft==0)&&!q.fl))
  (cond (q.k==2) (decide (m.c≥2)&&((q.lo==0)&&((q.hi==0)&&((q.ft==0)&&!q.fl))))
   (cond (q.k==3) (decide (q.ft≥0)&&(decide (q.ft < m.d)&&((q.lo==0)&&(q.hi==0)))) false))
def FH (m:Md) (q:Qy):Bool:=EP m&&(decide (q.c≥0)&&(decide (q.c < m.c)&&(decide (q.bu≥0)&&(decide (q.bu≤65536)&&(P0 q.bx m.d&&Q3 m q)))))
def G0 (q:Qy):Bool:=(q.k==3)&&(decide (q.ft≥0)&&decide (q.ft < 4))
def EV (q:Qy):Bx:=q.bx.p (cond (G0 q) (q.bx.g q.ft.toNat) ⟨0,0⟩) 4
def I6 (q:Qy) (p:Pt) (t:Int):Pt:=cond (G0 q) (p.p t q.ft.toNat) p
def XJ (m:Md) (q:Qy) (p:Pt) (own:Int):Bool:=(vaE m.c.toNat).any fun c=>!((c:Int)==q.c)&&decide (EN m (c:Int) p≥own)
def GJ (m:Md) (q:Qy) (p:Pt) (t:Int):Bool:=
 FH m q &&
  cond (q.k==1) (!(Sp.has ⟨q.lo,q.hi⟩ (EN m q.c p)))
   (cond (q.k==2) (XJ m q p (EN m q.c p))
    (cond (decide (p.g q.ft.toNat≥t)) false
     (cond q.fl (decide (EN m q.c (I6 q p t) > EN m q.c p)) (decide (EN m q.c (I6 q p t) < EN m q.c p)))))
def OX (n:Nd) (i:Nat) (own:LI):LI:=
 cond n.lf own ((own.set n.l.toNat ((DY (own.getD i default)).cutL n.f n.a).I).set n.r.toNat ((DY (own.getD i default)).cutH n.f n.a).I)
def fP (b:Bx) (v:Int):IV:=.agg [.int b.s0.lo,.int b.s0.hi,.int b.s1.lo,.int b.s1.hi,.int b.s2.lo,.int b.s2.hi,.int b.s3.lo,.int b.s3.hi,.int b.s4.lo,.int b.s4.hi,.int v]
abbrev HC (x:IV):Int:=cI x 10
abbrev MG:List Kd:=[.z,.z,.z,.z,.z,.z,.z,.z,.z,.z,.z]
def N4:LI→Nat→LI→LI→LI
 | [],_,_,out=>out
 | w :: r,i,own,out=>N4 r (i+1) (OX (DH w.toInt) i own) (cond ((DH w.toInt).lf&&!(DY (own.getD i default)).emp) (out++[fP (DY (own.getD i default)) (DH w.toInt).v]) out)
def II (l:LI) (b:Bx):LI:=cond (GK l 4&&!b.emp) (N4 l 0 ((BN l.length YN.I).set 0 b.I) []) []
def cH:DR
 | [.list false [.int .u64] l,b]=>IB b fun b=>.ok (.list true MG (II l b)) []
 | _=>.no
def OZ:LI→Int→Int
 | [],a=>a
 | x :: r,a=>OZ r (min a (HC x))
def OY:LI→Int→Int
 | [],a=>a
 | x :: r,a=>OY r (max a (HC x))
def fS (ps:LI):Int:=OZ ps (HC (ps.getD 0 default))
def fR (ps:LI):Int:=OY ps (HC (ps.getD 0 default))
def XU (l:LI) (b:Bx):Bool:=!((II l b).isEmpty)
def HV (l:LI) (b:Bx):Int:=cond (XU l b) (fS (II l b)) 0
def HU (l:LI) (b:Bx):Int:=cond (XU l b) (fR (II l b)) 0
def aZ:DR
 | [.list false [.int .u64] l,b]=>IB b fun b=>.ok (.tup [.int .i64 (HV l b),.int .i64 (HU l b),.bool (XU l b)]) []
 | _=>.no
def IW (h:LI→Int) (c:Int):LI→Int→Int
 | [],s=>s
 | t :: r,s=>IW h c r (cond (U0 t==c) (s+h (E5 t)) s)
def GP (m:Md) (c:Int) (b:Bx):Bool:=EP m&&(HX m c&&!b.emp)
def D5 (m:Md) (c:Int) (b:Bx):Int:=cond (GP m c b) (IW (fun l=>HV l b) c m.ts (LD m c)) 0
def D3 (m:Md) (c:Int) (b:Bx):Int:=cond (GP m c b) (IW (fun l=>HU l b) c m.ts (LD m c)) 0
def RY:DR
 | [m,.int .i64 k,b]=>IC m fun m=>IB b fun b=>.ok (.tup [.int .i64 (D5 m k b),.int .i64 (D3 m k b),.bool (GP m k b)]) []
 | _=>.no
def Q9 (m:Md) (c lo:Int) (b:Bx):Nat→Int→Int→Bool→Int
 | 0,_,a,_=>a
 | n+1,i,a,z=>cond (i==c) (Q9 m c lo b n (i+1) a z)
  (cond (!z||decide (lo - D3 m i b < a)) (Q9 m c lo b n (i+1) (lo - D3 m i b) true) (Q9 m c lo b n (i+1) a z))
def MI (m:Md) (c:Int) (b:Bx):Bool:=GP m c b&&decide (m.c≥2)
def SS (m:Md) (c:Int) (b:Bx):Int:=cond (MI m c b) (Q9 m c (D5 m c b) b m.c.toNat 0 0 false) 0
def aY:DR
 | [m,.int .i64 k,b]=>IC m fun m=>IB b fun b=>.ok (.tup [.int .i64 (SS m k b),.bool (MI m k b)]) []
 | _=>.no
def JP (q:Qy) (b:Bx):Bx:=cond (G0 q) (b.p ⟨0,0⟩ 4) b
def JR (q:Qy) (b:Bx):Bx:=cond (G0 q) ((b.p b.s4 q.ft.toNat).p ⟨0,0⟩ 4) b
def NA (q:Qy) (b:Bx):Bool:=G0 q&&(!b.emp&&decide ((b.g q.ft.toNat).lo < b.s4.hi))
def JW (m:Md) (q:Qy) (b:Bx):Bool:=G0 q&&(GP m q.c (JP q b)&&GP m q.c (JR q b))
def PN (m:Md) (q:Qy) (b:Bx):Int:=cond (JW m q b) (D5 m q.c (JR q b) - D3 m q.c (JP q b)) 0
def PM (m:Md) (q:Qy) (b:Bx):Int:=cond (JW m q b) (D3 m q.c (JR q b) - D5 m q.c (JP q b)) 0
def HG (m:Md) (q:Qy) (b:Bx):Bool:=
 FH m q &&
  cond b.emp true
   (cond (q.k==1) (GP m q.c b&&(decide (q.lo≤D5 m q.c b)&&decide (D3 m q.c b≤q.hi)))
    (cond (q.k==2) (MI m q.c b&&decide (SS m q.c b > 0))
     (cond (!(NA q b)) true
      (cond q.fl (JW m q b&&decide (PM m q b≤0)) (JW m q b&&decide (PN m q b≥0))))))
def H6 (q:Qy) (i:Int):Int:=cond (decide (i≥0)&&decide (i < 4)) i (cond ((i==4)&&(q.k==3)) q.ft (-1))
def E2 (m:Md) (q:Qy) (b:Bx) (i:Nat):List Int:=
 cond (decide (H6 q (i:Int) < 0)) [] (KY (b.g i).lo (b.g i).hi (I7 m.ts (H6 q (i:Int))))
def RM (m:Md) (q:Qy) (b:Bx):Nat→Nat→Option (Int × Int)
 | 0,_=>none
 | n+1,i=>cond (decide ((E2 m q b i).length > 0)) (some ((i:Int),(E2 m q b i).getD (((E2 m q b i).length - 1) / 2) 0)) (RM m q b n (i+1))
def FX (m:Md) (q:Qy) (b:Bx):Option (Int × Int):=RM m q b 5 0
def cU:DR
 | [m,q]=>IC m fun m=>IP q fun q=>.ok (.bool (Q3 m q)) []
 | _=>.no
def L8:DR
 | [m,q]=>IC m fun m=>IP q fun q=>.ok (.bool (FH m q)) []
 | _=>.no
def V7:DR
 | [q]=>IP q fun q=>.ok (.bool (G0 q)) []
 | _=>.no
def PJ:DR
 | [q]=>IP q fun q=>.ok (.bool (G0 q)) []
 | _=>.no
def PK:DR
 | [q]=>IP q fun q=>.ok (EV q).V []
 | _=>.no
def cT:DR
 | [q,p,.int .i64 t]=>IP q fun q=>VB p fun p=>.ok (I6 q p t).V []
 | _=>.no
def R6:DR
 | [m,q,p,.int .i64 t]=>IC m fun m=>IP q fun q=>VB p fun p=>.ok (.bool (GJ m q p t)) []
 | _=>.no
def bS:DR
 | [q,b]=>IP q fun q=>IB b fun b=>.ok (JP q b).V []
 | _=>.no
def bU:DR
 | [q,b]=>IP q fun q=>IB b fun b=>.ok (JR q b).V []
 | _=>.no
def bT:DR
 | [q,b]=>IP q fun q=>IB b fun b=>.ok (.bool (NA q b)) []
 | _=>.no
def bR:DR
 | [m,q,b]=>IC m fun m=>IP q fun q=>IB b fun b=>.ok (.tup [.int .i64 (PN m q b),.int .i64 (PM m q b),.bool (JW m q b)]) []
 | _=>.no
def bY:DR
 | [m,q,b]=>IC m fun m=>IP q fun q=>IB b fun b=>.ok (.bool (HG m q b)) []
 | _=>.no
def bZ:DR
 | [b]=>IB b fun b=>.ok (.tup [b.low.V,.int .i64 b.s4.hi]) []
 | _=>.no
def cE:DR
 | [q,.int .i64 i]=>IP q fun q=>.ok (.int .i64 (H6 q i)) []
 | _=>.no
def R5:DR
 | [m,q,b,.int .i64 i]=>IC m fun m=>IP q fun q=>IB b fun b=>.br (EP m&&GZ i) (.ok (.list false [.z] (iZ (E2 m q b i.toNat))) []) .no
 | _=>.no
def KQ (o:Option (Int × Int)):Int:=match o with | none=>0 | some (i,_)=>i
def P8 (o:Option (Int × Int)):Int:=match o with | none=>0 | some (_,a)=>a
def cA:DR
 | [m,q,b]=>IC m fun m=>IP q fun q=>IB b fun b=>.br (EP m) (.ok (.tup [.int .i64 (KQ (FX m q b)),.int .i64 (P8 (FX m q b)),.bool (FX m q b).isSome]) []) .no
 | _=>.no
structure Sr where
 left:LI
 proof:LI
 v:Vd
 spent:Int
def Z0 (s:Bool) (p a:Int):IV:=.agg [.bool s,.int p,.int a]
def EB (l:LI):Bx:=DY (l.getD (l.length - 1) default)
def GE (l:LI):LI:=l.take (l.length - 1)
def KS (m:Md) (q:Qy) (s:Sr):Sr:=
 cond (HG m q (EB s.left)) ⟨GE s.left,s.proof++[Z0 true 0 0],cond (ic (s.left.length - 1)==0) ⟨1,s.proof++[Z0 true 0 0],0,0,0,0,0,0⟩ s.v,s.spent+1⟩
  (cond (GJ m q (EB s.left).low (EB s.left).s4.hi) ⟨GE s.left,s.proof,⟨2,[],(EB s.left).s0.lo,(EB s.left).s1.lo,(EB s.left).s2.lo,(EB s.left).s3.lo,(EB s.left).s4.hi,0⟩,s.spent+1⟩
   (cond (FX m q (EB s.left)).isSome
    ⟨GE s.left++[((EB s.left).cutH (KQ (FX m q (EB s.left))) (P8 (FX m q (EB s.left)))).I,((EB s.left).cutL (KQ (FX m q (EB s.left))) (P8 (FX m q (EB s.left)))).I],
     s.proof++[Z0 false (KQ (FX m q (EB s.left))) (P8 (FX m q (EB s.left)))],s.v,s.spent+1⟩
    ⟨GE s.left,s.proof,⟨3,[],0,0,0,0,0,0⟩,s.spent+1⟩))
def N7 (q:Qy) (s:Sr):Bool:=!(s.v.kind==0)||decide (s.spent≥q.bu)
def XQ (m:Md) (q:Qy):Nat→Sr→Sr
 | 0,s=>s
 | n+1,s=>cond (N7 q s) s (XQ m q n (KS m q s))
def Ez (m:Md) (q:Qy):Sr:=cond (FH m q) ⟨[(EV q).I],[],Vd.none,0⟩ ⟨[],[],⟨4,[],0,0,0,0,0,0⟩,0⟩
def U2 (s:Sr):Vd:=⟨cond (s.v.kind==0) 3 s.v.kind,s.v.proof,s.v.w0,s.v.w1,s.v.w2,s.v.w3,s.v.twin,s.spent⟩
def P4 (m:Md) (q:Qy):Vd:=U2 (XQ m q (q.bu.toNat+1) (Ez m q))
def FV (m:Md) (q:Qy) (r:List FM.V):List FM.V:=m.cs++(q.cs++r)
def seOf? (l:List FM.V):Option (Md × Qy × List FM.V):=
 match mdOf? (l.take 6),qyOf? ((l.drop 6).take 17) with
 | some m,some q=>some (m,q,(l.drop 6).drop 17)
 | _,_=>none
abbrev pQ (l:LI):FM.V:=.vec 37 true EA l
abbrev zcF (l:LI):FM.V:=.vec 101 true D8 l
abbrev jO (l:LI):FM.V:=.list true D8 l
def Z6 (v:Vd) (vp:FM.V) (sp:Int):List FM.V:=[.int .i64 v.kind,vp,.int .i64 v.w0,.int .i64 v.w1,.int .i64 v.w2,.int .i64 v.w3,.int .i64 v.twin,.int .i64 v.spent,.int .i64 sp]
def PA (t:Nat) (m:Md) (q:Qy) (s:Sr):List FM.V:=
 FV m q (match t with
  | 0=>pQ s.left :: zcF s.proof :: Z6 s.v .zs s.spent
  | 1=>pQ s.left :: .zs :: Z6 s.v .zs s.spent
  | 2=>pQ s.left :: jO s.proof :: Z6 s.v (jO s.v.proof) s.spent
  | _=>.zs :: .zs :: Z6 s.v .zs s.spent)
def srT?:List FM.V→Option (Nat × Sr)
 | [.vec 37 true [.z,.z,.z,.z,.z,.z,.z,.z,.z,.z] l,.vec 101 true [.bool,.z,.z] p,.int .i64 k,.zs,.int .i64 a,.int .i64 b,.int .i64 c,.int .i64 d,.int .i64 t,.int .i64 vs,.int .i64 sp]=>some (0,⟨l,p,⟨k,[],a,b,c,d,t,vs⟩,sp⟩)
 | [.vec 37 true [.z,.z,.z,.z,.z,.z,.z,.z,.z,.z] l,.zs,.int .i64 k,.zs,.int .i64 a,.int .i64 b,.int .i64 c,.int .i64 d,.int .i64 t,.int .i64 vs,.int .i64 sp]=>some (1,⟨l,[],⟨k,[],a,b,c,d,t,vs⟩,sp⟩)
 | [.vec 37 true [.z,.z,.z,.z,.z,.z,.z,.z,.z,.z] l,.list true [.bool,.z,.z] p,.int .i64 k,.list true [.bool,.z,.z] vp,.int .i64 a,.int .i64 b,.int .i64 c,.int .i64 d,.int .i64 t,.int .i64 vs,.int .i64 sp]=>some (2,⟨l,p,⟨k,vp,a,b,c,d,t,vs⟩,sp⟩)
 | [.zs,.zs,.int .i64 k,.zs,.int .i64 a,.int .i64 b,.int .i64 c,.int .i64 d,.int .i64 t,.int .i64 vs,.int .i64 sp]=>some (3,⟨[],[],⟨k,[],a,b,c,d,t,vs⟩,sp⟩)
 | _=>none
def mK (v:FM.V) (k:Nat→Md→Qy→Sr→R):R:=
 match v with
 | .bor l=>match seOf? l with
  | some (m,q,r)=>match srT? r with
   | some (t,s)=>k t m q s
   | none=>.no
  | none=>.no
 | _=>.no
def lZ (m:Md) (q:Qy) (t:Nat) (s:Sr):Nat:=
 cond (HG m q (EB s.left)) (cond (ic (s.left.length - 1)==0) 2 0)
  (cond (GJ m q (EB s.left).low (EB s.left).s4.hi) t (cond (FX m q (EB s.left)).isSome 0 t))
def cW:DR
 | [m,q]=>IC m fun m=>IP q fun q=>.br (FH m q) (.ok (.bor (PA 1 m q ⟨[(EV q).I],[],Vd.none,0⟩)) []) (.ok (.bor (PA 3 m q ⟨[],[],⟨4,[],0,0,0,0,0,0⟩,0⟩)) [])
 | _=>.no
def cX:DR
 | [x]=>mK x fun t m q s=>
  .br (N7 q s) (.ok (.bool false) [PA t m q s])
   (.br (B6 t 1&&(FH m q&&(decide (0≤s.spent)&&(BK 0 s.left.length&&(B6 s.left.length 100000&&B6 s.proof.length 100000)))))
    (.br (HG m q (EB s.left)) (.br (ic (s.left.length - 1)==0) (.ok (.bool true) [PA 2 m q (KS m q s)]) (.ok (.bool true) [PA 0 m q (KS m q s)]))
     (.br (GJ m q (EB s.left).low (EB s.left).s4.hi) (.ok (.bool true) [PA t m q (KS m q s)])
      (.br (FX m q (EB s.left)).isSome (.ok (.bool true) [PA 0 m q (KS m q s)]) (.ok (.bool true) [PA t m q (KS m q s)])))) .no)
 | _=>.no
def cY:DR
 | [x]=>mK x fun t m q s=>.br (B6 s.v.proof.length 100000) (.ok (U2 s).V [PA t m q s]) .no
 | _=>.no
def V8:DR
 | [m,q]=>IC m fun m=>IP q fun q=>.ok (P4 m q).V []
 | _=>.no
def iA:DR
 | [.list true [.bool,.z,.z] l]=>.br (B6 l.length 100000) (.ok (.vec 101 true D8 l) []) .no
 | _=>.no
open Go Go.Proofs
def Se (N:Nat):Env:=D0 [] [] 2 N
theorem zeV (N:Nat):DV (Se N) yR [.cell 0 35] [[.z,.z]] []=(some ((.agg [.i 1,.i 0]),[])):=by kernel_rfl
def Sf (N:Nat):Env:=D0 [(220,WB)] [] 12 N
theorem zeW (N:Nat) (lo hi:Int):DV (Sf N) yS [.cell 4 35] [[.z,.z]] [.i lo,.i hi]=(cond (decide (lo > hi)) (some ((.agg [.i 1,.i 0]),[])) (some ((.agg [.i lo,.i hi]),[]))):=by kernel_rfl
def Sc (N:Nat):Env:=D0 [] [] 8 N
theorem zeT (N:Nat) (s:Sp):DV (Sc N) yP [.tmp 2] [[.bool]] [(Sp.V s)]=(some ((.bool (decide (Sp.lo s > Sp.hi s))),[])):=by kernel_rfl
def Sd (N:Nat):Env:=D0 [] [] 15 N
theorem zeU (N:Nat) (s:Sp) (n:Int):DV (Sd N) yQ [.tmp 4] [[.bool]] [(Sp.V s),.i n]=(cond (decide (Sp.lo s≤n)) (some ((.bool (decide (n≤Sp.hi s))),[])) (some ((.bool false),[]))):=by kernel_rfl
def Sb (N:Nat):Env:=D0 [(220,WB),(219,dC)] [] 29 N
theorem zeS (N:Nat) (s:Sp) (atv:Int):DV (Sb N) yO [.cell 4 35,.cell 5 35] [[.z,.z],[.z,.z]] [(Sp.V s),.i atv]=(cond (decide (atv≥Sp.hi s)) (some ((.tup [(Sp.V (MQ (Sp.lo s) (min (Sp.hi s) atv))),.agg [.i 1,.i 0]]),[])) (some ((.tup [(Sp.V (MQ (Sp.lo s) (min (Sp.hi s) atv))),(Sp.V (MQ (max (Sp.lo s) (AA AB (atv+1))) (Sp.hi s)))]),[]))):=by kernel_rfl
def KB (N:Nat):Env:=D0 [(51,L7)] [(3,⟨[0,3,4,5,6,9],[3,5],[]⟩)] 46 N
abbrev L5 (p:Pt) (l0:LI) (x4 x6 x9:Int) (u00:Bool) (u01 u02 u03 u04 u05:Int):St:=⟨[(0,(.list false [.int .u64] l0)),(3,(.ptr 3 0 0)),(4,(.i x4)),(5,(.ptr 5 0 0)),(6,(.i x6)),(9,(.i x9))],[(3,(some (.box (Pt.cs p)))),(5,(some (.box [.bool u00,.i u01,.i u02,.i u03,.i u04,.i u05])))]⟩
theorem ze8 (N:Nat) (l:LI) (p:Pt):DV (KB N) NV [.tmp 4,.cell 5 108] [[.z],[.bool,.z,.z,.z,.z,.z]] [.list false [.int .u64] l,(Pt.V p)]=(DT (KB N) (DF NV [1,1,0,1,0,0]) ⟨[0,3,4,5,6,9],[3,5],[]⟩ N (L5 p l 0 0 0 false 0 0 0 0 0) (DM 0 (DN (KB N) (DF NV [1,1,1]) (DP (KB N) none [.tmp 4,.cell 5 108] [[.z],[.bool,.z,.z,.z,.z,.z]])))):=by kernel_rfl
theorem Ni (N:Nat) (p:Pt) (l0:LI) (x4 x6 x9:Int) (u00:Bool) (u01 u02 u03 u04 u05:Int) (again:St→DJ) (k:Out→St→DJ):EX (KB N) (DF NV [1,1,0,1,0,0]) (L5 p l0 x4 x6 x9 u00 u01 u02 u03 u04 u05) (ED again ⟨[0,3,4,5,6,9],[3,5],[]⟩ k)=(cond (decide (x9 < 31)) (cond (decide (x6≥ic (AF l0))) (k (.exit 0) (L5 p l0 x4 x6 x9 u00 u01 u02 u03 u04 u05)) (cond (decide (0≤x6)&&decide (x6 < ic (AF l0))) (cond (!F6 (IV.toInt (AH l0 (AD x6) default))) (k .ret (L5 p l0 (-1) x6 x9 false 0 0 0 0 0)) (cond (Nd.lf (DH (IV.toInt (AH l0 (AD x6) default)))) (k .ret ⟨[(0,(.list false [.int .u64] l0)),(3,(.ptr 3 0 0)),(4,(.i x6)),(5,(.ptr 5 0 0)),(6,(.i x6)),(9,(.i x9))],[(3,(some (.box (Pt.cs p)))),(5,(some (.box (Nd.cs (DH (IV.toInt (AH l0 (AD x6) default)))))))]⟩) (cond (decide (Nd.f (DH (IV.toInt (AH l0 (AD x6) default)))=ic 0)) (cond (decide (Pt.p0 p≤Nd.a (DH (IV.toInt (AH l0 (AD x6) default))))) (again (L5 p l0 x4 (Nd.l (DH (IV.toInt (AH l0 (AD x6) default)))) (AA AB (x9+1)) u00 u01 u02 u03 u04 u05)) (again (L5 p l0 x4 (Nd.r (DH (IV.toInt (AH l0 (AD x6) default)))) (AA AB (x9+1)) u00 u01 u02 u03 u04 u05))) (cond (decide (Nd.f (DH (IV.toInt (AH l0 (AD x6) default)))=ic 1)) (cond (decide (Pt.p1 p≤Nd.a (DH (IV.toInt (AH l0 (AD x6) default))))) (again (L5 p l0 x4 (Nd.l (DH (IV.toInt (AH l0 (AD x6) default)))) (AA AB (x9+1)) u00 u01 u02 u03 u04 u05)) (again (L5 p l0 x4 (Nd.r (DH (IV.toInt (AH l0 (AD x6) default)))) (AA AB (x9+1)) u00 u01 u02 u03 u04 u05))) (cond (decide (Nd.f (DH (IV.toInt (AH l0 (AD x6) default)))=ic 2)) (cond (decide (Pt.p2 p≤Nd.a (DH (IV.toInt (AH l0 (AD x6) default))))) (again (L5 p l0 x4 (Nd.l (DH (IV.toInt (AH l0 (AD x6) default)))) (AA AB (x9+1)) u00 u01 u02 u03 u04 u05)) (again (L5 p l0 x4 (Nd.r (DH (IV.toInt (AH l0 (AD x6) default)))) (AA AB (x9+1)) u00 u01 u02 u03 u04 u05))) (cond (decide (Nd.f (DH (IV.toInt (AH l0 (AD x6) default)))=ic 3)) (cond (decide (Pt.p3 p≤Nd.a (DH (IV.toInt (AH l0 (AD x6) default))))) (again (L5 p l0 x4 (Nd.l (DH (IV.toInt (AH l0 (AD x6) default)))) (AA AB (x9+1)) u00 u01 u02 u03 u04 u05)) (again (L5 p l0 x4 (Nd.r (DH (IV.toInt (AH l0 (AD x6) default)))) (AA AB (x9+1)) u00 u01 u02 u03 u04 u05))) none)))))) none)) (k (.exit 0) (L5 p l0 x4 x6 x9 u00 u01 u02 u03 u04 u05))):=by kernel_rfl
theorem Be (N:Nat) (p:Pt) (l0:LI) (x4 x6 x9:Int) (u00:Bool) (u01 u02 u03 u04 u05:Int):(DM 0 (DN (KB N) (DF NV [1,1,1]) (DP (KB N) none [.tmp 4,.cell 5 108] [[.z],[.bool,.z,.z,.z,.z,.z]]))) (.exit 0) (L5 p l0 x4 x6 x9 u00 u01 u02 u03 u04 u05)=(some ((.tup [.i (-1),.agg [.bool false,.i 0,.i 0,.i 0,.i 0,.i 0]]),[])):=by kernel_rfl
theorem Zp (N:Nat) (p:Pt) (l0:LI) (x4 x6 x9:Int) (u00:Bool) (u01 u02 u03 u04 u05:Int):(DM 0 (DN (KB N) (DF NV [1,1,1]) (DP (KB N) none [.tmp 4,.cell 5 108] [[.z],[.bool,.z,.z,.z,.z,.z]]))) .ret (L5 p l0 x4 x6 x9 u00 u01 u02 u03 u04 u05)=(some ((.tup [.i x4,.agg [.bool u00,.i u01,.i u02,.i u03,.i u04,.i u05]]),[])):=by kernel_rfl
def Sn (N:Nat):Env:=D0 [(248,dG)] [] 15 N
theorem ze7 (N:Nat) (l:LI) (p:Pt):DV (Sn N) y0 [.tmp 4] [[.z]] [.list false [.int .u64] l,(Pt.V p)]=(some ((.i (Nd.v (jI l p))),[])):=by kernel_rfl
def LA (N:Nat):Env:=D0 [(221,dF)] [(3,⟨[1,5,6,7,15,16,17],[5],[]⟩)] 33 N
abbrev TG (p:Pt) (x1 x6 x7:Int) (l15:LI) (x16 x17:Int):St:=⟨[(1,(.i x1)),(5,(.ptr 5 0 0)),(6,(.i x6)),(7,(.i x7)),(15,(.list true LN l15)),(16,(.i x16)),(17,(.i x17))],[(5,(some (.box (Pt.cs p))))]⟩
theorem zep (N:Nat) (m:Md) (u00:Int) (p:Pt):DV (LA N) OQ [.tmp 6] [[.z]] [(Md.V m),.i u00,(Pt.V p)]=(cond (decide (u00=ic 0)) (DT (LA N) (DF OQ [1,1,0,1,0,0]) ⟨[1,5,6,7,15,16,17],[5],[]⟩ N (TG p u00 0 (Md.b0 m) (Md.ts m) (ic (AF (Md.ts m))) 0) (DM 0 (DN (LA N) (DF OQ [1,1,1]) (DP (LA N) none [.tmp 6] [[.z]])))) (cond (decide (u00=ic 1)) (DT (LA N) (DF OQ [1,1,0,1,0,0]) ⟨[1,5,6,7,15,16,17],[5],[]⟩ N (TG p u00 0 (Md.b1 m) (Md.ts m) (ic (AF (Md.ts m))) 0) (DM 0 (DN (LA N) (DF OQ [1,1,1]) (DP (LA N) none [.tmp 6] [[.z]])))) (cond (decide (u00=ic 2)) (DT (LA N) (DF OQ [1,1,0,1,0,0]) ⟨[1,5,6,7,15,16,17],[5],[]⟩ N (TG p u00 0 (Md.b2 m) (Md.ts m) (ic (AF (Md.ts m))) 0) (DM 0 (DN (LA N) (DF OQ [1,1,1]) (DP (LA N) none [.tmp 6] [[.z]])))) none))):=by kernel_rfl
theorem Mu (N:Nat) (p:Pt) (x1 x6 x7:Int) (l15:LI) (x16 x17:Int) (again:St→DJ) (k:Out→St→DJ):EX (LA N) (DF OQ [1,1,0,1,0,0]) (TG p x1 x6 x7 l15 x16 x17) (ED again ⟨[1,5,6,7,15,16,17],[5],[]⟩ k)=(cond (decide (x17 < x16)) (cond (decide (0≤x17)&&decide (x17 < ic (AF l15))) (cond (IV.toInt (IV.cell (AH l15 (AD x17) default) 0)==x1) (again (TG p x1 x6 (AA AB (x7+G1 (IV.toList (IV.cell (AH l15 (AD x17) default) 1)) p)) l15 x16 (AA AB (x17+1)))) (again (TG p x1 x6 x7 l15 x16 (AA AB (x17+1))))) none) (k (.exit 0) (TG p x1 x6 x7 l15 x16 x17))):=by kernel_rfl
theorem Ys (N:Nat) (p:Pt) (x1 x6 x7:Int) (l15:LI) (x16 x17:Int):(DM 0 (DN (LA N) (DF OQ [1,1,1]) (DP (LA N) none [.tmp 6] [[.z]]))) (.exit 0) (TG p x1 x6 x7 l15 x16 x17)=(some ((.i x7),[])):=by kernel_rfl
def Rj (N:Nat):Env:=D0 [(49,L6),(182,cL)] [] 24 N
theorem zel (N:Nat) (m:Md) (u00:Int) (p:Pt):DV (Rj N) xW [.tmp 6] [[.z]] [(Md.V m),.i u00,(Pt.V p)]=(cond (!EP m) (some ((.i 0),[])) (cond (decide (u00 < 0)) (some ((.i 0),[])) (cond (decide (u00≥Md.c m)) (some ((.i 0),[])) (cond (EP m&&HX m u00) (some ((.i (PW u00 p (Md.ts m) (LD m u00))),[])) none)))):=by kernel_rfl
def Qb (N:Nat):Env:=D0 [(191,V9)] [(2,⟨[2,5,6],[],[]⟩)] 12 N
def Qd (N:Nat):Env:=D0 [] [(3,⟨[1,2,3,5],[1,2,3],[]⟩)] 16 N
open Go Go.Proofs
def NN (N:Nat):Env:=kP [(49,L6),(51,L7)] [(195,jW),(194,jY)] [(5,⟨[1,4,5,16,17,18],[500],[⟨.tmp 5,500,3,false,[.z]⟩]⟩),(8,⟨[1,4,5,16,17,18,23,24,25],[500],[⟨.tmp 5,500,3,false,[.z]⟩]⟩)] 54 N
abbrev aJ (x1:Int) (n5:Nat) (l16:LI) (x17 x18:Int) (u00:LI):St:=⟨[(1,(.i x1)),(4,.zs),(5,(.row 500 0 n5)),(16,(.list true LN l16)),(17,(.i x17)),(18,(.i x18))],[(500,(some (.row true 3 false [.z] u00)))]⟩
abbrev VM (x1:Int) (n5:Nat) (l16:LI) (x17 x18:Int) (l23:LI) (x24 x25:Int) (u00:LI):St:=⟨[(1,(.i x1)),(4,.zs),(5,(.row 500 0 n5)),(16,(.list true LN l16)),(17,(.i x17)),(18,(.i x18)),(23,(.list false [.int .u64] l23)),(24,(.i x24)),(25,(.i x25))],[(500,(some (.row true 3 false [.z] u00)))]⟩
theorem zeo (N:Nat) (m:Md) (u00:Int):DV (NN N) OP [.tmp 4] [] [(Md.V m),.i u00]=(cond (!EP m) (some (.any,[])) (DT (NN N) (DF OP [1,1,1,0,1,0,0]) ⟨[1,4,5,16,17,18],[500],[⟨(.tmp 5),500,3,false,[.z]⟩]⟩ N (aJ u00 0 (Md.ts m) (ic (AF (Md.ts m))) 0 []) (DM 0 (DN (NN N) (DF OP [1,1,1,1]) (DP (NN N) none [.tmp 4] []))))):=by kernel_rfl
theorem Ms (N:Nat) (x1:Int) (n5:Nat) (l16:LI) (x17 x18:Int) (u00:LI) (again:St→DJ) (k:Out→St→DJ):EX (NN N) (DF OP [1,1,1,0,1,0,0]) (aJ x1 n5 l16 x17 x18 u00) (ED again ⟨[1,4,5,16,17,18],[500],[⟨(.tmp 5),500,3,false,[.z]⟩]⟩ k)=(cond (decide (x18 < x17)) (cond (decide (0≤x18)&&decide (x18 < ic (AF l16))) (DT (NN N) (DF OP [1,1,1,0,1,0,0,1,1,0,0,1,1,0,0]) ⟨[1,4,5,16,17,18,23,24,25],[500],[⟨(.tmp 5),500,3,false,[.z]⟩]⟩ N (VM x1 n5 l16 x17 x18 (IV.toList (IV.cell (AH l16 (AD x18) default) 1)) (ic (AF (IV.toList (IV.cell (AH l16 (AD x18) default) 1)))) 0 u00) (DM 2 (DM 1 (DN (NN N) (DF OP [1,1,1,0,1,0,0,1,1,1]) (ED again ⟨[1,4,5,16,17,18],[500],[⟨(.tmp 5),500,3,false,[.z]⟩]⟩ k))))) none) (k (.exit 0) (aJ x1 n5 l16 x17 x18 u00))):=by kernel_rfl
theorem Mt (N:Nat) (x1:Int) (n5:Nat) (l16:LI) (x17 x18:Int) (l23:LI) (x24 x25:Int) (u00:LI) (again:St→DJ) (k:Out→St→DJ):EX (NN N) (DF OP [1,1,1,0,1,0,0,1,1,0,0,1,1,0,0]) (VM x1 n5 l16 x17 x18 l23 x24 x25 u00) (ED again ⟨[1,4,5,16,17,18,23,24,25],[500],[⟨(.tmp 5),500,3,false,[.z]⟩]⟩ k)=(cond (decide (x25 < x24)) (cond (decide (0≤x25)&&decide (x25 < ic (AF l23))) (cond (!Nd.lf (DH (IV.toInt (AH l23 (AD x25) default)))) (cond (Nd.f (DH (IV.toInt (AH l23 (AD x25) default)))==x1) (cond (decide ((n5+1)*8≤D6)) (again (VM x1 (n5+1) l16 x17 x18 l23 x24 (AA AB (x25+1)) (AK n5 u00++[IV.int (Nd.a (DH (IV.toInt (AH l23 (AD x25) default))))]))) none) (again (VM x1 n5 l16 x17 x18 l23 x24 (AA AB (x25+1)) u00))) (again (VM x1 n5 l16 x17 x18 l23 x24 (AA AB (x25+1)) u00))) none) (k (.exit 2) (VM x1 n5 l16 x17 x18 l23 x24 x25 u00))):=by kernel_rfl
theorem Yq (N:Nat) (x1:Int) (n5:Nat) (l16:LI) (x17 x18:Int) (u00:LI):(DM 0 (DN (NN N) (DF OP [1,1,1,1]) (DP (NN N) none [.tmp 4] []))) (.exit 0) (aJ x1 n5 l16 x17 x18 u00)=(cond (BO n5 (AF u00)) (cond (BO (AF (iZ (KO (A2 IV.toInt u00)))) (AF u00)) (cond (BO n5 (AF (iZ (KO (A2 IV.toInt u00))))) (cond (B6 (AF (iZ (I2 (A2 IV.toInt (iZ (KO (A2 IV.toInt u00))))))) (AF (iZ (KO (A2 IV.toInt u00))))) (some ((.vec 3 false [.z] (AK (AF (iZ (I2 (A2 IV.toInt (iZ (KO (A2 IV.toInt u00))))))) (iZ (I2 (A2 IV.toInt (iZ (KO (A2 IV.toInt u00)))))))),[])) none) none) none) none):=by kernel_rfl
theorem Yr (N:Nat) (again:St→DJ) (k:Out→St→DJ) (x1:Int) (n5:Nat) (l16:LI) (x17 x18:Int) (l23:LI) (x24 x25:Int) (u00:LI):(DM 2 (DM 1 (DN (NN N) (DF OP [1,1,1,0,1,0,0,1,1,1]) (ED again ⟨[1,4,5,16,17,18],[500],[⟨(.tmp 5),500,3,false,[.z]⟩]⟩ k)))) (.exit 2) (VM x1 n5 l16 x17 x18 l23 x24 x25 u00)=(again (aJ x1 n5 l16 x17 (AA AB (x18+1)) u00)):=by kernel_rfl
def Rg (N:Nat):Env:=D0 [] [] 23 N
theorem zeg (N:Nat) (q:Qy) (u00:Int):DV (Rg N) xT [.tmp 4] [[.z]] [(Qy.V q),.i u00]=(cond (decide (u00≥0)) (cond (decide (u00 < 4)) (some ((.i u00),[])) (cond (u00==4) (cond (Qy.k q==3) (some ((.i (Qy.ft q)),[])) (some ((.i (-1)),[]))) (some ((.i (-1)),[])))) (cond (u00==4) (cond (Qy.k q==3) (some ((.i (Qy.ft q)),[])) (some ((.i (-1)),[]))) (some ((.i (-1)),[])))):=by kernel_rfl
def uX (N:Nat):Env:=kP [(149,cE),(151,cK)] [(150,jX)] [] 24 N
def Rv (N:Nat):Env:=D0 [] [] 71 N
theorem zeD (N:Nat) (m:Md) (a1:Qy):DV (Rv N) yI [.tmp 4] [[.bool]] [(Md.V m),(Qy.V a1)]=(cond (Qy.k a1==1) (cond (decide (Qy.lo a1≤Qy.hi a1)) (cond (Qy.ft a1==0) (some ((.bool (!Qy.fl a1)),[])) (some ((.bool false),[]))) (some ((.bool false),[]))) (cond (Qy.k a1==2) (cond (decide (Md.c m≥2)) (cond (Qy.lo a1==0) (cond (Qy.hi a1==0) (cond (Qy.ft a1==0) (some ((.bool (!Qy.fl a1)),[])) (some ((.bool false),[]))) (some ((.bool false),[]))) (some ((.bool false),[]))) (some ((.bool false),[]))) (cond (Qy.k a1==3) (cond (decide (Qy.ft a1≥0)) (cond (decide (Qy.ft a1 < Md.d m)) (cond (Qy.lo a1==0) (some ((.bool (Qy.hi a1==0)),[])) (some ((.bool false),[]))) (some ((.bool false),[]))) (some ((.bool false),[]))) (some ((.bool false),[]))))):=by kernel_rfl
def Rs (N:Nat):Env:=D0 [(49,L6),(147,cU),(146,cV)] [] 41 N
theorem zeA (N:Nat) (m:Md) (q:Qy):DV (Rs N) yF [.tmp 4] [[.bool]] [(Md.V m),(Qy.V q)]=(cond (EP m) (cond (decide (Qy.c q≥0)) (cond (decide (Qy.c q < Md.c m)) (cond (decide (Qy.bu q≥0)) (cond (decide (Qy.bu q≤65536)) (cond (P0 {s0:={lo:=Qy.a0 q,hi:=Qy.b0 q},s1:={lo:=Qy.a1 q,hi:=Qy.b1 q},s2:={lo:=Qy.a2 q,hi:=Qy.b2 q},s3:={lo:=Qy.a3 q,hi:=Qy.b3 q},s4:={lo:=Qy.a4 q,hi:=Qy.b4 q}} (Md.d m)) (some ((.bool (Q3 m q)),[])) (some ((.bool false),[]))) (some ((.bool false),[]))) (some ((.bool false),[]))) (some ((.bool false),[]))) (some ((.bool false),[]))) (some ((.bool false),[]))):=by kernel_rfl
def Rw (N:Nat):Env:=D0 [] [] 16 N
theorem zeE (N:Nat) (q:Qy):DV (Rw N) yJ [.tmp 2] [[.bool]] [(Qy.V q)]=(cond (Qy.k q==3) (cond (decide (Qy.ft q≥0)) (some ((.bool (decide (Qy.ft q < 4))),[])) (some ((.bool false),[]))) (some ((.bool false),[]))):=by kernel_rfl
def Ru (N:Nat):Env:=D0 [(97,V7)] [] 16 N
theorem zeC (N:Nat) (q:Qy):DV (Ru N) yH [.cell 2 37] [[.z,.z,.z,.z,.z,.z,.z,.z,.z,.z]] [(Qy.V q)]=(cond (G0 q) (cond (decide (Qy.ft q=ic 0)) (some ((.agg [.i (Qy.a0 q),.i (Qy.b0 q),.i (Qy.a1 q),.i (Qy.b1 q),.i (Qy.a2 q),.i (Qy.b2 q),.i (Qy.a3 q),.i (Qy.b3 q),.i (Qy.a0 q),.i (Qy.b0 q)]),[])) (cond (decide (Qy.ft q=ic 1)) (some ((.agg [.i (Qy.a0 q),.i (Qy.b0 q),.i (Qy.a1 q),.i (Qy.b1 q),.i (Qy.a2 q),.i (Qy.b2 q),.i (Qy.a3 q),.i (Qy.b3 q),.i (Qy.a1 q),.i (Qy.b1 q)]),[])) (cond (decide (Qy.ft q=ic 2)) (some ((.agg [.i (Qy.a0 q),.i (Qy.b0 q),.i (Qy.a1 q),.i (Qy.b1 q),.i (Qy.a2 q),.i (Qy.b2 q),.i (Qy.a3 q),.i (Qy.b3 q),.i (Qy.a2 q),.i (Qy.b2 q)]),[])) (cond (decide (Qy.ft q=ic 3)) (some ((.agg [.i (Qy.a0 q),.i (Qy.b0 q),.i (Qy.a1 q),.i (Qy.b1 q),.i (Qy.a2 q),.i (Qy.b2 q),.i (Qy.a3 q),.i (Qy.b3 q),.i (Qy.a3 q),.i (Qy.b3 q)]),[])) (cond (decide (Qy.ft q=ic 4)) (some ((.agg [.i (Qy.a0 q),.i (Qy.b0 q),.i (Qy.a1 q),.i (Qy.b1 q),.i (Qy.a2 q),.i (Qy.b2 q),.i (Qy.a3 q),.i (Qy.b3 q),.i 0,.i 0]),[])) none))))) (some ((.agg [.i (Qy.a0 q),.i (Qy.b0 q),.i (Qy.a1 q),.i (Qy.b1 q),.i (Qy.a2 q),.i (Qy.b2 q),.i (Qy.a3 q),.i (Qy.b3 q),.i 0,.i 0]),[]))):=by kernel_rfl
def Rt (N:Nat):Env:=D0 [(97,V7)] [] 14 N
theorem zeB (N:Nat) (q:Qy) (p:Pt) (twin:Int):DV (Rt N) yG [.cell 6 48] [[.z,.z,.z,.z]] [(Qy.V q),(Pt.V p),.i twin]=(cond (G0 q) (cond (decide (Qy.ft q=ic 0)) (some ((.agg [.i twin,.i (Pt.p1 p),.i (Pt.p2 p),.i (Pt.p3 p)]),[])) (cond (decide (Qy.ft q=ic 1)) (some ((.agg [.i (Pt.p0 p),.i twin,.i (Pt.p2 p),.i (Pt.p3 p)]),[])) (cond (decide (Qy.ft q=ic 2)) (some ((.agg [.i (Pt.p0 p),.i (Pt.p1 p),.i twin,.i (Pt.p3 p)]),[])) (cond (decide (Qy.ft q=ic 3)) (some ((.agg [.i (Pt.p0 p),.i (Pt.p1 p),.i (Pt.p2 p),.i twin]),[])) none)))) (some ((Pt.V p),[]))):=by kernel_rfl
def LB (N:Nat):Env:=D0 [(126,cJ),(93,L8),(128,cT),(127,WA)] [(9,⟨[4,5,6,8,9,36,37],[4,5,6],[]⟩)] 75 N
abbrev TH (m:Md) (a1:Qy) (a2:Pt) (b8:Bool) (x9 x36 x37:Int):St:=⟨[(4,(.ptr 4 0 0)),(5,(.ptr 5 0 0)),(6,(.ptr 6 0 0)),(8,(.bool b8)),(9,(.i x9)),(36,(.i x36)),(37,(.i x37))],[(4,(some (.box (Md.cs m)))),(5,(some (.box (Qy.cs a1)))),(6,(some (.box (Pt.cs a2))))]⟩
theorem zez (N:Nat) (m:Md) (a1:Qy) (a2:Pt) (a3:Int):DV (LB N) NU [.tmp 8] [[.bool]] [(Md.V m),(Qy.V a1),(Pt.V a2),.i a3]=(cond (!FH m a1) (some ((.bool false),[])) (cond (Qy.k a1==1) (some ((.bool (!Sp.has {lo:=Qy.lo a1,hi:=Qy.hi a1} (EN m (Qy.c a1) a2))),[])) (cond (Qy.k a1==2) (DT (LB N) (DF NU [1,1,1,0,1,0,1,1,1,0,0,1,0,0]) ⟨[4,5,6,8,9,36,37],[4,5,6],[]⟩ N (TH m a1 a2 false (EN m (Qy.c a1) a2) (Md.c m) 0) (DM 1 (DN (LB N) (DF NU [1,1,1,0,1,0,1,1,1,0,1]) (DM 0 (DN (LB N) (DF NU [1,1,1,1]) (DP (LB N) none [.tmp 8] [[.bool]])))))) (cond (decide (Qy.ft a1=ic 0)) (cond (decide (Pt.p0 a2≥a3)) (some ((.bool false),[])) (cond (Qy.fl a1) (some ((.bool (decide (EN m (Qy.c a1) (I6 a1 a2 a3) > EN m (Qy.c a1) a2))),[])) (some ((.bool (decide (EN m (Qy.c a1) (I6 a1 a2 a3) < EN m (Qy.c a1) a2))),[])))) (cond (decide (Qy.ft a1=ic 1)) (cond (decide (Pt.p1 a2≥a3)) (some ((.bool false),[])) (cond (Qy.fl a1) (some ((.bool (decide (EN m (Qy.c a1) (I6 a1 a2 a3) > EN m (Qy.c a1) a2))),[])) (some ((.bool (decide (EN m (Qy.c a1) (I6 a1 a2 a3) < EN m (Qy.c a1) a2))),[])))) (cond (decide (Qy.ft a1=ic 2)) (cond (decide (Pt.p2 a2≥a3)) (some ((.bool false),[])) (cond (Qy.fl a1) (some ((.bool (decide (EN m (Qy.c a1) (I6 a1 a2 a3) > EN m (Qy.c a1) a2))),[])) (some ((.bool (decide (EN m (Qy.c a1) (I6 a1 a2 a3) < EN m (Qy.c a1) a2))),[])))) (cond (decide (Qy.ft a1=ic 3)) (cond (decide (Pt.p3 a2≥a3)) (some ((.bool false),[])) (cond (Qy.fl a1) (some ((.bool (decide (EN m (Qy.c a1) (I6 a1 a2 a3) > EN m (Qy.c a1) a2))),[])) (some ((.bool (decide (EN m (Qy.c a1) (I6 a1 a2 a3) < EN m (Qy.c a1) a2))),[])))) none))))))):=by kernel_rfl
theorem Mx (N:Nat) (m:Md) (a1:Qy) (a2:Pt) (b8:Bool) (x9 x36 x37:Int) (again:St→DJ) (k:Out→St→DJ):EX (LB N) (DF NU [1,1,1,0,1,0,1,1,1,0,0,1,0,0]) (TH m a1 a2 b8 x9 x36 x37) (ED again ⟨[4,5,6,8,9,36,37],[4,5,6],[]⟩ k)=(cond (decide (x37 < x36)) (cond (x37 != Qy.c a1) (cond (decide (EN m x37 a2≥x9)) (k .ret (TH m a1 a2 true x9 x36 x37)) (again (TH m a1 a2 b8 x9 x36 (AA AB (x37+1))))) (again (TH m a1 a2 b8 x9 x36 (AA AB (x37+1))))) (k (.exit 1) (TH m a1 a2 b8 x9 x36 x37))):=by kernel_rfl
theorem Yw (N:Nat) (m:Md) (a1:Qy) (a2:Pt) (b8:Bool) (x9 x36 x37:Int):(DM 1 (DN (LB N) (DF NU [1,1,1,0,1,0,1,1,1,0,1]) (DM 0 (DN (LB N) (DF NU [1,1,1,1]) (DP (LB N) none [.tmp 8] [[.bool]]))))) (.exit 1) (TH m a1 a2 b8 x9 x36 x37)=(some ((.bool false),[])):=by kernel_rfl
theorem Yx (N:Nat) (m:Md) (a1:Qy) (a2:Pt) (b8:Bool) (x9 x36 x37:Int):(DM 1 (DN (LB N) (DF NU [1,1,1,0,1,0,1,1,1,0,1]) (DM 0 (DN (LB N) (DF NU [1,1,1,1]) (DP (LB N) none [.tmp 8] [[.bool]]))))) .ret (TH m a1 a2 b8 x9 x36 x37)=(some ((.bool b8),[])):=by kernel_rfl
def Rx (N:Nat):Env:=D0 [(106,RW),(191,V9)] [(2,⟨[1,4,7,8],[],[]⟩)] 35 N
open Go Go.Proofs
def QO (N:Nat):Env:=D0 [(124,NO),(174,KV),(51,L7),(109,WH)] [(7,⟨[4,5,6,24,25,26],[20,500],[⟨.tmp 6,500,264,true,[.z,.z,.z,.z,.z,.z,.z,.z,.z,.z,.z]⟩]⟩)] 79 N
abbrev VL (n5 n6:Nat) (l24:LI) (x25 x26:Int) (lo20 u00:LI):St:=⟨[(4,.zs),(5,(.row 20 0 n5)),(6,(.row 500 0 n6)),(24,(.list false [.int .u64] l24)),(25,(.i x25)),(26,(.i x26))],[(20,(some (.row true 37 true EA lo20))),(500,(some (.row true 264 true MG u00)))]⟩
theorem zek (N:Nat) (l:LI) (a1:Bx):DV (QO N) T5 [.tmp 4] [[.list true [.z,.z,.z,.z,.z,.z,.z,.z,.z,.z,.z]]] [.list false [.int .u64] l,(Bx.V a1)]=(cond (!GK l 4) (some ((.list true MG []),[])) (cond (Bx.emp a1) (some ((.list true MG []),[])) (cond (true&&(true&&decide (0≤ic (AF l)))&&(decide (ic (AF l)=ic (AF l))&&decide (ic (AF l)*ic 80≤ic D6))) (cond (decide (0≤0)&&decide (0 < ic (AD (ic (AF l)) - 0))) (DT (QO N) (DF T5 [1,1,1,1,1,0,1,0,0]) ⟨[4,5,6,24,25,26],[20,500],[⟨(.tmp 6),500,264,true,MG⟩]⟩ N (VL (AD (ic (AF l))) 0 l (ic (AF l)) 0 (List.set (BN (AD (ic (AF l))) (IV.agg [IV.int 0,IV.int 0,IV.int 0,IV.int 0,IV.int 0,IV.int 0,IV.int 0,IV.int 0,IV.int 0,IV.int 0])) 0 (Bx.I a1)) []) (DM 0 (DN (QO N) (DF T5 [1,1,1,1,1,1]) (DP (QO N) none [.tmp 4] [[.list true MG]])))) none) none))):=by kernel_rfl
theorem Mq (N n5 n6:Nat) (l24:LI) (x25 x26:Int) (lo20 u00:LI) (again:St→DJ) (k:Out→St→DJ):EX (QO N) (DF T5 [1,1,1,1,1,0,1,0,0]) (VL n5 n6 l24 x25 x26 lo20 u00) (ED again ⟨[4,5,6,24,25,26],[20,500],[⟨(.tmp 6),500,264,true,MG⟩]⟩ k)=(cond (decide (x26 < x25)) (cond (decide (0≤x26)&&decide (x26 < ic (AF l24))) (cond (!Nd.lf (DH (IV.toInt (AH l24 (AD x26) default)))) (cond (decide (0≤x26)&&decide (x26 < ic (n5 - 0))) (cond (GZ (Nd.f (DH (IV.toInt (AH l24 (AD x26) default))))) (cond (decide (0≤Nd.l (DH (IV.toInt (AH l24 (AD x26) default))))&&decide (Nd.l (DH (IV.toInt (AH l24 (AD x26) default))) < ic (n5 - 0))) (cond (decide (0≤Nd.r (DH (IV.toInt (AH l24 (AD x26) default))))&&decide (Nd.r (DH (IV.toInt (AH l24 (AD x26) default))) < ic (n5 - 0))) (again (VL n5 n6 l24 x25 (AA AB (x26+1)) (List.set (List.set lo20 (0+AD (Nd.l (DH (IV.toInt (AH l24 (AD x26) default))))) (Bx.I (Bx.cutL (DY (AH lo20 (0+AD x26) default)) (Nd.f (DH (IV.toInt (AH l24 (AD x26) default)))) (Nd.a (DH (IV.toInt (AH l24 (AD x26) default))))))) (0+AD (Nd.r (DH (IV.toInt (AH l24 (AD x26) default))))) (Bx.I (Bx.cutH (DY (AH lo20 (0+AD x26) default)) (Nd.f (DH (IV.toInt (AH l24 (AD x26) default)))) (Nd.a (DH (IV.toInt (AH l24 (AD x26) default))))))) u00)) none) none) none) none) (cond (decide (0≤x26)&&decide (x26 < ic (n5 - 0))) (cond (!Bx.emp (DY (AH lo20 (0+AD x26) default))) (cond (decide (0≤x26)&&decide (x26 < ic (n5 - 0))) (cond (decide ((n6+1)*88≤D6)) (again (VL n5 (n6+1) l24 x25 (AA AB (x26+1)) lo20 (AK n6 u00++[(fP (DY (AH lo20 (0+AD x26) default)) (Nd.v (DH (IV.toInt (AH l24 (AD x26) default)))))]))) none) none) (again (VL n5 n6 l24 x25 (AA AB (x26+1)) lo20 u00))) none)) none) (k (.exit 0) (VL n5 n6 l24 x25 x26 lo20 u00))):=by kernel_rfl
theorem Yn (N n5 n6:Nat) (l24:LI) (x25 x26:Int) (lo20 u00:LI):(DM 0 (DN (QO N) (DF T5 [1,1,1,1,1,1]) (DP (QO N) none [.tmp 4] [[.list true MG]]))) (.exit 0) (VL n5 n6 l24 x25 x26 lo20 u00)=(some ((.list true MG (AO 0 (AK n6 u00))),[])):=by kernel_rfl
def QM (N:Nat):Env:=D0 [(264,cH)] [(6,⟨[4,5,6,8,9,26,27,28],[],[]⟩)] 43 N
abbrev aG (x4 x5:Int) (b6:Bool) (x8 x9:Int) (l26:LI) (x27 x28:Int):St:=⟨[(4,(.i x4)),(5,(.i x5)),(6,(.bool b6)),(8,(.i x8)),(9,(.i x9)),(26,(.list true MG l26)),(27,(.i x27)),(28,(.i x28))],[]⟩
theorem zdz (N:Nat) (l:LI) (b:Bx):DV (QM N) T2 [.tmp 4,.tmp 5,.tmp 6] [[.z],[.z],[.bool]] [.list false [.int .u64] l,(Bx.V b)]=(cond (ic (AF (II l b))==0) (some ((.tup [.i 0,.i 0,.bool false]),[])) (cond (decide (0≤0)&&decide (0 < ic (AF (II l b)))) (cond (decide (0≤0)&&decide (0 < ic (AF (II l b)))) (DT (QM N) (DF T2 [1,1,1,1,0,1,0,0]) ⟨[4,5,6,8,9,26,27,28],[],[]⟩ N (aG 0 0 false (IV.toInt (IV.cell (AH (II l b) (AD 0) default) 10)) (IV.toInt (IV.cell (AH (II l b) (AD 0) default) 10)) (II l b) (ic (AF (II l b))) 0) (DM 0 (DN (QM N) (DF T2 [1,1,1,1,1]) (DP (QM N) none [.tmp 4,.tmp 5,.tmp 6] [[.z],[.z],[.bool]])))) none) none)):=by kernel_rfl
theorem Lv (N:Nat) (x4 x5:Int) (b6:Bool) (x8 x9:Int) (l26:LI) (x27 x28:Int) (again:St→DJ) (k:Out→St→DJ):EX (QM N) (DF T2 [1,1,1,1,0,1,0,0]) (aG x4 x5 b6 x8 x9 l26 x27 x28) (ED again ⟨[4,5,6,8,9,26,27,28],[],[]⟩ k)=(cond (decide (x28 < x27)) (cond (decide (0≤x28)&&decide (x28 < ic (AF l26))) (again (aG x4 x5 b6 (min x8 (IV.toInt (IV.cell (AH l26 (AD x28) default) 10))) (max x9 (IV.toInt (IV.cell (AH l26 (AD x28) default) 10))) l26 x27 (AA AB (x28+1)))) none) (k (.exit 0) (aG x4 x5 b6 x8 x9 l26 x27 x28))):=by kernel_rfl
theorem Xm (N:Nat) (x4 x5:Int) (b6:Bool) (x8 x9:Int) (l26:LI) (x27 x28:Int):(DM 0 (DN (QM N) (DF T2 [1,1,1,1,1]) (DP (QM N) none [.tmp 4,.tmp 5,.tmp 6] [[.z],[.z],[.bool]]))) (.exit 0) (aG x4 x5 b6 x8 x9 l26 x27 x28)=(some ((.tup [.i x8,.i x9,.bool true]),[])):=by kernel_rfl
def GL (N:Nat):Env:=D0 [(240,aZ),(174,KV),(49,L6)] [(5,⟨[1,5,6,7,8,9,10,42,43,44],[5],[]⟩)] 69 N
abbrev MV (a2:Bx) (x1 x6 x7:Int) (b8:Bool) (x9 x10:Int) (l42:LI) (x43 x44:Int):St:=⟨[(1,(.i x1)),(5,(.ptr 5 0 0)),(6,(.i x6)),(7,(.i x7)),(8,(.bool b8)),(9,(.i x9)),(10,(.i x10)),(42,(.list true LN l42)),(43,(.i x43)),(44,(.i x44))],[(5,(some (.box (Bx.cs a2))))]⟩
theorem zdy (N:Nat) (m:Md) (a1:Int) (a2:Bx):DV (GL N) ID [.tmp 6,.tmp 7,.tmp 8] [[.z],[.z],[.bool]] [(Md.V m),.i a1,(Bx.V a2)]=(cond (!EP m) (some ((.tup [.i 0,.i 0,.bool false]),[])) (cond (decide (a1 < 0)) (some ((.tup [.i 0,.i 0,.bool false]),[])) (cond (decide (a1≥Md.c m)) (some ((.tup [.i 0,.i 0,.bool false]),[])) (cond (Bx.emp a2) (some ((.tup [.i 0,.i 0,.bool false]),[])) (cond (decide (a1=ic 0)) (cond (decide (a1=ic 0)) (DT (GL N) (DF ID [1,1,1,0,1,0,0]) ⟨[1,5,6,7,8,9,10,42,43,44],[5],[]⟩ N (MV a2 a1 0 0 false (Md.b0 m) (Md.b0 m) (Md.ts m) (ic (AF (Md.ts m))) 0) (DM 0 (DN (GL N) (DF ID [1,1,1,1]) (DP (GL N) none [.tmp 6,.tmp 7,.tmp 8] [[.z],[.z],[.bool]])))) (cond (decide (a1=ic 1)) (DT (GL N) (DF ID [1,1,1,0,1,0,0]) ⟨[1,5,6,7,8,9,10,42,43,44],[5],[]⟩ N (MV a2 a1 0 0 false (Md.b0 m) (Md.b1 m) (Md.ts m) (ic (AF (Md.ts m))) 0) (DM 0 (DN (GL N) (DF ID [1,1,1,1]) (DP (GL N) none [.tmp 6,.tmp 7,.tmp 8] [[.z],[.z],[.bool]])))) (cond (decide (a1=ic 2)) (DT (GL N) (DF ID [1,1,1,0,1,0,0]) ⟨[1,5,6,7,8,9,10,42,43,44],[5],[]⟩ N (MV a2 a1 0 0 false (Md.b0 m) (Md.b2 m) (Md.ts m) (ic (AF (Md.ts m))) 0) (DM 0 (DN (GL N) (DF ID [1,1,1,1]) (DP (GL N) none [.tmp 6,.tmp 7,.tmp 8] [[.z],[.z],[.bool]])))) none))) (cond (decide (a1=ic 1)) (cond (decide (a1=ic 0)) (DT (GL N) (DF ID [1,1,1,0,1,0,0]) ⟨[1,5,6,7,8,9,10,42,43,44],[5],[]⟩ N (MV a2 a1 0 0 false (Md.b1 m) (Md.b0 m) (Md.ts m) (ic (AF (Md.ts m))) 0) (DM 0 (DN (GL N) (DF ID [1,1,1,1]) (DP (GL N) none [.tmp 6,.tmp 7,.tmp 8] [[.z],[.z],[.bool]])))) (cond (decide (a1=ic 1)) (DT (GL N) (DF ID [1,1,1,0,1,0,0]) ⟨[1,5,6,7,8,9,10,42,43,44],[5],[]⟩ N (MV a2 a1 0 0 false (Md.b1 m) (Md.b1 m) (Md.ts m) (ic (AF (Md.ts m))) 0) (DM 0 (DN (GL N) (DF ID [1,1,1,1]) (DP (GL N) none [.tmp 6,.tmp 7,.tmp 8] [[.z],[.z],[.bool]])))) (cond (decide (a1=ic 2)) (DT (GL N) (DF ID [1,1,1,0,1,0,0]) ⟨[1,5,6,7,8,9,10,42,43,44],[5],[]⟩ N (MV a2 a1 0 0 false (Md.b1 m) (Md.b2 m) (Md.ts m) (ic (AF (Md.ts m))) 0) (DM 0 (DN (GL N) (DF ID [1,1,1,1]) (DP (GL N) none [.tmp 6,.tmp 7,.tmp 8] [[.z],[.z],[.bool]])))) none))) (cond (decide (a1=ic 2)) (cond (decide (a1=ic 0)) (DT (GL N) (DF ID [1,1,1,0,1,0,0]) ⟨[1,5,6,7,8,9,10,42,43,44],[5],[]⟩ N (MV a2 a1 0 0 false (Md.b2 m) (Md.b0 m) (Md.ts m) (ic (AF (Md.ts m))) 0) (DM 0 (DN (GL N) (DF ID [1,1,1,1]) (DP (GL N) none [.tmp 6,.tmp 7,.tmp 8] [[.z],[.z],[.bool]])))) (cond (decide (a1=ic 1)) (DT (GL N) (DF ID [1,1,1,0,1,0,0]) ⟨[1,5,6,7,8,9,10,42,43,44],[5],[]⟩ N (MV a2 a1 0 0 false (Md.b2 m) (Md.b1 m) (Md.ts m) (ic (AF (Md.ts m))) 0) (DM 0 (DN (GL N) (DF ID [1,1,1,1]) (DP (GL N) none [.tmp 6,.tmp 7,.tmp 8] [[.z],[.z],[.bool]])))) (cond (decide (a1=ic 2)) (DT (GL N) (DF ID [1,1,1,0,1,0,0]) ⟨[1,5,6,7,8,9,10,42,43,44],[5],[]⟩ N (MV a2 a1 0 0 false (Md.b2 m) (Md.b2 m) (Md.ts m) (ic (AF (Md.ts m))) 0) (DM 0 (DN (GL N) (DF ID [1,1,1,1]) (DP (GL N) none [.tmp 6,.tmp 7,.tmp 8] [[.z],[.z],[.bool]])))) none))) none))))))):=by kernel_rfl
theorem Lu (N:Nat) (a2:Bx) (x1 x6 x7:Int) (b8:Bool) (x9 x10:Int) (l42:LI) (x43 x44:Int) (again:St→DJ) (k:Out→St→DJ):EX (GL N) (DF ID [1,1,1,0,1,0,0]) (MV a2 x1 x6 x7 b8 x9 x10 l42 x43 x44) (ED again ⟨[1,5,6,7,8,9,10,42,43,44],[5],[]⟩ k)=(cond (decide (x44 < x43)) (cond (decide (0≤x44)&&decide (x44 < ic (AF l42))) (cond (IV.toInt (IV.cell (AH l42 (AD x44) default) 0) != x1) (again (MV a2 x1 x6 x7 b8 x9 x10 l42 x43 (AA AB (x44+1)))) (again (MV a2 x1 x6 x7 b8 (AA AB (x9+HV (IV.toList (IV.cell (AH l42 (AD x44) default) 1)) a2)) (AA AB (x10+HU (IV.toList (IV.cell (AH l42 (AD x44) default) 1)) a2)) l42 x43 (AA AB (x44+1))))) none) (k (.exit 0) (MV a2 x1 x6 x7 b8 x9 x10 l42 x43 x44))):=by kernel_rfl
theorem Xl (N:Nat) (a2:Bx) (x1 x6 x7:Int) (b8:Bool) (x9 x10:Int) (l42:LI) (x43 x44:Int):(DM 0 (DN (GL N) (DF ID [1,1,1,1]) (DP (GL N) none [.tmp 6,.tmp 7,.tmp 8] [[.z],[.z],[.bool]]))) (.exit 0) (MV a2 x1 x6 x7 b8 x9 x10 l42 x43 x44)=(some ((.tup [.i x9,.i x10,.bool true]),[])):=by kernel_rfl
def QL (N:Nat):Env:=D0 [(207,RY)] [(6,⟨[1,3,5,6,7,8,11,12,33,34],[3,5],[]⟩)] 62 N
abbrev TA (m:Md) (b:Bx) (x1 x6:Int) (b7:Bool) (x8 x11:Int) (b12:Bool) (x33 x34:Int):St:=⟨[(1,(.i x1)),(3,(.ptr 3 0 0)),(5,(.ptr 5 0 0)),(6,(.i x6)),(7,(.bool b7)),(8,(.i x8)),(11,(.i x11)),(12,(.bool b12)),(33,(.i x33)),(34,(.i x34))],[(3,(some (.box (Md.cs m)))),(5,(some (.box (Bx.cs b))))]⟩
theorem zdx (N:Nat) (m:Md) (u00:Int) (b:Bx):DV (QL N) T1 [.tmp 6,.tmp 7] [[.z],[.bool]] [(Md.V m),.i u00,(Bx.V b)]=(cond (!GP m u00 b) (some ((.tup [.i 0,.bool false]),[])) (cond (decide (Md.c m < 2)) (some ((.tup [.i 0,.bool false]),[])) (DT (QL N) (DF T1 [1,1,1,1,0,1,0,0]) ⟨[1,3,5,6,7,8,11,12,33,34],[3,5],[]⟩ N (TA m b u00 0 false (D5 m u00 b) 0 false (Md.c m) 0) (DM 0 (DN (QL N) (DF T1 [1,1,1,1,1]) (DP (QL N) none [.tmp 6,.tmp 7] [[.z],[.bool]])))))):=by kernel_rfl
theorem Lt (N:Nat) (m:Md) (b:Bx) (x1 x6:Int) (b7:Bool) (x8 x11:Int) (b12:Bool) (x33 x34:Int) (again:St→DJ) (k:Out→St→DJ):EX (QL N) (DF T1 [1,1,1,1,0,1,0,0]) (TA m b x1 x6 b7 x8 x11 b12 x33 x34) (ED again ⟨[1,3,5,6,7,8,11,12,33,34],[3,5],[]⟩ k)=(cond (decide (x34 < x33)) (cond (x34==x1) (again (TA m b x1 x6 b7 x8 x11 b12 x33 (AA AB (x34+1)))) (cond (!b12) (again (TA m b x1 x6 b7 x8 (AA AB (x8 - D3 m x34 b)) true x33 (AA AB (x34+1)))) (cond (decide (AA AB (x8 - D3 m x34 b) < x11)) (again (TA m b x1 x6 b7 x8 (AA AB (x8 - D3 m x34 b)) true x33 (AA AB (x34+1)))) (again (TA m b x1 x6 b7 x8 x11 b12 x33 (AA AB (x34+1))))))) (k (.exit 0) (TA m b x1 x6 b7 x8 x11 b12 x33 x34))):=by kernel_rfl
theorem Xk (N:Nat) (m:Md) (b:Bx) (x1 x6:Int) (b7:Bool) (x8 x11:Int) (b12:Bool) (x33 x34:Int):(DM 0 (DN (QL N) (DF T1 [1,1,1,1,1]) (DP (QL N) none [.tmp 6,.tmp 7] [[.z],[.bool]]))) (.exit 0) (TA m b x1 x6 b7 x8 x11 b12 x33 x34)=(some ((.tup [.i x11,.bool true]),[])):=by kernel_rfl
def Qu (N:Nat):Env:=D0 [] [] 16 N
theorem zd1 (N:Nat) (q:Qy):DV (Qu N) xI [.tmp 2] [[.bool]] [(Qy.V q)]=(cond (Qy.k q==3) (cond (decide (Qy.ft q≥0)) (some ((.bool (decide (Qy.ft q < 4))),[])) (some ((.bool false),[]))) (some ((.bool false),[]))):=by kernel_rfl
def Qr (N:Nat):Env:=D0 [(241,PJ)] [] 10 N
theorem zdY (N:Nat) (q:Qy) (b:Bx):DV (Qr N) xF [.cell 4 37] [[.z,.z,.z,.z,.z,.z,.z,.z,.z,.z]] [(Qy.V q),(Bx.V b)]=(cond (G0 q) (some ((.agg [.i (Sp.lo (Bx.s0 b)),.i (Sp.hi (Bx.s0 b)),.i (Sp.lo (Bx.s1 b)),.i (Sp.hi (Bx.s1 b)),.i (Sp.lo (Bx.s2 b)),.i (Sp.hi (Bx.s2 b)),.i (Sp.lo (Bx.s3 b)),.i (Sp.hi (Bx.s3 b)),.i 0,.i 0]),[])) (some ((Bx.V b),[]))):=by kernel_rfl
def Qt (N:Nat):Env:=D0 [(241,PJ)] [] 15 N
theorem zd0 (N:Nat) (q:Qy) (b:Bx):DV (Qt N) xH [.cell 4 37] [[.z,.z,.z,.z,.z,.z,.z,.z,.z,.z]] [(Qy.V q),(Bx.V b)]=(cond (G0 q) (cond (decide (Qy.ft q=ic 0)) (some ((.agg [.i (Sp.lo (Bx.s4 b)),.i (Sp.hi (Bx.s4 b)),.i (Sp.lo (Bx.s1 b)),.i (Sp.hi (Bx.s1 b)),.i (Sp.lo (Bx.s2 b)),.i (Sp.hi (Bx.s2 b)),.i (Sp.lo (Bx.s3 b)),.i (Sp.hi (Bx.s3 b)),.i 0,.i 0]),[])) (cond (decide (Qy.ft q=ic 1)) (some ((.agg [.i (Sp.lo (Bx.s0 b)),.i (Sp.hi (Bx.s0 b)),.i (Sp.lo (Bx.s4 b)),.i (Sp.hi (Bx.s4 b)),.i (Sp.lo (Bx.s2 b)),.i (Sp.hi (Bx.s2 b)),.i (Sp.lo (Bx.s3 b)),.i (Sp.hi (Bx.s3 b)),.i 0,.i 0]),[])) (cond (decide (Qy.ft q=ic 2)) (some ((.agg [.i (Sp.lo (Bx.s0 b)),.i (Sp.hi (Bx.s0 b)),.i (Sp.lo (Bx.s1 b)),.i (Sp.hi (Bx.s1 b)),.i (Sp.lo (Bx.s4 b)),.i (Sp.hi (Bx.s4 b)),.i (Sp.lo (Bx.s3 b)),.i (Sp.hi (Bx.s3 b)),.i 0,.i 0]),[])) (cond (decide (Qy.ft q=ic 3)) (some ((.agg [.i (Sp.lo (Bx.s0 b)),.i (Sp.hi (Bx.s0 b)),.i (Sp.lo (Bx.s1 b)),.i (Sp.hi (Bx.s1 b)),.i (Sp.lo (Bx.s2 b)),.i (Sp.hi (Bx.s2 b)),.i (Sp.lo (Bx.s4 b)),.i (Sp.hi (Bx.s4 b)),.i 0,.i 0]),[])) (cond (decide (Qy.ft q=ic 4)) (some ((.agg [.i (Sp.lo (Bx.s0 b)),.i (Sp.hi (Bx.s0 b)),.i (Sp.lo (Bx.s1 b)),.i (Sp.hi (Bx.s1 b)),.i (Sp.lo (Bx.s2 b)),.i (Sp.hi (Bx.s2 b)),.i (Sp.lo (Bx.s3 b)),.i (Sp.hi (Bx.s3 b)),.i 0,.i 0]),[])) none))))) (some ((Bx.V b),[]))):=by kernel_rfl
def Qs (N:Nat):Env:=D0 [(174,KV),(241,PJ)] [] 23 N
theorem zdZ (N:Nat) (q:Qy) (b:Bx):DV (Qs N) xG [.tmp 4] [[.bool]] [(Qy.V q),(Bx.V b)]=(cond (G0 q) (cond (!Bx.emp b) (cond (decide (Qy.ft q=ic 0)) (some ((.bool (decide (Sp.lo (Bx.s0 b) < Sp.hi (Bx.s4 b)))),[])) (cond (decide (Qy.ft q=ic 1)) (some ((.bool (decide (Sp.lo (Bx.s1 b) < Sp.hi (Bx.s4 b)))),[])) (cond (decide (Qy.ft q=ic 2)) (some ((.bool (decide (Sp.lo (Bx.s2 b) < Sp.hi (Bx.s4 b)))),[])) (cond (decide (Qy.ft q=ic 3)) (some ((.bool (decide (Sp.lo (Bx.s3 b) < Sp.hi (Bx.s4 b)))),[])) (cond (decide (Qy.ft q=ic 4)) (some ((.bool (decide (Sp.lo (Bx.s4 b) < Sp.hi (Bx.s4 b)))),[])) none))))) (some ((.bool false),[]))) (some ((.bool false),[]))):=by kernel_rfl
def Qq (N:Nat):Env:=D0 [(207,RY),(242,bS),(243,bU),(241,PJ)] [] 54 N
theorem zdX (N:Nat) (m:Md) (q:Qy) (b:Bx):DV (Qq N) xE [.tmp 6,.tmp 7,.tmp 8] [[.z],[.z],[.bool]] [(Md.V m),(Qy.V q),(Bx.V b)]=(cond (!G0 q) (some ((.tup [.i 0,.i 0,.bool false]),[])) (cond (!GP m (Qy.c q) (JP q b)) (some ((.tup [.i 0,.i 0,.bool false]),[])) (cond (!GP m (Qy.c q) (JR q b)) (some ((.tup [.i 0,.i 0,.bool false]),[])) (some ((.tup [.i (AA AB (D5 m (Qy.c q) (JR q b) - D3 m (Qy.c q) (JP q b))),.i (AA AB (D3 m (Qy.c q) (JR q b) - D5 m (Qy.c q) (JP q b))),.bool true]),[]))))):=by kernel_rfl
def Rc (N:Nat):Env:=D0 [(208,aY),(207,RY),(174,KV),(210,bR),(209,bT),(93,L8)] [] 86 N
theorem zd9 (N:Nat) (m:Md) (a1:Qy) (a2:Bx):DV (Rc N) xP [.tmp 6] [[.bool]] [(Md.V m),(Qy.V a1),(Bx.V a2)]=(cond (!FH m a1) (some ((.bool false),[])) (cond (Bx.emp a2) (some ((.bool true),[])) (cond (Qy.k a1==1) (cond (GP m (Qy.c a1) a2) (cond (decide (Qy.lo a1≤D5 m (Qy.c a1) a2)) (some ((.bool (decide (D3 m (Qy.c a1) a2≤Qy.hi a1))),[])) (some ((.bool false),[]))) (some ((.bool false),[]))) (cond (Qy.k a1==2) (cond (MI m (Qy.c a1) a2) (some ((.bool (decide (SS m (Qy.c a1) a2 > 0))),[])) (some ((.bool false),[]))) (cond (!NA a1 a2) (some ((.bool true),[])) (cond (Qy.fl a1) (cond (JW m a1 a2) (some ((.bool (decide (PM m a1 a2≤0))),[])) (some ((.bool false),[]))) (cond (JW m a1 a2) (some ((.bool (decide (PN m a1 a2≥0))),[])) (some ((.bool false),[]))))))))):=by kernel_rfl
def Rd (N:Nat):Env:=D0 [(63,VZ)] [] 9 N
theorem zea (N:Nat) (b:Bx):DV (Rd N) xQ [.cell 2 48,.tmp 3] [[.z,.z,.z,.z],[.z]] [(Bx.V b)]=(some ((.tup [(Pt.V (Bx.low b)),.i (Sp.hi (Bx.s4 b))]),[])):=by kernel_rfl
def OK (N:Nat):Env:=D0 [(96,R5)] [(2,⟨[3,4,5,6,7,8,11],[3,4,5],[]⟩)] 31 N
abbrev VH (m:Md) (q:Qy) (b:Bx) (x6 x7:Int) (b8:Bool) (x11:Int):St:=⟨[(3,(.ptr 3 0 0)),(4,(.ptr 4 0 0)),(5,(.ptr 5 0 0)),(6,(.i x6)),(7,(.i x7)),(8,(.bool b8)),(11,(.i x11))],[(3,(some (.box (Md.cs m)))),(4,(some (.box (Qy.cs q)))),(5,(some (.box (Bx.cs b))))]⟩
theorem zeb (N:Nat) (m:Md) (q:Qy) (b:Bx):DV (OK N) SE [.tmp 6,.tmp 7,.tmp 8] [[.z],[.z],[.bool]] [(Md.V m),(Qy.V q),(Bx.V b)]=(DT (OK N) (DF SE [1,0,1,0,0]) ⟨[3,4,5,6,7,8,11],[3,4,5],[]⟩ N (VH m q b 0 0 false 0) (DM 0 (DN (OK N) (DF SE [1,1]) (DP (OK N) none [.tmp 6,.tmp 7,.tmp 8] [[.z],[.z],[.bool]])))):=by kernel_rfl
theorem Ml (N:Nat) (m:Md) (q:Qy) (b:Bx) (x6 x7:Int) (b8:Bool) (x11:Int) (again:St→DJ) (k:Out→St→DJ):EX (OK N) (DF SE [1,0,1,0,0]) (VH m q b x6 x7 b8 x11) (ED again ⟨[3,4,5,6,7,8,11],[3,4,5],[]⟩ k)=(cond (decide (x11 < 5)) (cond (EP m&&GZ x11) (cond (decide (ic (AF (iZ (E2 m q b (AD x11)))) > 0)) (cond (decide (0≤AA AB (Int.tdiv (AA AB (ic (AF (iZ (E2 m q b (AD x11)))) - 1)) 2))&&decide (AA AB (Int.tdiv (AA AB (ic (AF (iZ (E2 m q b (AD x11)))) - 1)) 2) < ic (AF (iZ (E2 m q b (AD x11)))))) (k .ret (VH m q b x11 (IV.toInt (AH (iZ (E2 m q b (AD x11))) (AD (AA AB (Int.tdiv (AA AB (ic (AF (iZ (E2 m q b (AD x11)))) - 1)) 2))) default)) true x11)) none) (again (VH m q b x6 x7 b8 (AA AB (x11+1))))) none) (k (.exit 0) (VH m q b x6 x7 b8 x11))):=by kernel_rfl
theorem Yh (N:Nat) (m:Md) (q:Qy) (b:Bx) (x6 x7:Int) (b8:Bool) (x11:Int):(DM 0 (DN (OK N) (DF SE [1,1]) (DP (OK N) none [.tmp 6,.tmp 7,.tmp 8] [[.z],[.z],[.bool]]))) (.exit 0) (VH m q b x6 x7 b8 x11)=(some ((.tup [.i 0,.i 0,.bool false]),[])):=by kernel_rfl
theorem Yi (N:Nat) (m:Md) (q:Qy) (b:Bx) (x6 x7:Int) (b8:Bool) (x11:Int):(DM 0 (DN (OK N) (DF SE [1,1]) (DP (OK N) none [.tmp 6,.tmp 7,.tmp 8] [[.z],[.z],[.bool]]))) .ret (VH m q b x6 x7 b8 x11)=(some ((.tup [.i x6,.i x7,.bool b8]),[])):=by kernel_rfl
open Go Go.Proofs
set_option maxRecDepth 100000
theorem Co {i:Int} (h:GZ i=true):i=0∨i=1∨i=2∨i=3∨i=4:=by
 unfold GZ at h;simp only [AI,AP] at h;omega
theorem Kp:DS PR B0 220 WB:=by
 refine D2 [] [] WB [[.z,.z]] Tryz.func220 zbZ trivial ?_;intro vs r hwf h;unfold WB at h;split at h
 ·rw [R.get_ok] at h;exact ⟨0,(zeV 0).trans h⟩
 ·simp [R.get] at h
theorem ziy:DS PR B0 219 dC:=by
 refine D2 [(220,WB)] [] dC [[.z,.z]] Tryz.func219 zb0 ⟨Kp,trivial⟩ ?_;intro vs r hwf h;unfold dC at h;split at h
 ·rename_i lo hi;rw [R.get_ok] at h;refine ⟨0,?_⟩;rw [← h];refine (zeW 0 lo hi).trans ?_;unfold MQ;cases decide (lo > hi) <;> rfl
 ·simp [R.get] at h
theorem Kn:DS PR B0 191 V9:=by
 refine D2 [] [] V9 [[.bool]] Tryz.func191 zbX trivial ?_;intro vs r hwf h;unfold V9 at h;split at h
 ·rename_i s;replace h:=uM h;obtain ⟨s,rfl,h⟩:=h;rw [R.get_ok] at h;exact ⟨0,(zeT 0 s).trans h⟩
 ·simp [R.get] at h
theorem Ko:DS PR B0 127 WA:=by
 refine D2 [] [] WA [[.bool]] Tryz.func127 zbY trivial ?_;intro vs r hwf h;unfold WA at h;split at h
 ·rename_i s n;replace h:=uM h;obtain ⟨s,rfl,h⟩:=h;rw [R.get_ok] at h;refine ⟨0,?_⟩;rw [← h];refine (zeU 0 s n).trans ?_;unfold Sp.has;cases decide (s.lo≤n) <;> rfl
 ·simp [R.get] at h
theorem zix:DS PR B0 181 iC:=by
 refine D2 [(220,WB),(219,dC)] [] iC [[.z,.z],[.z,.z]] Tryz.func181 zbW ⟨Kp,ziy,trivial⟩ ?_;intro vs r hwf h;unfold iC at h;split at h
 ·rename_i s n;replace h:=uM h;obtain ⟨s,rfl,h⟩:=h;rw [R.get_ok] at h;refine ⟨0,?_⟩;rw [← h];refine (zeS 0 s n).trans ?_;unfold Sp.cutH;cases decide (n≥s.hi) <;> rfl
 ·simp [R.get] at h
theorem zg3 (b:Bx):DV (Qb 6) wR [.tmp 2] [[.bool]] [b.V] =
 cond b.s0.emp (some (.bool true,[])) (cond b.s1.emp (some (.bool true,[])) (cond b.s2.emp (some (.bool true,[])) (cond b.s3.emp (some (.bool true,[])) (cond b.s4.emp (some (.bool true,[])) (some (.bool false,[])))))):=by kernel_rfl
theorem XR:DS PR B0 174 KV:=by
 refine D2 [(191,V9)] [(2,⟨[2,5,6],[],[]⟩)] KV [[.bool]] Tryz.func174 zaD ⟨Kn,trivial⟩ ?_;intro vs r hwf h;unfold KV at h;split at h
 ·rename_i b;replace h:=IN h;obtain ⟨b,rfl,h⟩:=h;rw [R.get_ok] at h;refine ⟨6,?_⟩;rw [← h];refine (zg3 b).trans ?_;unfold Bx.emp;cases b.s0.emp <;> cases b.s1.emp <;> cases b.s2.emp <;> cases b.s3.emp <;> cases b.s4.emp <;> rfl
 ·simp [R.get] at h
theorem zg4 (b:Bx):DV (Qd 5) wT [.cell 2 48] [[.z,.z,.z,.z]] [b.V]=some (b.low.V,[]):=by kernel_rfl
theorem Jz:DS PR B0 63 VZ:=by
 refine D2 [] [(3,⟨[1,2,3,5],[1,2,3],[]⟩)] VZ [[.z,.z,.z,.z]] Tryz.func63 zaF trivial ?_;intro vs r hwf h;unfold VZ at h;split at h
 ·rename_i b;replace h:=IN h;obtain ⟨b,rfl,h⟩:=h;rw [R.get_ok] at h;exact ⟨5,(zg4 b).trans h⟩
 ·simp [R.get] at h
theorem gG:DS PR B0 124 NO:=by
 refine D2 [(181,iC)] [] NO [[.z,.z,.z,.z,.z,.z,.z,.z,.z,.z],[.z,.z,.z,.z,.z,.z,.z,.z,.z,.z]] Tryz.func124 zaC ⟨zix,trivial⟩ ?_;intro vs r hwf h;unfold NO at h;split at h
 ·rename_i b i a;replace h:=IN h;obtain ⟨b,rfl,h⟩:=h;cases hg:(GZ i) with
  | false=>rw [hg] at h; simp [R.get] at h
  | true=>
  rw [hg,R.get_br,DE,R.get_ok] at h;refine ⟨0,?_⟩;rw [← h];rcases Co hg with rfl | rfl | rfl | rfl | rfl <;> kernel_rfl
 ·simp [R.get] at h
theorem Kl:DS PR B0 97 V7:=by
 refine D2 [] [] V7 [[.bool]] Tryz.func97 zbL trivial ?_;intro vs r hwf h;unfold V7 at h;split at h
 ·rename_i q;replace h:=I0 h;obtain ⟨q,rfl,h⟩:=h;rw [R.get_ok] at h;refine ⟨0,?_⟩;rw [← h];refine (zeE 0 q).trans ?_;unfold G0;cases (q.k==3) <;> cases decide (q.ft≥0) <;> rfl
 ·simp [R.get] at h
theorem lP:DS PR B0 241 PJ:=by
 refine D2 [] [] PJ [[.bool]] Tryz.func241 za8 trivial ?_;intro vs r hwf h;unfold PJ at h;split at h
 ·rename_i q;replace h:=I0 h;obtain ⟨q,rfl,h⟩:=h;rw [R.get_ok] at h;refine ⟨0,?_⟩;rw [← h];refine (zd1 0 q).trans ?_;unfold G0;cases (q.k==3) <;> cases decide (q.ft≥0) <;> rfl
 ·simp [R.get] at h
theorem PY {q:Qy} (h:G0 q=true):q.ft=0∨q.ft=1∨q.ft=2∨q.ft=3:=by
 unfold G0 at h;simp only [AI,AP] at h;omega
theorem zhR:DS PR B0 242 bS:=by
 refine D2 [(241,PJ)] [] bS [[.z,.z,.z,.z,.z,.z,.z,.z,.z,.z]] Tryz.func242 za5 ⟨lP,trivial⟩ ?_;intro vs r hwf h;unfold bS at h;split at h
 ·rename_i q b;replace h:=I0 h;obtain ⟨q,rfl,h⟩:=h;replace h:=IN h;obtain ⟨b,rfl,h⟩:=h;rw [R.get_ok] at h;refine ⟨0,?_⟩;rw [← h];refine (zdY 0 q b).trans ?_;unfold JP;cases G0 q <;> rfl
 ·simp [R.get] at h
theorem zhT:DS PR B0 243 bU:=by
 refine D2 [(241,PJ)] [] bU [[.z,.z,.z,.z,.z,.z,.z,.z,.z,.z]] Tryz.func243 za7 ⟨lP,trivial⟩ ?_;intro vs r hwf h;unfold bU at h;split at h
 ·rename_i q b;replace h:=I0 h;obtain ⟨q,rfl,h⟩:=h;replace h:=IN h;obtain ⟨b,rfl,h⟩:=h;rw [R.get_ok] at h;refine ⟨0,?_⟩;rw [← h];refine (zd0 0 q b).trans ?_;unfold JR;cases hp:G0 q with
  | false=>rfl
  | true=>rcases PY hp with e | e | e | e <;> rw [e] <;> rfl
 ·simp [R.get] at h
theorem zhS:DS PR B0 209 bT:=by
 refine D2 [(174,KV),(241,PJ)] [] bT [[.bool]] Tryz.func209 za6 ⟨XR,lP,trivial⟩ ?_;intro vs r hwf h;unfold bT at h;split at h
 ·rename_i q b;replace h:=I0 h;obtain ⟨q,rfl,h⟩:=h;replace h:=IN h;obtain ⟨b,rfl,h⟩:=h;rw [R.get_ok] at h;refine ⟨0,?_⟩;rw [← h];refine (zdZ 0 q b).trans ?_;unfold NA;cases hp:G0 q with
  | false=>rfl
  | true=>cases b.emp <;> rcases PY hp with e | e | e | e <;> rw [e] <;> rfl
 ·simp [R.get] at h
theorem lQ:DS PR B0 38 PK:=by
 refine D2 [(97,V7)] [] PK [[.z,.z,.z,.z,.z,.z,.z,.z,.z,.z]] Tryz.func38 zbJ ⟨Kl,trivial⟩ ?_;intro vs r hwf h;unfold PK at h;split at h
 ·rename_i q;replace h:=I0 h;obtain ⟨q,rfl,h⟩:=h;rw [R.get_ok] at h;refine ⟨0,?_⟩;rw [← h];refine (zeC 0 q).trans ?_;unfold EV;cases hp:G0 q with
  | false=>rfl
  | true=>rcases PY hp with e | e | e | e <;> rw [e] <;> rfl
 ·simp [R.get] at h
theorem zik:DS PR B0 128 cT:=by
 refine D2 [(97,V7)] [] cT [[.z,.z,.z,.z]] Tryz.func128 zbI ⟨Kl,trivial⟩ ?_;intro vs r hwf h;unfold cT at h;split at h
 ·rename_i q p t;replace h:=I0 h;obtain ⟨q,rfl,h⟩:=h;replace h:=X4 h;obtain ⟨p,rfl,h⟩:=h;rw [R.get_ok] at h;refine ⟨0,?_⟩;rw [← h];refine (zeB 0 q p t).trans ?_;unfold I6;cases hp:G0 q with
  | false=>rfl
  | true=>rcases PY hp with e | e | e | e <;> rw [e] <;> rfl
 ·simp [R.get] at h
def XN (d i:Int) (s:Sp) (rest:DJ):DJ:=
 cond (decide (i≥d)) (cond (!((s.lo==0)&&((s.hi==0)&&true))) (some (.bool false,[])) (cond s.emp (some (.bool false,[])) (cond (!(EZ s.lo)) (some (.bool false,[])) (cond (!(EZ s.hi)) (some (.bool false,[])) rest))))
  (cond s.emp (some (.bool false,[])) (cond (!(EZ s.lo)) (some (.bool false,[])) (cond (!(EZ s.hi)) (some (.bool false,[])) rest)))
theorem fX (d i:Int) (s:Sp) (rest:DJ):XN d i s rest=cond (KR d i s) rest (some (.bool false,[])):=by
 unfold XN KR;rw [CJ];cases decide (i≥d) <;> cases ((s.lo==0)&&(s.hi==0)) <;> cases s.emp <;> cases EZ s.lo <;> cases EZ s.hi <;> rfl
theorem zg6 (b:Bx) (d:Int):DV (Rx 6) yK [.tmp 4] [[.bool]] [b.V,.int .i64 d]=XN d 0 b.s0 (XN d 1 b.s1 (XN d 2 b.s2 (XN d 3 b.s3 (XN d 4 b.s4 (some (.bool true,[])))))):=by kernel_rfl
theorem zim:DS PR B0 146 cV:=by
 refine D2 [(106,RW),(191,V9)] [(2,⟨[1,4,7,8],[],[]⟩)] cV [[.bool]] Tryz.func146 zbM ⟨sT,Kn,trivial⟩ ?_;intro vs r hwf h;unfold cV at h;split at h
 ·rename_i b d;replace h:=IN h;obtain ⟨b,rfl,h⟩:=h;rw [R.get_ok] at h;refine ⟨6,?_⟩;rw [← h];refine (zg6 b d).trans ?_;rw [fX,fX,fX,fX,fX];unfold P0;cases KR d 0 b.s0 <;> cases KR d 1 b.s1 <;> cases KR d 2 b.s2 <;> cases KR d 3 b.s3 <;> cases KR d 4 b.s4 <;> rfl
 ·simp [R.get] at h
theorem zil:DS PR B0 147 cU:=by
 refine D2 [] [] cU [[.bool]] Tryz.func147 zbK trivial ?_;intro vs r hwf h;unfold cU at h;split at h
 ·rename_i m q;replace h:=IO h;obtain ⟨m,rfl,h⟩:=h;replace h:=I0 h;obtain ⟨q,rfl,h⟩:=h;rw [R.get_ok] at h;refine ⟨0,?_⟩;rw [← h];refine (zeD 0 m q).trans ?_;unfold Q3;cases (q.k==1) <;> cases (q.k==2) <;> cases (q.k==3) <;> cases decide (q.lo≤q.hi) <;> cases (q.ft==0) <;> cases decide (m.c≥2) <;> cases (q.lo==0) <;> cases (q.hi==0) <;> cases decide (q.ft≥0) <;> cases decide (q.ft < m.d) <;> rfl
 ·simp [R.get] at h
theorem ZY:DS PR B0 93 L8:=by
 refine D2 [(49,L6),(147,cU),(146,cV)] [] L8 [[.bool]] Tryz.func93 zbH ⟨ZW,zil,zim,trivial⟩ ?_;intro vs r hwf h;unfold L8 at h;split at h
 ·rename_i m q;replace h:=IO h;obtain ⟨m,rfl,h⟩:=h;replace h:=I0 h;obtain ⟨q,rfl,h⟩:=h;rw [R.get_ok] at h;refine ⟨0,?_⟩;rw [← h];refine (zeA 0 m q).trans ?_;unfold FH Qy.bx;generalize P0 _ _=rg;cases EP m <;> cases decide (q.c≥0) <;> cases decide (q.c < m.c) <;> cases decide (q.bu≥0) <;> cases decide (q.bu≤65536) <;> cases rg <;> rfl
 ·simp [R.get] at h
theorem qP {w:Int} (hb:F6 w=true) (hl:(DH w).lf=false):(0≤(DH w).f∧(DH w).f < 4)∧(1≤(DH w).l∧(DH w).l < 31)∧(1≤(DH w).r∧(DH w).r < 31)∧EZ (DH w).a=true:=by
 have h:=(kT hb).2;unfold MN at h;rw [hl,DG] at h;unfold QV at h;simp only [AI,AP] at h;exact ⟨⟨h.2.1,h.2.2.1⟩,h.2.2.2.2.1,h.2.2.2.2.2,h.2.2.2.1⟩
theorem Fh (w:Int):EZ (DH w).v=true:=by
 cases hb:F6 w with
 | false=>
  have e:DH w=Nd.zero:=by unfold DH; rw [hb]; rfl
  rw [e];rfl
 | true=>
  have h:=(kT hb).2;unfold MN at h;cases hl:(DH w).lf with
  | true=>
   rw [hl,DE,AI] at h;exact h.2
  | false=>
   rw [hl,DG,AI,B8] at h;rw [h.1];rfl
abbrev uR (l:LI) (p:Pt) (a j:Int):St:=
 ⟨[(0,(.list false [(.int .u64)] l)),(3,(.ptr 3 0 0)),(4,(.int .i64 0)),(5,(.ptr 5 0 0)),(6,(.int .i64 a)),(9,(.int .i64 j))],[(3,(some (.box (Pt.cs p)))),(5,(some (.box [(.bool false),(.int .i64 0),(.int .i64 0),(.int .i64 0),(.int .i64 0),(.int .i64 0)])))]⟩
theorem oK (N:Nat) (l:LI) (p:Pt):∀ (m j n:Nat) (a:Int),0≤a→j+m=31→m < n →
  DT (KB N) (DF NV [1,1,0,1,0,0]) ⟨[0,3,4,5,6,9],[3,5],[]⟩ n (uR l p a (j:Int)) (DM 0 (DN (KB N) (DF NV [1,1,1]) (DP (KB N) none [(CD 4),(va5 5 108)] [[.z],[.bool,.z,.z,.z,.z,.z]]))) =
   some (.tup [.int .i64 (IF l p m a).1,(IF l p m a).2.V],[])
 | m,j,0,a,_,_,h=>absurd h (by omega)
 | 0,j,n+1,a,ha,hd,_=>by
  have hj:j=31:=by omega
  subst hj;rw [DX,Ni,AL (show ¬ ((31:Nat):Int) < 31 by omega),DG];exact Be N p l _ _ _ _ _ _ _ _ _
 | m+1,j,n+1,a,ha,hd,hn=>by
  have ej:AA AB ((j:Int)+1)=((j+1:Nat):Int):=GQ (by omega);rw [DX,Ni,AE (show (j:Int) < 31 by omega),DE,IF,ej];cases hge:decide (a≥ic l.length) with
  | true=>
   rw [DE,DE];exact Be N p l _ _ _ _ _ _ _ _ _
  | false=>
   have hge:=BH hge;rw [DG,DG,AE ha,AE (show a < ic l.length by omega),BY,DE];generalize (l.getD a.toNat default).toInt=w;cases hb:F6 w with
   | false=>
    rw [A6,DE,DE];exact Zp N p l _ _ _ _ _ _ _ _ _
   | true=>
    rw [A1,DG,DG];cases hl:(DH w).lf with
    | true=>
     rw [DE,DE];rfl
    | false=>
     obtain ⟨⟨f0,f4⟩,⟨l1,l31⟩,⟨r1,r31⟩,_⟩:=qP hb hl;rw [DG,DG];have step:∀ c:Bool,(cond c (DT (KB N) (DF NV [1,1,0,1,0,0]) ⟨[0,3,4,5,6,9],[3,5],[]⟩ n (uR l p (DH w).l ((j+1:Nat):Int)) (DM 0 (DN (KB N) (DF NV [1,1,1]) (DP (KB N) none [(CD 4),(va5 5 108)] [[.z],[.bool,.z,.z,.z,.z,.z]]))))
       (DT (KB N) (DF NV [1,1,0,1,0,0]) ⟨[0,3,4,5,6,9],[3,5],[]⟩ n (uR l p (DH w).r ((j+1:Nat):Int)) (DM 0 (DN (KB N) (DF NV [1,1,1]) (DP (KB N) none [(CD 4),(va5 5 108)] [[.z],[.bool,.z,.z,.z,.z,.z]]))))) =
       some (.tup [.int .i64 (cond c (IF l p m (DH w).l) (IF l p m (DH w).r)).1,(cond c (IF l p m (DH w).l) (IF l p m (DH w).r)).2.V],[]):=fun c=>by
      cases c with
      | true=>exact oK N l p m (j+1) n (DH w).l (by omega) (by omega) (by omega)
      | false=>exact oK N l p m (j+1) n (DH w).r (by omega) (by omega) (by omega)
     obtain e | e | e | e:(DH w).f=0∨(DH w).f=1∨(DH w).f=2∨(DH w).f=3:=by omega
     all_goals
      rw [e];exact step _
theorem ziG:DS PR B0 248 dG:=by
 refine D2 [(51,L7)] [(3,⟨[0,3,4,5,6,9],[3,5],[]⟩)] dG [[.z],[.bool,.z,.z,.z,.z,.z]] Tryz.func248 zcc ⟨ZX,trivial⟩ ?_;intro vs r hwf h;unfold dG at h;split at h
 ·rename_i l p;replace h:=X4 h;obtain ⟨p,rfl,h⟩:=h;rw [R.get_ok] at h;refine ⟨32,?_⟩;rw [← h];exact (ze8 32 l p).trans (oK 32 l p 31 0 32 0 (by omega) rfl (by omega))
 ·simp [R.get] at h
theorem ziF:DS PR B0 221 dF:=by
 refine D2 [(248,dG)] [] dF [[.z]] Tryz.func221 zcb ⟨ziG,trivial⟩ ?_;intro vs r hwf h;unfold dF at h;split at h
 ·rename_i l p;replace h:=X4 h;obtain ⟨p,rfl,h⟩:=h;rw [R.get_ok] at h;exact ⟨0,(ze7 0 l p).trans h⟩
 ·simp [R.get] at h
theorem M4 {n:Int} (h:EZ n=true) : -2147483648≤n∧n≤2147483647:=by
 unfold EZ at h;simpa only [AI,AP] using h
theorem oJ (l:LI) (p:Pt):∀ (n:Nat) (a:Int),EZ (IF l p n a).2.v=true
 | 0,_=>rfl
 | n+1,a=>by
  rw [IF];cases decide (a≥ic l.length) with
  | true=>rfl
  | false=>
   rw [DG];generalize (l.getD a.toNat default).toInt=w;cases F6 w with
   | false=>rfl
   | true=>
    rw [A1,DG];cases (DH w).lf with
    | true=>exact Fh w
    | false=>
     rw [DG];cases decide (p.g (DH w).f.toNat≤(DH w).a) with
     | true=>exact oJ l p n _
     | false=>exact oJ l p n _
theorem zjv (l:LI) (p:Pt) : -2147483648≤G1 l p∧G1 l p≤2147483647:=M4 (oJ l p 31 0)
theorem LT {m:Md} (h:EP m=true):(1≤m.d∧m.d≤4)∧(1≤m.c∧m.c≤3)∧m.ts.length≤8∧(EZ m.b0=true∧EZ m.b1=true∧EZ m.b2=true)∧m.ts.all (G8 m.d m.c)=true:=by
 unfold EP HE at h;simp only [AI,B5,BV] at h;obtain ⟨⟨h1,h2,h3,h4,h5⟩,⟨h6,h7,h8⟩,h9⟩:=h;exact ⟨⟨by omega,by omega⟩,⟨by omega,by omega⟩,AM h5,⟨h6.1,h7.1,h8.1⟩,h9⟩
theorem zL {m:Md} {k:Int} (h:HX m k=true):0≤k∧k < m.c:=by
 unfold HX at h;simpa only [AI,AP] using h
theorem nT {m:Md} {k:Int} (hm:EP m=true) (h:HX m k=true):k=0∨k=1∨k=2:=by
 have:=zL h
 have:=(LT hm).2.1
 omega
theorem iO {m:Md} (hm:EP m=true) (k:Int) : -2147483648≤LD m k∧LD m k≤2147483647:=by
 obtain ⟨h0,h1,h2⟩:=(LT hm).2.2.2.1;unfold LD;cases (k==0) with
 | true=>exact M4 h0
 | false=>
  cases (k==1) with
  | true=>exact M4 h1
  | false=>exact M4 h2
abbrev zjU (ts:LI) (p:Pt) (k s i:Int):St:=
 ⟨[(1,(.int .i64 k)),(5,(.ptr 5 0 0)),(6,(.int .i64 0)),(7,(.int .i64 s)),(15,(.list true [.z,(.list false [(.int .u64)])] ts)),(16,(.int .i64 (ic (AF ts)))),(17,(.int .i64 i))],[(5,(some (.box (Pt.cs p))))]⟩
theorem oQ (N:Nat) (ts:LI) (p:Pt) (k:Int) (hts:ts.length≤8):∀ (m i n:Nat) (s:Int),i+m=ts.length→m < n → -2147483648*(i+1)≤s∧s≤2147483648*(i+1) →
  DT (LA N) (DF OQ [1,1,0,1,0,0]) ⟨[1,5,6,7,15,16,17],[5],[]⟩ n (zjU ts p k s (i:Int)) (DM 0 (DN (LA N) (DF OQ [1,1,1]) (DP (LA N) none [(CD 6)] [[.z]]))) =
   some (.int .i64 (PW k p (ts.drop i) s),[])
 | m,i,0,s,_,h,_=>absurd h (by omega)
 | 0,i,n+1,s,hd,_,_=>by
  have hi:i=ts.length:=by omega
  subst hi;rw [DX,Mu,IT (AW _),DG,vad];exact Ys N p _ _ _ _ _ _
 | m+1,i,n+1,s,hd,hn,hs=>by
  have hi:i < ts.length:=by omega
  have ei:AA AB ((i:Int)+1)=((i+1:Nat):Int):=GQ (by omega);rw [DX,Mu,ei,H0 hi,DE,IH,BY,DE,IS hi,BF hi,PW];have hv:=zjv (E5 ts[i]) p;cases hc:((ts[i].cell 0).toInt==k) with
  | true=>
   rw [DE,DE];have ew:AA AB (s+G1 (E5 ts[i]) p)=s+G1 (E5 ts[i]) p:=EI (by omega) (by omega);have ih:=oQ N ts p k hts m (i+1) n (s+G1 (E5 ts[i]) p) (by omega) (by omega) (by omega);rw [← ew] at ih;refine Eq.trans ih ?_;rw [ew]
  | false=>
   rw [DG,DG];exact oQ N ts p k hts m (i+1) n s (by omega) (by omega) (by omega)
theorem zic:DS PR B0 182 cL:=by
 refine D2 [(221,dF)] [(3,⟨[1,5,6,7,15,16,17],[5],[]⟩)] cL [[.z]] Tryz.func182 zbw ⟨ziF,trivial⟩ ?_;intro vs r hwf h;unfold cL at h;split at h
 ·rename_i m k p;replace h:=IO h;obtain ⟨m,rfl,h⟩:=h;replace h:=X4 h;obtain ⟨p,rfl,h⟩:=h;cases hg:(EP m&&HX m k) with
  | false=>rw [hg] at h; simp [R.get] at h
  | true=>
  rw [hg,R.get_br,DE,R.get_ok] at h;rw [AI] at hg;have hb:=iO hg.1 k;have run:=oQ 10 m.ts p k (LT hg.1).2.2.1 m.ts.length 0 10 (LD m k) (by omega) (by have:=(LT hg.1).2.2.1; omega) (by omega);refine ⟨10,?_⟩;rw [← h];refine (zep 10 m k p).trans ?_;rcases nT hg.1 hg.2 with rfl | rfl | rfl <;> exact run
 ·simp [R.get] at h
theorem zia:DS PR B0 126 cJ:=by
 refine D2 [(49,L6),(182,cL)] [] cJ [[.z]] Tryz.func126 zbs ⟨ZW,zic,trivial⟩ ?_;intro vs r hwf h;unfold cJ at h;split at h
 ·rename_i m k p;replace h:=IO h;obtain ⟨m,rfl,h⟩:=h;replace h:=X4 h;obtain ⟨p,rfl,h⟩:=h;rw [R.get_ok] at h;refine ⟨0,?_⟩;rw [← h];refine (zel 0 m k p).trans ?_;unfold EN HX;cases EP m with
  | false=>rfl
  | true=>
   cases h0:decide (k < 0) with
   | true=>rw [AL (show ¬ 0≤k by have:=A0 h0; omega)]; rfl
   | false=>
    rw [AE (show 0≤k by have:=BH h0; omega)];cases h1:decide (k≥m.c) with
    | true=>rw [AL (show ¬ k < m.c by have:=A0 h1; omega)]; rfl
    | false=>rw [AE (show k < m.c by have:=BH h1; omega)]; rfl
 ·simp [R.get] at h
abbrev zjN (m:Md) (q:Qy) (p:Pt) (own i:Int):St:=
 ⟨[(4,(.ptr 4 0 0)),(5,(.ptr 5 0 0)),(6,(.ptr 6 0 0)),(8,(.bool false)),(9,(.int .i64 own)),(36,(.int .i64 (Md.c m))),(37,(.int .i64 i))],[(4,(some (.box (Md.cs m)))),(5,(some (.box (Qy.cs q)))),(6,(some (.box (Pt.cs p))))]⟩
def dM (m:Md) (q:Qy) (p:Pt) (own:Int):Nat→Nat→Bool
 | 0,_=>false
 | d+1,i=>(!((i:Int)==q.c)&&decide (EN m (i:Int) p≥own))||dM m q p own d (i+1)
theorem vB (m:Md) (q:Qy) (p:Pt) (own:Int):∀ d i,dM m q p own d i=(List.range' i d).any fun c=>!((c:Int)==q.c)&&decide (EN m (c:Int) p≥own)
 | 0,_=>rfl
 | d+1,i=>by rw [dM,vB m q p own d (i+1),List.range'_succ,List.any_cons]
theorem wB (N:Nat) (m:Md) (q:Qy) (p:Pt) (own:Int) (hc:0≤m.c∧m.c≤3):∀ (d i n:Nat),((i+d:Nat):Int)=m.c→d < n →
  DT (LB N) (DF NU [1,1,1,0,1,0,1,1,1,0,0,1,0,0]) ⟨[4,5,6,8,9,36,37],[4,5,6],[]⟩ n (zjN m q p own (i:Int)) (DM 1 (DN (LB N) (DF NU [1,1,1,0,1,0,1,1,1,0,1]) (DM 0 (DN (LB N) (DF NU [1,1,1,1]) (DP (LB N) none [(CD 8)] [[.bool]]))))) =
   some (.bool (dM m q p own d i),[])
 | d,i,0,_,h=>absurd h (by omega)
 | 0,i,n+1,hd,_=>by
  rw [DX,Mx,AL (show ¬ (i:Int) < m.c by omega),DG];exact Yw N m q p _ _ _ _
 | d+1,i,n+1,hd,hn=>by
  have ei:AA AB ((i:Int)+1)=((i+1:Nat):Int):=GQ (by omega);rw [DX,Mx,ei,AE (show (i:Int) < m.c by omega),DE,dM];have ih:=wB N m q p own hc d (i+1) n (by omega) (by omega);have en:((i:Int) != q.c)=!((i:Int)==q.c):=rfl;rw [en];cases ((i:Int)==q.c) with
  | true=>exact ih
  | false=>
   rw [A6,DE,BC];cases decide (EN m (i:Int) p≥own) with
   | true=>exact Yx N m q p _ _ _ _
   | false=>exact ih
theorem UU {m:Md} {q:Qy} (h:FH m q=true):EP m=true∧(0≤q.c∧q.c < m.c)∧(0≤q.bu∧q.bu≤65536)∧P0 q.bx m.d=true∧Q3 m q=true:=by
 unfold FH at h;simp only [AI,AP] at h;exact ⟨h.1,⟨h.2.1,h.2.2.1⟩,⟨h.2.2.2.1,h.2.2.2.2.1⟩,h.2.2.2.2.2.1,h.2.2.2.2.2.2⟩
theorem eQ {m:Md} {q:Qy} (h:Q3 m q=true):(q.k=1∧q.lo≤q.hi∧q.ft=0∧q.fl=false)∨(q.k=2∧2≤m.c∧q.lo=0∧q.hi=0∧q.ft=0∧q.fl=false)∨(q.k=3∧(0≤q.ft∧q.ft < m.d)∧q.lo=0∧q.hi=0):=by
 unfold Q3 at h;cases h1:(q.k==1) with
 | true=>
  rw [h1,DE] at h;simp only [AI,AP,B8,B5] at h;exact .inl ⟨B8.1 h1,h⟩
 | false=>
  rw [h1,DG] at h;cases h2:(q.k==2) with
  | true=>
   rw [h2,DE] at h;simp only [AI,AP,B8,B5,ge_iff_le] at h;exact .inr (.inl ⟨B8.1 h2,h⟩)
  | false=>
   rw [h2,DG] at h;cases h3:(q.k==3) with
   | true=>
    rw [h3,DE] at h;simp only [AI,AP,B8,ge_iff_le] at h;exact .inr (.inr ⟨B8.1 h3,⟨h.1,h.2.1⟩,h.2.2⟩)
   | false=>rw [h3,DG] at h; cases h
theorem s8:DS PR B0 62 R6:=by
 refine D2 [(126,cJ),(93,L8),(128,cT),(127,WA)] [(9,⟨[4,5,6,8,9,36,37],[4,5,6],[]⟩)] R6 [[.bool]] Tryz.func62 zbG ⟨zia,ZY,zik,Ko,trivial⟩ ?_;intro vs r hwf h;unfold R6 at h;split at h
 ·rename_i m q p t;replace h:=IO h;obtain ⟨m,rfl,h⟩:=h;replace h:=I0 h;obtain ⟨q,rfl,h⟩:=h;replace h:=X4 h;obtain ⟨p,rfl,h⟩:=h;rw [R.get_ok] at h;refine ⟨10,?_⟩;rw [← h];refine (zez 10 m q p t).trans ?_;unfold GJ;cases hr:FH m q with
  | false=>rfl
  | true=>
   obtain ⟨hm,_,_,_,hk⟩:=UU hr;have hmp:=LT hm;rw [A1,DG,BC];cases h1:(q.k==1) with
   | true=>rfl
   | false=>
    rw [DG,DG];cases h2:(q.k==2) with
    | true=>
     rw [DE,DE];refine (wB 10 m q p _ (by omega) m.c.toNat 0 10 (by omega) (by omega)).trans ?_;rw [vB,← List.range_eq_range'];rfl
    | false=>
     rw [DG,DG];rcases eQ hk with ⟨e,_⟩ | ⟨e,_⟩ | ⟨_,⟨f0,fd⟩,_⟩
     ·rw [e] at h1; cases h1
     ·rw [e] at h2; cases h2
     ·have step:∀ x:Int,cond (decide (x≥t)) (some (V.bool false,[])) (cond q.fl (some (V.bool (decide (EN m q.c (I6 q p t) > EN m q.c p)),[])) (some (V.bool (decide (EN m q.c (I6 q p t) < EN m q.c p)),[]))) =
        some (V.bool (cond (decide (x≥t)) false (cond q.fl (decide (EN m q.c (I6 q p t) > EN m q.c p)) (decide (EN m q.c (I6 q p t) < EN m q.c p)))),([]:List (List V))):=fun x=>by
       cases decide (x≥t) with
       | true=>rfl
       | false=>cases q.fl <;> rfl
      obtain e | e | e | e:q.ft=0∨q.ft=1∨q.ft=2∨q.ft=3:=by omega
      all_goals
       rw [e];exact step _
 ·simp [R.get] at h
open Go Go.Proofs Go.RowKit Go.Sort
theorem pD (x:Int):∀ l,(W0 x l).Perm (x :: l)
 | []=>vbF _
 | y :: r=>by
  rw [W0];cases decide (x≤y) with
  | true=>exact vbF _
  | false=>exact ((pD x r).cons y).trans (List.Perm.swap x y r)
theorem S2:∀ l,(KO l).Perm l
 | []=>vbF _
 | x :: r=>(pD x (KO r)).trans ((S2 r).cons x)
theorem Cs (x:Int):∀ {l:List Int},l.Pairwise (·≤·)→(W0 x l).Pairwise (·≤·)
 | [],_=>by simp [W0]
 | y :: r,h=>by
  rw [W0];cases hd:decide (x≤y) with
  | true=>
   have hd:=A0 hd;rw [DE];rw [vby] at h ⊢;refine ⟨fun z hz=>?_,by rw [vby]; exact h⟩;rcases AS.1 hz with rfl | hz
   ·exact hd
   ·exact Int.le_trans hd (h.1 z hz)
  | false=>
   have hd:=BH hd;rw [DG];rw [vby] at h ⊢;refine ⟨fun z hz=>?_,Cs x h.2⟩;rcases AS.1 ((pD x r).mem_iff.1 hz) with rfl | hz
   ·omega
   ·exact h.1 z hz
theorem tE:∀ l,(KO l).Pairwise (·≤·)
 | []=>List.Pairwise.nil
 | x :: r=>Cs x (tE r)
theorem zc5 (l:List Int):(l.mergeSort fun x y=>decide (x≤y))=KO l:=by
 refine List.Perm.eq_of_pairwise (le:=(·≤·)) (fun a b _ _ h1 h2=>Int.le_antisymm h1 h2) ?_ (tE l) ((List.mergeSort_perm l _).trans (S2 l).symm)
 have:=List.pairwise_mergeSort (le:=fun (x y:Int)=>decide (x≤y)) (fun a b c h1 h2=>AE (Int.le_trans (A0 h1) (A0 h2))) (fun a b=>by
  rcases Int.le_total a b with h | h
  ·rw [AE h]; rfl
  ·rw [AE h,Bool.or_true]) l
 exact this.imp fun h=>by simpa using h
theorem zO (x:Int):∀ (l:List Int) (p:Int),JX p (l++[x])=JX p l++cond ((l.getLast?.getD p)==x) [] [x]
 | [],p=>by
  show cond (x==p) (JX x []) (x :: JX x [])=_;rw [show ((([]:List Int).getLast?.getD p)==x)=(x==p) by show (p==x)=(x==p); rw [va3,B8,B8]; exact eq_comm];cases (x==p) <;> rfl
 | y :: r,p=>by
  rw [C3,JX,JX,zO x r y];have e:((y :: r).getLast?.getD p)=r.getLast?.getD y:=by
   cases r with
   | nil=>rfl
   | cons z r=>rw [List.getLast?_cons_cons,List.getLast?_eq_some_getLast (List.cons_ne_nil z r)]; rfl
  rw [e];cases (y==p) <;> rfl
theorem Vp (x:Int) (l:List Int):I2 (l++[x])=I2 l++cond (l.getLast?==some x) [] [x]:=by
 cases l with
 | nil=>rfl
 | cons y r=>
  rw [C3,I2,I2,zO,C3];congr 2
  have:((y :: r).getLast?==some x)=(r.getLast?.getD y==x):=by
   cases r with
   | nil=>show (some y==some x)=(y==x); rw [va3]; simp
   | cons z r=>rw [List.getLast?_cons_cons,List.getLast?_eq_some_getLast (List.cons_ne_nil z r)]; rw [va3]; simp
  rw [this]
theorem Vq (l:List Int):Lib.compact l=I2 l:=by
 have key:∀ m,m≤l.length→vbn l.toArray m=I2 (l.take m):=by
  intro m
  induction m with
  | zero=>intro _; rfl
  | succ m ih=>
   intro hm;have e1:vbn l.toArray (m+1)=vbn l.toArray m++cond (Lib.keeps l.toArray m) [l.toArray[m]!] []:=by
    unfold vbn;rw [List.range_succ,List.filter_append,List.map_append];congr 1;cases hk:Lib.keeps l.toArray m <;> simp [hk]
   have hml:m < l.length:=by omega
   have e2:l.toArray[m]! = l[m]:=by simp [hml]
   rw [e1,ih (by omega),List.take_succ_eq_append_getElem hml,Vp,e2];congr 1;cases m with
   | zero=>simp [Lib.keeps]
   | succ k=>
    have hk:k < l.length:=by omega
    have e3:(l.take (k+1)).getLast?=some l[k]:=by rw [List.getLast?_take]; simp [hk]
    rw [e3];have e4:l.toArray[k]! = l[k]:=by simp [hk]
    cases hq:Lib.keeps l.toArray (k+1) with
    | true=>
     have:¬ (l[k+1]=l[k]):=fun he=>by
      rw [Lib.keeps_neg (Nat.succ_pos k) (by show l.toArray[k+1]! = l.toArray[k]!; rw [e2,e4]; exact he)] at hq;cases hq
     rw [DE];rw [show (some l[k]==some l[k+1])=false by simp; exact fun h=>this h.symm];rfl
    | false=>
     have:l[k+1]=l[k]:=by
      by_cases he:l[k+1]=l[k]
      ·exact he
      ·rw [Lib.keeps_pos (by show l.toArray[k+1]!≠l.toArray[k]!; rw [e2,e4]; exact he)] at hq;cases hq
     rw [DG,this];rw [show (some l[k]==some l[k])=true by simp];rfl
 unfold Lib.compact;rw [key _ (AW _),BI]
theorem zM:∀ (l:List Int) (p:Int),(JX p l).length≤l.length
 | [],_=>AW _
 | x :: r,p=>by
  have:=zM r x
  rw [JX];cases (x==p)
  ·rw [DG,AN,AN]; omega
  ·rw [DE,AN]; omega
theorem iX (l:List Int):(I2 l).length≤l.length:=by
 cases l with
 | nil=>exact AW _
 | cons x r=>rw [I2,AN,AN]; have:=zM r x; omega
theorem nU {p x:Int}:∀ {l:List Int},x∈JX p l→x∈l
 | [],h=>by cases h
 | y :: r,h=>by
  rw [JX] at h;cases hb:(y==p)
  ·rw [hb,DG] at h;rcases AS.1 h with h | h
   ·exact h ▸ AR ..
   ·exact AY _ (nU h)
  ·rw [hb,DE] at h;exact AY _ (nU h)
theorem zP {x:Int} {l:List Int} (h:x∈I2 l):x∈l:=by
 cases l with
 | nil=>cases h
 | cons y r=>
  rcases AS.1 h with h | h
  ·exact h ▸ AR ..
  ·exact AY _ (nU h)
theorem MF (l:List Int):(iZ l).length=l.length:=BQ ..
theorem o5 (l:List Int):(iZ l).map IV.toInt=l:=by
 unfold iZ;rw [List.map_map];exact List.map_id l
theorem nP (l:List Int):MC (iZ l)=l.map (Value.int .i64):=by
 unfold MC iZ;rw [List.map_map];rfl
theorem Vg (l:LI):MC l=(l.map IV.toInt).map (Value.int .i64):=by
 unfold MC;rw [List.map_map];rfl
abbrev JG:Int→Value:=Value.int .i64
theorem kY {w:World} {e g n cap:Nat} {zs:List Int} (h:w.ownsRow 0 e 1 (.slice (some ⟨g,0,none⟩) n cap) zs.length (zs.map JG)):n=zs.length∧n≤cap∧cap≤maxLen∧g < w.heap.size∧Holds JG w g 0 zs.toArray:=by
 rcases h.2 with ⟨h1,_⟩ | ⟨g',cap',cur,h1,_,h2,h3,h4,h5,h6⟩
 ·cases h1
 ·simp only [CM,AC,C5,B4] at h1;obtain ⟨rfl,rfl,rfl⟩:=h1;refine ⟨rfl,h3,h4,(C7.1 h2).1,fun j hj=>?_⟩;have hj':j < zs.length:=by simpa using hj
  rw [BJ];constructor
  ·have hc:cur[j]?=some (JG zs[j]):=by
    have:(cur.toList.take (zs.length*1))[j]?=some (JG zs[j]):=by rw [h6]; simp [hj']
    rw [CR,BR (by omega)] at this;simpa using this
   simp only [vaF,h2];simp [hc,hj']
  ·simp [World.frozen?,h2]
theorem zcg {w:World} {g:Nat} {cur:Array Value} {e:TypeId} {fr:Nat × Nat} (h:w.heap[g]?=some (.cells cur e fr)) (q:Nat) (os:Array Obj) (zs:List Int) :
  (grow (putRow JG (vbB w q) g 0 zs.toArray) os).heap[g]?=some (.cells (putCells JG 0 zs.toArray cur) e fr):=by
 have hg:g < w.heap.size:=(C7.1 h).1;have h0:(putRow JG (vbB w q) g 0 zs.toArray).heap[g]?=some (.cells (putCells JG 0 zs.toArray cur) e fr):=by
  unfold putRow mapBlock;simp [vaL,onCells,h]
 unfold grow;simp only;rw [Array.getElem?_append_left (by rw [size_putRow]; exact hg)];exact h0
theorem zgp {cur:Array Value} {zs:List Int} (h:zs.length≤cur.size):(putCells JG 0 zs.toArray cur).size=cur.size∧(putCells JG 0 zs.toArray cur).toList.take zs.length=zs.map JG:=by
 refine ⟨by simp [putCells],?_⟩;apply List.ext_getElem?;intro k;rw [CR];by_cases hk:k < zs.length
 ·rw [BR hk];have hc:k < cur.size:=by omega
  simp [putCells,hk,hc]
 ·rw [A9 hk];simp [hk]
theorem rG {w:World} {e g n cap:Nat} {zs:List Int} (h:w.ownsRow 0 e 1 (.slice (some ⟨g,0,none⟩) n cap) zs.length (zs.map JG)) (q:Nat) (os:Array Obj) (ys rest:List Int) (hl:(ys++rest).length=zs.length) :
  w.grownBy (grow (putRow JG (vbB w q) g 0 (ys++rest).toArray) os) (some g) ∧
   (grow (putRow JG (vbB w q) g 0 (ys++rest).toArray) os).ownsRow 0 e 1 (.slice (some ⟨g,0,none⟩) ys.length cap) ys.length (ys.map JG):=by
 have hh:=kY h;rcases h.2 with ⟨h1,_⟩ | ⟨g',cap',cur,h1,_,h2,h3,h4,h5,h6⟩
 ·cases h1
 ·simp only [CM,AC,C5,B4] at h1;obtain ⟨rfl,rfl,rfl⟩:=h1;rw [AU] at hl;have hcur:(ys++rest).length≤cur.size:=by rw [AU]; omega
  obtain ⟨p1,p2⟩:=zgp (zs:=ys++rest) hcur;refine ⟨⟨rfl,rfl,rfl,?_,fun k hk hne=>?_⟩,by simp,.inr ⟨g,cap,_,rfl,B7 _,zcg h2 q os _,by omega,h4,by rw [p1,h5],?_⟩⟩
  ·show w.heap.size≤((putRow JG (vbB w q) g 0 (ys++rest).toArray).heap++os).size;rw [Array.size_append,size_putRow];exact Nat.le_add_right _ _
  ·have hne':g≠k:=fun e=>hne (by rw [e])
   unfold grow;simp only;rw [Array.getElem?_append_left (by rw [size_putRow]; exact hk)];unfold putRow mapBlock;simp [vaL,hne']
  ·rw [Nat.mul_one]
   have:=congrArg (AK ys.length) p2
   rw [List.take_take,vaD (by rw [AU]; omega),List.map_append,List.take_left' (by simp)] at this;exact this
theorem Cf (w:World) (r:Option Nat):w.grownBy w r:=⟨rfl,rfl,rfl,AW _,fun _ _ _=>rfl⟩
theorem sH {l:LI} (h:∀ x∈l,AB.min≤x.toInt∧x.toInt≤AB.max) {ys:List Int} (hs:∀ y∈ys,y∈l.map IV.toInt):∀ x∈iZ ys,AB.min≤x.toInt∧x.toInt≤AB.max:=by
 intro x hx;obtain ⟨y,hy,rfl⟩:=CN.1 hx;obtain ⟨z,hz,hzy⟩:=CN.1 (hs y hy);show AB.min≤y∧y≤AB.max;rw [← hzy];exact h z hz
theorem rE {w:World} {e:Nat} {v:Value} {l:LI} (h:w.ownsRow 0 e 1 v l.length (MC l)):(v = .slice none 0 0∧l=[])∨∃ g cap,v = .slice (some ⟨g,0,none⟩) (l.map IV.toInt).length cap∧w.ownsRow 0 e 1 (.slice (some ⟨g,0,none⟩) (l.map IV.toInt).length cap) (l.map IV.toInt).length ((l.map IV.toInt).map JG):=by
 rcases h.2 with ⟨h1,h2⟩ | ⟨g,cap,cur,h1,_⟩
 ·exact .inl ⟨h1,List.length_eq_zero_iff.1 h2⟩
 ·rw [h1] at h;refine .inr ⟨g,cap,by rw [h1,BQ],?_⟩;rw [BQ,← Vg];exact h
theorem zh8:RV PR 194 jY:=by
 intro w v l l' rs ys hown hrng hlen hr hg;unfold jY at hg;simp only at hg;split at hg
 ·simp only [AC] at hg;subst hg;obtain rfl:ys=[]:=by
   cases ys with
   | nil=>rfl
   | cons y ys=>simp [US] at hr
  refine Does.of_calls Tryz.func194 (by kernel_rfl) (by kernel_rfl) ?_;have hmem:∀ y∈KO (l.map IV.toInt),y∈l.map IV.toInt:=fun y hy=>(S2 _).mem_iff.1 hy
  rcases rE hown with ⟨rfl,rfl⟩ | ⟨g,cap,rfl,ho⟩
  ·refine (Tryz.slices_Sort_int_none none 0 w).mono ?_;rintro e w' ⟨rfl,rfl⟩;exact ⟨_,rfl,Cf _ _,fun x hx=>(by cases hx),fun h=>(by cases h),fun _=>hown⟩
  ·obtain ⟨_,_,hcm,hgs,hH⟩:=kY ho;refine (Tryz.slices_Sort_int g 0 cap (l.map IV.toInt) w hH hgs (by rw [BQ]; unfold strMax at hlen; omega)).mono ?_;rintro e w' ⟨rfl,q,os,rfl⟩;rw [zc5];have hl:(KO (l.map IV.toInt)++[]).length=(l.map IV.toInt).length:=by rw [DB]; exact (S2 _).length_eq
   have hp:=rG ho q os (KO (l.map IV.toInt)) [] hl;rw [DB] at hp hl;refine ⟨_,rfl,hp.1,sH hrng hmem,fun h=>(by cases h),fun _=>?_⟩;rw [nP,MF,← hl];exact hp.2
 ·cases hg
theorem zh6:RV PR 195 jW:=by
 intro w v l l' rs ys hown hrng hlen hr hg;unfold jW at hg;simp only at hg;split at hg
 ·simp only [AC] at hg;subst hg;obtain rfl:ys=[]:=by
   cases ys with
   | nil=>rfl
   | cons y ys=>simp [US] at hr
  refine Does.of_calls Tryz.func195 (by kernel_rfl) (by kernel_rfl) ?_;rcases rE hown with ⟨rfl,rfl⟩ | ⟨g,cap,rfl,ho⟩
  ·refine (Tryz.slices_Compact_int_empty none 0 w).mono ?_;rintro e w' ⟨rfl,rfl⟩;exact ⟨_,rfl,Cf _ _,fun x hx=>(by cases hx),fun _=>⟨hown,fun b hb=>(by simp [CE] at hb)⟩,fun h=>by cases h⟩
  ·obtain ⟨_,hnc,hcm,hgs,hH⟩:=kY ho;refine (Tryz.slices_Compact_int g 0 cap (l.map IV.toInt) w hH (by rw [BQ]; unfold strMax at hlen; omega) hnc).mono ?_;rintro e w' ⟨rfl,q,rfl⟩;rw [Vq];have hlc:=iX (l.map IV.toInt);have hp:=rG ho q #[] (I2 (l.map IV.toInt)) (BN ((l.map IV.toInt).length - (I2 (l.map IV.toInt)).length) 0) (by rw [AU,List.length_replicate]; omega);rw [grow_empty] at hp;refine ⟨_,rfl,hp.1,sH hrng fun y hy=>zP hy,fun _=>⟨?_,fun b hb=>.inl hb⟩,fun h=>by cases h⟩;rw [nP,MF];exact hp.2
 ·cases hg
set_option maxHeartbeats 1000000 in
theorem Ae (a b x:Int) (B:Nat) (W:World) (ha:W.cell? ⟨B,0,none⟩=some (.int .i64 a)) (hb:W.cell? ⟨B,1,none⟩=some (.int .i64 b)) :
  FnGives Tryz.prog 152 #[.pointer (some ⟨B,0,none⟩)] #[.int .i64 x] (.bool (decide (x < a)||decide (x≥b))) W:=by
 show Calls Tryz.prog 152 #[.int .i64 x,.pointer (some ⟨B,0,none⟩)] W _
 go_enter Tryz.func152,Tryz.ntmps152
 go_wp2
 all_goals (go_ret; exact ⟨by simp_all,0,rfl⟩)
set_option maxHeartbeats 1000000 in
theorem Wl (fv:Value) (w:World):Calls Tryz.prog 150 #[.slice none 0 0,fv] w fun e w'=>e = .returned (.slice none 0 0)∧∃ q,w'=w.drewN q:=by
 go_enter Tryz.func150,Tryz.ntmps150
 go_wp2_with (go_at_call 193; refine (Tryz.slices_IndexFunc_empty (α:=Int) none 0 fv _).mono ?_; rintro e w' ⟨rfl,rfl⟩)
 go_ret
 exact ⟨rfl,0,rfl⟩
theorem zf7 {w:World} {v:Value} {f:Nat} {a b:Int} {ys:List Value} (h:US w v [.clo f [.bor [.int .i64 a,.int .i64 b]]] ys):∃ B,ys=[.func (.func f) #[] #[.pointer (some ⟨B,0,none⟩)]]∧B < w.heap.size∧w.cell? ⟨B,0,none⟩=some (.int .i64 a)∧w.cell? ⟨B,1,none⟩=some (.int .i64 b)∧v.ownBlock≠some B:=by
 cases ys with
 | nil=>simp [US] at h
 | cons y r=>
  cases r with
  | cons _ _=>simp [US] at h
  | nil=>
   simp only [US] at h;obtain ⟨B,c,T,rfl,hh,hc,hne⟩:=h;refine ⟨B,rfl,(C7.1 hh).1,?_,?_,hne⟩
   ·simp only [vaF,hh];rw [← vaC,hc];rfl
   ·simp only [vaF,hh];rw [← vaC,hc];rfl
theorem zh7:RV PR 150 jX:=by
 intro w v l l' rs ys hown hrng hlen hr hg;unfold jX at hg;simp only at hg;split at hg
 ·rename_i f a b;cases hf:BO f 152 with
  | false=>rw [hf,DG] at hg; cases hg
  | true=>
   rw [hf,DE,AC] at hg;subst hg;obtain rfl:=FL.1 hf;obtain ⟨B,rfl,hBs,ha,hb,hne⟩:=zf7 hr;have pe:KY a b (l.map IV.toInt)=(l.map IV.toInt).filter fun x=>!(decide (x < a)||decide (x≥b)):=rfl
   have eg:∀ args w,(callFunc 152 args).run Tryz.prog w = .ok (.enter 152 args) w:=enters_of Tryz.func152 (by kernel_rfl) rfl;have hp:PredAt Tryz.prog 152 #[.pointer (some ⟨B,0,none⟩)] JG (fun x=>decide (x < a)||decide (x≥b)) w:=
    fun W x hbw=>Ae a b x B W ((hbw.cell (p:=⟨B,0,none⟩) hBs).trans ha) ((hbw.cell (p:=⟨B,1,none⟩) hBs).trans hb)
   rcases rE hown with ⟨rfl,rfl⟩ | ⟨g,cap,rfl,ho⟩
   ·refine Does.of_calls Tryz.func150 (by kernel_rfl) (by kernel_rfl) ((Wl _ w).mono ?_);rintro e w' ⟨rfl,q,rfl⟩;exact ⟨_,rfl,⟨rfl,rfl,rfl,AW _,fun _ _ _=>rfl⟩,fun x hx=>(by cases hx),fun _=>⟨World.ownsRow_nil _ 0 _ _,fun b hb=>(by simp [CE] at hb)⟩,fun h=>by cases h⟩
   ·obtain ⟨_,hnc,hcm,hgs,hH⟩:=kY ho;have hBg:B≠g:=fun e=>hne (by rw [e]; rfl)
    have hpo:PredOver Tryz.prog 152 #[.pointer (some ⟨B,0,none⟩)] JG (fun x=>decide (x < a)||decide (x≥b)) g 0 (l.map IV.toInt).toArray.size w:=
     fun n os dk x _=>by
      have hcell:∀ o u,w.cell? ⟨B,o,none⟩=some u→(sortWorld JG w g 0 n dk os).cell? ⟨B,o,none⟩=some u:=fun o u hu=>by
       unfold sortWorld;rw [cell?_grow _ _ _ (by show B < (putRow _ _ _ _ _).heap.size; rw [size_putRow]; exact hBs),cell?_putRow_other _ _ g 0 _ _ (Or.inl hBg)];exact hu
      exact Ae a b x B _ (hcell 0 _ ha) (hcell 1 _ hb)
    refine Does.of_calls Tryz.func150 (by kernel_rfl) (by kernel_rfl) ?_;have hcall:=Tryz.slices_DeleteFunc JG (fun _=>rfl) (fun x=>decide (x < a)||decide (x≥b)) 152 #[.pointer (some ⟨B,0,none⟩)] eg 0 Tryz.zeroValue3 g 0 cap (l.map IV.toInt).toArray w hp hpo hH (by simp; unfold strMax at hlen; omega) (by simp; rw [BQ] at hnc; exact hnc);have es:(l.map IV.toInt).toArray.size=(l.map IV.toInt).length:=by simp
    rw [es] at hcall;refine hcall.mono ?_;rintro e w' ⟨rfl,q,rfl⟩;have ef:(l.map IV.toInt).toArray.toList.filter (fun x=>!(decide (x < a)||decide (x≥b)))=KY a b (l.map IV.toInt):=rfl;rw [ef];have hlc:(KY a b (l.map IV.toInt)).length≤(l.map IV.toInt).length:=List.length_filter_le ..
    have hp2:=rG ho q #[] (KY a b (l.map IV.toInt)) (BN ((l.map IV.toInt).length - (KY a b (l.map IV.toInt)).length) 0) (by rw [AU,List.length_replicate]; omega);rw [grow_empty] at hp2;refine ⟨_,rfl,hp2.1,sH hrng fun y hy=>(List.mem_filter.1 hy).1,fun _=>⟨?_,fun b hb=>.inl hb⟩,fun h=>by cases h⟩;rw [nP,MF];exact hp2.2
 ·cases hg
open Go Go.Proofs
set_option maxRecDepth 100000
theorem Fi {dim n:Int}:∀ {l:LI} {i k:Nat} (hk:k < l.length),J3 dim n i l=true→F6 (l[k]).toInt=true∧N1 dim n (i+k) (DH (l[k]).toInt)=true
 | [],i,k,hk,_=>absurd hk (Nat.not_lt_zero k)
 | w :: r,i,0,hk,h=>by
  rw [J3] at h;simp only [AI] at h;exact h.1
 | w :: r,i,k+1,hk,h=>by
  rw [J3,AI] at h
  have:=Fi (k:=k) (by simpa using hk) h.2
  rw [show i+1+k=i+(k+1) by omega] at this;exact this
theorem mD {l:LI} {dim:Int} (h:GK l dim=true):(1≤l.length∧l.length≤31)∧(∀ k (hk:k < l.length),F6 (l[k]).toInt=true∧N1 dim (ic l.length) k (DH (l[k]).toInt)=true)∧ZF l=true:=by
 unfold GK at h;simp only [AI] at h;refine ⟨⟨AM h.1.1,AM h.1.2⟩,fun k hk=>?_,h.2.2⟩
 have:=Fi hk h.2.1
 rwa [BJ] at this
theorem zab {dim n:Int} {i:Nat} {x:Nd} (h:N1 dim n i x=true) (hl:x.lf=false):x.f < dim∧x.l≠x.r∧((i:Int) < x.l∧(i:Int) < x.r)∧(x.l < n∧x.r < n):=by
 unfold N1 at h;rw [hl,DG] at h;simp only [AI,B5,BV,A8] at h;obtain ⟨h1,h2,h3,h4⟩:=h;exact ⟨by omega,h2,by omega,by omega⟩
theorem zjg {l:LI} {d e:Int} (h:GK l d=true) (hde:d≤e):GK l e=true:=by
 have key:∀ (l:LI) (n:Int) (i:Nat),J3 d n i l=true→J3 e n i l=true:=by
  intro l n
  induction l with
  | nil=>intro _ _; rfl
  | cons w r ih=>
   intro i h;rw [J3] at h ⊢;simp only [AI] at h ⊢;refine ⟨⟨h.1.1,?_⟩,ih _ h.2⟩;have h2:=h.1.2;unfold N1 at h2 ⊢;cases hl:(DH w.toInt).lf with
   | true=>rfl
   | false=>
    rw [hl,DG] at h2;rw [DG];simp only [AI,B5,BV] at h2 ⊢;exact ⟨by omega,h2.2⟩
 unfold GK at h ⊢;simp only [AI] at h ⊢;exact ⟨h.1,key _ _ _ h.2.1,h.2.2⟩
abbrev kpL:KP:=⟨[4,5,6,24,25,26],[20,500],[⟨(.tmp 6),500,264,true,MG⟩]⟩
abbrev Pi (l:LI) (i:Int) (own out:LI):St:=
 ⟨[(4,.zs),(5,(.row 20 0 l.length)),(6,(.row 500 0 out.length)),(24,(.list false [(.int .u64)] l)),(25,(.int .i64 (ic (AF l)))),(26,(.int .i64 i))],[(20,(some (.row true 37 true EA own))),(500,(some (.row true 264 true MG out)))]⟩
theorem kE (N:Nat) (l:LI) (ht:GK l 4=true):∀ (m i n:Nat) (own out:LI),i+m=l.length→m < n→own.length=l.length→out.length≤i →
  DT (QO N) (DF T5 [1,1,1,1,1,0,1,0,0]) kpL n (Pi l (i:Int) own out) (DM 0 (DN (QO N) (DF T5 [1,1,1,1,1,1]) (DP (QO N) none [(CD 4)] [[(.list true MG)]]))) =
   some (.list true MG (N4 (l.drop i) i own out),[])
 | m,i,0,_,_,_,h,_,_=>absurd h (by omega)
 | 0,i,n+1,own,out,hd,_,_,_=>by
  have hi:i=l.length:=by omega
  subst hi;rw [DX,Mq,IT (AW _),DG,Yn,vad,N4,BZ,BI]
 | m+1,i,n+1,own,out,hd,hn,ho,hu=>by
  obtain ⟨⟨l1,l31⟩,hat,_⟩:=mD ht;have hi:i < l.length:=by omega
  have ei:AA AB ((i:Int)+1)=((i+1:Nat):Int):=GQ (by omega);obtain ⟨hb,hf⟩:=hat i hi;have io:decide ((i:Int) < ic (l.length - 0))=true:=H0 hi;rw [DX,Mq,ei,H0 hi,DE,IH,BY,DE,IS hi,io,BY,BE,BF hi,N4];simp only [BJ];cases hl:(DH (l[i]).toInt).lf with
  | true=>
   rw [A1,DG,DE,DE,BC];have e1:OX (DH (l[i]).toInt) i own=own:=by unfold OX; rw [hl,DE]
   rw [e1];cases (DY (own.getD i default)).emp with
   | true=>exact kE N l ht m (i+1) n own out (by omega) (by omega) ho (by omega)
   | false=>
    have ih:=kE N l ht m (i+1) n own (out++[fP (DY (own.getD i default)) (DH (l[i]).toInt).v]) (by omega) (by omega) ho (by rw [AU]; simp; omega);unfold Pi at ih;rw [AU,CZ] at ih;rw [A6,DE,DE,AE (show (out.length+1)*88≤D6 by unfold D6; omega),DE,BI];exact ih
  | false=>
   obtain ⟨f4,_,_,⟨ln,rn⟩⟩:=zab hf hl;obtain ⟨⟨f0,_⟩,⟨a1,_⟩,⟨b1,_⟩,_⟩:=qP hb hl;have hp:GZ (DH (l[i]).toInt).f=true:=by unfold GZ; rw [AE f0,AE (by omega)]; rfl
   have el:(decide (0≤(DH (l[i]).toInt).l)&&decide ((DH (l[i]).toInt).l < ic (l.length - 0)))=true:=by rw [AE (by omega),AE (show (DH (l[i]).toInt).l < ic (l.length - 0) from ln)]; rfl
   have er:(decide (0≤(DH (l[i]).toInt).r)&&decide ((DH (l[i]).toInt).r < ic (l.length - 0)))=true:=by rw [AE (by omega),AE (show (DH (l[i]).toInt).r < ic (l.length - 0) from rn)]; rfl
   rw [A6,DE,DE,hp,DE,el,DE,er,DE,BM,DG];have e1:OX (DH (l[i]).toInt) i own=(own.set (DH (l[i]).toInt).l.toNat ((DY (own.getD i default)).cutL (DH (l[i]).toInt).f (DH (l[i]).toInt).a).I).set (DH (l[i]).toInt).r.toNat ((DY (own.getD i default)).cutH (DH (l[i]).toInt).f (DH (l[i]).toInt).a).I:=by unfold OX; rw [hl,DG]
   rw [e1];exact kE N l ht m (i+1) n _ out (by omega) (by omega) (by rw [vaI,vaI]; exact ho) (by omega)
theorem zh9:DS PR B0 264 cH:=by
 refine D2 [(124,NO),(174,KV),(51,L7),(109,WH)] [(7,⟨[4,5,6,24,25,26],[20,500],[⟨.tmp 6,500,264,true,[.z,.z,.z,.z,.z,.z,.z,.z,.z,.z,.z]⟩]⟩)] cH [[.list true [.z,.z,.z,.z,.z,.z,.z,.z,.z,.z,.z]]] Tryz.func264 zbr ⟨gG,XR,ZX,Kz,trivial⟩ ?_;intro vs r hwf h;unfold cH at h;split at h
 ·rename_i l b;replace h:=IN h;obtain ⟨b,rfl,h⟩:=h;rw [R.get_ok] at h;refine ⟨40,?_⟩;rw [← h];refine (zek 40 l b).trans ?_;unfold II;cases ht:GK l 4 with
  | false=>rfl
  | true=>
   rw [A1,DG,BC];cases b.emp with
   | true=>rfl
   | false=>
    obtain ⟨⟨l1,l31⟩,_,_⟩:=mD ht;have run:=kE 40 l ht l.length 0 40 ((BN l.length YN.I).set 0 b.I) [] (by omega) (by omega) (by simp) (B7 _);rw [DG,AE (show (0:Int)≤ic l.length by simp only [ic]; omega),AE (show ic l.length=ic l.length from rfl),AE (show ic l.length*ic 80≤ic D6 by unfold D6; simp only [ic]; omega),BY,BY,DE,
     AE (show 0≤0 from AW 0),AE (show (0:Int) < ic (AD (ic l.length) - 0) by simp only [ic]; omega),BY,DE]
    exact run
 ·simp [R.get] at h
abbrev zjS (l:LI) (lo hi i:Int):St:=⟨[(4,(.int .i64 0)),(5,(.int .i64 0)),(6,(.bool false)),(8,(.int .i64 lo)),(9,(.int .i64 hi)),(26,(.list true MG l)),(27,(.int .i64 (ic (AF l)))),(28,(.int .i64 i))],[]⟩
theorem v8 (N:Nat) (l:LI) (hl:l.length≤strMax):∀ (m i n:Nat) (lo hi:Int),i+m=l.length→m < n →
  DT (QM N) (DF T2 [1,1,1,1,0,1,0,0]) ⟨[4,5,6,8,9,26,27,28],[],[]⟩ n (zjS l lo hi (i:Int)) (DM 0 (DN (QM N) (DF T2 [1,1,1,1,1]) (DP (QM N) none [(CD 4),(CD 5),(CD 6)] [[.z],[.z],[.bool]]))) =
   some (.tup [.int .i64 (OZ (l.drop i) lo),.int .i64 (OY (l.drop i) hi),.bool true],[])
 | m,i,0,_,_,_,h=>absurd h (by omega)
 | 0,i,n+1,lo,hi,hd,_=>by
  have hi:i=l.length:=by omega
  subst hi;rw [DX,Lv,IT (AW _),DG,vad];exact Xm N _ _ _ _ _ l _ _
 | m+1,i,n+1,lo,hi,hd,hn=>by
  have hi:i < l.length:=by omega
  have mx:strMax=140737488355327:=rfl;have ei:AA AB ((i:Int)+1)=((i+1:Nat):Int):=GQ (by omega);rw [DX,Lv,ei,H0 hi,DE,IH,BY,DE,IS hi,BF hi,OZ,OY];exact v8 N l hl m (i+1) n _ _ (by omega) (by omega)
theorem Ee:∀ (l:LI) (i:Nat) (own out:LI),(N4 l i own out).length≤out.length+l.length
 | [],_,_,out=>AW _
 | w :: r,i,own,out=>by
  rw [N4]
  have:=Ee r (i+1) (OX (DH w.toInt) i own) (cond ((DH w.toInt).lf&&!(DY (own.getD i default)).emp) (out++[fP (DY (own.getD i default)) (DH w.toInt).v]) out)
  refine CW this ?_;cases ((DH w.toInt).lf&&!(DY (own.getD i default)).emp) with
  | true=>rw [DE,AU,CZ,AN]; omega
  | false=>rw [DG,AN]; omega
theorem zcK (l:LI) (b:Bx):(II l b).length≤31:=by
 unfold II;cases ht:GK l 4 with
 | false=>exact B7 _
 | true=>
  cases b.emp with
  | true=>exact B7 _
  | false=>
   have:=Ee l 0 ((BN l.length YN.I).set 0 b.I) []
   have h2:=(mD ht).1.2;simp only [BB,BJ] at this;exact CW this h2
theorem zhv:DS PR B0 240 aZ:=by
 refine D2 [(264,cH)] [(6,⟨[4,5,6,8,9,26,27,28],[],[]⟩)] aZ [[.z],[.z],[.bool]] Tryz.func240 zaB ⟨zh9,trivial⟩ ?_;intro vs r hwf h;unfold aZ at h;split at h
 ·rename_i l b;replace h:=IN h;obtain ⟨b,rfl,h⟩:=h;rw [R.get_ok] at h;refine ⟨40,?_⟩;rw [← h];refine (zdz 40 l b).trans ?_;have h31:=zcK l b;unfold HV HU XU fS fR;generalize II l b=ps at h31 ⊢;cases ps with
  | nil=>rfl
  | cons x r=>
   have run:=v8 40 (x :: r) (CW h31 (by decide)) (x :: r).length 0 40 (HC x) (HC x) (by omega) (by omega);have e0:(ic (x :: r).length==0)=false:=by
    simp only [ic,AN,A8];omega
   have e1:(decide (0≤0)&&decide (0 < ic (x :: r).length))=true:=by
    rw [AE (show 0≤0 from AW 0),AE (show 0 < ic (x :: r).length by simp only [ic,AN]; omega)];rfl
   rw [e0,DG,e1,DE,DE];exact run
 ·simp [R.get] at h
theorem zc6 {l:LI}:∀ {a:Int},EZ a=true→(∀ x∈l,EZ (HC x)=true)→EZ (OZ l a)=true:=by
 induction l with
 | nil=>intro a h _; exact h
 | cons x r ih=>
  intro a h hx;rw [OZ];refine ih ?_ fun y hy=>hx y (AY _ hy)
  have:=M4 h
  have:=M4 (hx x (AR ..))
  unfold EZ;rw [AE (by omega),AE (by omega)];rfl
theorem zc2 {l:LI}:∀ {a:Int},EZ a=true→(∀ x∈l,EZ (HC x)=true)→EZ (OY l a)=true:=by
 induction l with
 | nil=>intro a h _; exact h
 | cons x r ih=>
  intro a h hx;rw [OY];refine ih ?_ fun y hy=>hx y (AY _ hy)
  have:=M4 h
  have:=M4 (hx x (AR ..))
  unfold EZ;rw [AE (by omega),AE (by omega)];rfl
theorem Ed:∀ (l:LI) (i:Nat) (own out:LI),(∀ x∈out,EZ (HC x)=true)→∀ x∈N4 l i own out,EZ (HC x)=true
 | [],_,_,_,h=>h
 | w :: r,i,own,out,h=>by
  rw [N4];refine Ed r (i+1) _ _ ?_;cases ((DH w.toInt).lf&&!(DY (own.getD i default)).emp) with
  | true=>
   intro x hx;rcases AV.1 hx with hx | hx
   ·exact h x hx
   ·obtain rfl:=BX.1 hx;exact Fh _
  | false=>exact h
theorem zcJ (l:LI) (b:Bx):∀ x∈II l b,EZ (HC x)=true:=by
 unfold II;cases (GK l 4&&!b.emp) with
 | true=>exact Ed _ _ _ _ (fun x hx=>by cases hx)
 | false=>intro x hx; cases hx
theorem l9 (l:LI) (b:Bx):EZ (HV l b)=true∧EZ (HU l b)=true:=by
 unfold HV HU XU;have hf:=zcJ l b;generalize II l b=ps at hf ⊢;cases ps with
 | nil=>exact ⟨rfl,rfl⟩
 | cons x r=>exact ⟨zc6 (hf x (AR ..)) hf,zc2 (hf x (AR ..)) hf⟩
abbrev zjR (ts:LI) (b:Bx) (k lo hi i:Int):St:=⟨[(1,(.int .i64 k)),(5,(.ptr 5 0 0)),(6,(.int .i64 0)),(7,(.int .i64 0)),(8,(.bool false)),(9,(.int .i64 lo)),(10,(.int .i64 hi)),(42,(.list true LN ts)),(43,(.int .i64 (ic (AF ts)))),(44,(.int .i64 i))],[(5,(some (.box (Bx.cs b))))]⟩
theorem tT (N:Nat) (ts:LI) (b:Bx) (k:Int) (hts:ts.length≤8):∀ (m i n:Nat) (lo hi:Int),i+m=ts.length→m < n→(-2147483648*(i+1)≤lo∧lo≤2147483648*(i+1))→(-2147483648*(i+1)≤hi∧hi≤2147483648*(i+1)) →
  DT (GL N) (DF ID [1,1,1,0,1,0,0]) ⟨[1,5,6,7,8,9,10,42,43,44],[5],[]⟩ n (zjR ts b k lo hi (i:Int)) (DM 0 (DN (GL N) (DF ID [1,1,1,1]) (DP (GL N) none [(CD 6),(CD 7),(CD 8)] [[.z],[.z],[.bool]]))) =
   some (.tup [.int .i64 (IW (fun l=>HV l b) k (ts.drop i) lo),.int .i64 (IW (fun l=>HU l b) k (ts.drop i) hi),.bool true],[])
 | m,i,0,_,_,_,h,_,_=>absurd h (by omega)
 | 0,i,n+1,lo,hi,hd,_,_,_=>by
  have hlt:i=ts.length:=by omega
  subst hlt;rw [DX,Lu,IT (AW _),DG,vad];exact Xl N b _ _ _ _ _ _ _ _ _
 | m+1,i,n+1,lo,hi,hd,hn,h1,h2=>by
  have hlt:i < ts.length:=by omega
  have ei:AA AB ((i:Int)+1)=((i+1:Nat):Int):=GQ (by omega);rw [DX,Lu,ei,H0 hlt,DE,IH,BY,DE,IS hlt,BF hlt,IW,IW];obtain ⟨q1,q2⟩:=l9 (E5 ts[i]) b;have q1:=M4 q1;have q2:=M4 q2;have en:((ts[i].cell 0).toInt != k)=!((ts[i].cell 0).toInt==k):=rfl;rw [en];cases ((ts[i].cell 0).toInt==k) with
  | true=>
   rw [A1,DG,DE,DE];have ew:AA AB (lo+HV (E5 ts[i]) b)=lo+HV (E5 ts[i]) b:=EI (by omega) (by omega);have ew2:AA AB (hi+HU (E5 ts[i]) b)=hi+HU (E5 ts[i]) b:=EI (by omega) (by omega);have ih:=tT N ts b k hts m (i+1) n (lo+HV (E5 ts[i]) b) (hi+HU (E5 ts[i]) b) (by omega) (by omega) (by omega) (by omega);rw [← ew,← ew2] at ih;refine Eq.trans ih ?_;rw [ew,ew2]
  | false=>
   rw [A6,DE,DG,DG];exact tT N ts b k hts m (i+1) n lo hi (by omega) (by omega) (by omega) (by omega)
theorem sW:DS PR B0 207 RY:=by
 refine D2 [(240,aZ),(174,KV),(49,L6)] [(5,⟨[1,5,6,7,8,9,10,42,43,44],[5],[]⟩)] RY [[.z],[.z],[.bool]] Tryz.func207 zaA ⟨zhv,XR,ZW,trivial⟩ ?_;intro vs r hwf h;unfold RY at h;split at h
 ·rename_i m k b;replace h:=IO h;obtain ⟨m,rfl,h⟩:=h;replace h:=IN h;obtain ⟨b,rfl,h⟩:=h;rw [R.get_ok] at h;refine ⟨10,?_⟩;rw [← h];refine (zdy 10 m k b).trans ?_;unfold D5 D3 GP;cases hm:EP m with
  | false=>rfl
  | true=>
   rw [A1,DG];cases h0:decide (k < 0) with
   | true=>
    have:HX m k=false:=by unfold HX; rw [AL (show ¬ 0≤k by have:=A0 h0; omega)]; rfl
    rw [this];rfl
   | false=>
    rw [DG];cases h1:decide (k≥m.c) with
    | true=>
     have:HX m k=false:=by unfold HX; rw [AL (show ¬ k < m.c by have:=A0 h1; omega),vaq]
     rw [this];rfl
    | false=>
     have hc:HX m k=true:=by unfold HX; rw [AE (show 0≤k by have:=BH h0; omega),AE (show k < m.c by have:=BH h1; omega)]; rfl
     rw [DG,hc];cases b.emp with
     | true=>rfl
     | false=>
      have hb:=iO hm k;have run:=tT 10 m.ts b k (LT hm).2.2.1 m.ts.length 0 10 (LD m k) (LD m k) (by omega) (by have:=(LT hm).2.2.1; omega) (by omega) (by omega);rw [DG];rcases nT hm hc with rfl | rfl | rfl <;> exact run
 ·simp [R.get] at h
theorem tR (g:LI→Int) (hg:∀ l,-2147483648≤g l∧g l≤2147483648) (k:Int):∀ (ts:LI) (s:Int) (n:Nat),(-2147483648*(n:Int)≤s∧s≤2147483648*(n:Int)) → -2147483648*((n+ts.length:Nat):Int)≤IW g k ts s∧IW g k ts s≤2147483648*((n+ts.length:Nat):Int)
 | [],s,n,h=>by
  rw [IW];simpa using h
 | t :: r,s,n,h=>by
  rw [IW];have h1:=hg (E5 t)
  have:=tR g hg k r (cond (U0 t==k) (s+g (E5 t)) s) (n+1) (by cases (U0 t==k) <;> simp only [B1,BG] <;> omega)
  rw [AN];rw [show n+1+r.length=n+(r.length+1) by omega] at this;exact this
theorem lJ {m:Md} (k:Int) (b:Bx):(-34359738368≤D5 m k b∧D5 m k b≤34359738368)∧(-34359738368≤D3 m k b∧D3 m k b≤34359738368):=by
 unfold D5 D3;cases hs:GP m k b with
 | false=>simp only [BG]; omega
 | true=>
  unfold GP at hs;simp only [AI] at hs;have hb:=iO hs.1 k;have h8:=(LT hs.1).2.2.1;have h1:=tR (fun l=>HV l b) (fun l=>by have:=M4 (l9 l b).1; omega) k m.ts (LD m k) 1 (by omega);have h2:=tR (fun l=>HU l b) (fun l=>by have:=M4 (l9 l b).2; omega) k m.ts (LD m k) 1 (by omega);rw [DE,DE];omega
abbrev zjP (m:Md) (b:Bx) (k lo a:Int) (z:Bool) (i:Int):St:=⟨[(1,(.int .i64 k)),(3,(.ptr 3 0 0)),(5,(.ptr 5 0 0)),(6,(.int .i64 0)),(7,(.bool false)),(8,(.int .i64 lo)),(11,(.int .i64 a)),(12,(.bool z)),(33,(.int .i64 (Md.c m))),(34,(.int .i64 i))],[(3,(some (.box (Md.cs m)))),(5,(some (.box (Bx.cs b))))]⟩
theorem Ej (N:Nat) (m:Md) (b:Bx) (k:Int) (hc:0≤m.c∧m.c≤3) (lo:Int) (hlo : -34359738368≤lo∧lo≤34359738368):∀ (d i n:Nat) (a:Int) (z:Bool),((i+d:Nat):Int)=m.c→d < n →
  DT (QL N) (DF T1 [1,1,1,1,0,1,0,0]) ⟨[1,3,5,6,7,8,11,12,33,34],[3,5],[]⟩ n (zjP m b k lo a z (i:Int)) (DM 0 (DN (QL N) (DF T1 [1,1,1,1,1]) (DP (QL N) none [(CD 6),(CD 7)] [[.z],[.bool]]))) =
   some (.tup [.int .i64 (Q9 m k lo b d (i:Int) a z),.bool true],[])
 | d,i,0,_,_,_,h=>absurd h (by omega)
 | 0,i,n+1,a,z,hd,_=>by
  rw [DX,Lt,AL (show ¬ (i:Int) < m.c by omega),DG];exact Xk N m b _ _ _ _ _ _ _ _
 | d+1,i,n+1,a,z,hd,hn=>by
  have ei:AA AB ((i:Int)+1)=((i+1:Nat):Int):=GQ (by omega);have hs:=(lJ (m:=m) (i:Int) b).2;have ew:AA AB (lo - D3 m (i:Int) b)=lo - D3 m (i:Int) b:=EI (by omega) (by omega);have ec:(i:Int)+1=((i+1:Nat):Int):=by omega
  rw [DX,Lt,ei,ew,AE (show (i:Int) < m.c by omega),DE,Q9,ec];have ih:=fun a z=>Ej N m b k hc lo hlo d (i+1) n a z (by omega) (by omega)
  cases ((i:Int)==k) with
  | true=>exact ih a z
  | false=>
   rw [DG,DG];cases z with
   | false=>exact ih _ true
   | true=>
    rw [A1,DG,vaw];cases decide (lo - D3 m (i:Int) b < a) with
    | true=>exact ih _ true
    | false=>exact ih a true
theorem zhu:DS PR B0 208 aY:=by
 refine D2 [(207,RY)] [(6,⟨[1,3,5,6,7,8,11,12,33,34],[3,5],[]⟩)] aY [[.z],[.bool]] Tryz.func208 zaz ⟨sW,trivial⟩ ?_;intro vs r hwf h;unfold aY at h;split at h
 ·rename_i m k b;replace h:=IO h;obtain ⟨m,rfl,h⟩:=h;replace h:=IN h;obtain ⟨b,rfl,h⟩:=h;rw [R.get_ok] at h;refine ⟨10,?_⟩;rw [← h];refine (zdx 10 m k b).trans ?_;unfold SS MI;cases hs:GP m k b with
  | false=>rfl
  | true=>
   have hm:EP m=true:=by unfold GP at hs; simp only [AI] at hs; exact hs.1
   have hc:=(LT hm).2.1;rw [A1,DG];cases h2:decide (m.c < 2) with
   | true=>rw [AL (show ¬ m.c≥2 by have:=A0 h2; omega)]; rfl
   | false=>
    rw [AE (show m.c≥2 by have:=BH h2; omega),DG];exact Ej 10 m b k (by omega) (D5 m k b) (lJ k b).1 m.c.toNat 0 10 0 false (by omega) (by omega)
 ·simp [R.get] at h
theorem zhQ:DS PR B0 210 bR:=by
 refine D2 [(207,RY),(242,bS),(243,bU),(241,PJ)] [] bR [[.z],[.z],[.bool]] Tryz.func210 za4 ⟨sW,zhR,zhT,lP,trivial⟩ ?_;intro vs r hwf h;unfold bR at h;split at h
 ·rename_i m q b;replace h:=IO h;obtain ⟨m,rfl,h⟩:=h;replace h:=I0 h;obtain ⟨q,rfl,h⟩:=h;replace h:=IN h;obtain ⟨b,rfl,h⟩:=h;rw [R.get_ok] at h;refine ⟨0,?_⟩;rw [← h];refine (zdX 0 m q b).trans ?_;have h1:=lJ (m:=m) q.c (JP q b);have h2:=lJ (m:=m) q.c (JR q b);rw [EI (n:=D5 m q.c (JR q b) - D3 m q.c (JP q b)) (by omega) (by omega),EI (n:=D3 m q.c (JR q b) - D5 m q.c (JP q b)) (by omega) (by omega)];unfold PN PM JW;cases G0 q <;> cases GP m q.c (JP q b) <;> cases GP m q.c (JR q b) <;> rfl
 ·simp [R.get] at h
theorem zhX:DS PR B0 169 bY:=by
 refine D2 [(208,aY),(207,RY),(174,KV),(210,bR),(209,bT),(93,L8)] [] bY [[.bool]] Tryz.func169 zbg ⟨zhu,sW,XR,zhQ,zhS,ZY,trivial⟩ ?_;intro vs r hwf h;unfold bY at h;split at h
 ·rename_i m q b;replace h:=IO h;obtain ⟨m,rfl,h⟩:=h;replace h:=I0 h;obtain ⟨q,rfl,h⟩:=h;replace h:=IN h;obtain ⟨b,rfl,h⟩:=h;rw [R.get_ok] at h;refine ⟨0,?_⟩;rw [← h];refine (zd9 0 m q b).trans ?_;unfold HG;cases FH m q <;> cases b.emp <;> cases (q.k==1) <;> cases (q.k==2) <;> cases GP m q.c b <;> cases decide (q.lo≤D5 m q.c b) <;> cases MI m q.c b <;> cases NA q b <;> cases q.fl <;> cases JW m q b <;> rfl
 ·simp [R.get] at h
theorem zhY:DS PR B0 170 bZ:=by
 refine D2 [(63,VZ)] [] bZ [[.z,.z,.z,.z],[.z]] Tryz.func170 zbh ⟨Jz,trivial⟩ ?_;intro vs r hwf h;unfold bZ at h;split at h
 ·rename_i b;replace h:=IN h;obtain ⟨b,rfl,h⟩:=h;rw [R.get_ok] at h;exact ⟨0,(zea 0 b).trans h⟩
 ·simp [R.get] at h
theorem zh3:DS PR B0 149 cE:=by
 refine D2 [] [] cE [[.z]] Tryz.func149 zbo trivial ?_;intro vs r hwf h;unfold cE at h;split at h
 ·rename_i q i;replace h:=I0 h;obtain ⟨q,rfl,h⟩:=h;rw [R.get_ok] at h;refine ⟨0,?_⟩;rw [← h];refine (zeg 0 q i).trans ?_;unfold H6;cases decide (i≥0) <;> cases decide (i < 4) <;> cases (i==4) <;> cases (q.k==3) <;> rfl
 ·simp [R.get] at h
def oA (m:Md) (f:Int) (s:Sp):DJ:=
 cond (decide (f < 0)) (some (.list false [.z] [],[]))
  (cond (EP m)
   (cond (BO (iZ (I7 m.ts f)).length (iZ (I7 m.ts f)).length)
    (cond (B6 (iZ (KY s.lo s.hi ((iZ (I7 m.ts f)).map IV.toInt))).length (iZ (I7 m.ts f)).length)
     (some (.list false [.z] (AO 0 (AK (iZ (KY s.lo s.hi ((iZ (I7 m.ts f)).map IV.toInt))).length (iZ (KY s.lo s.hi ((iZ (I7 m.ts f)).map IV.toInt))))),[])) none) none) none)
theorem Vx {m:Md} (hm:EP m=true) (f:Int) (s:Sp):oA m f s=some (.list false [.z] (iZ (cond (decide (f < 0)) [] (KY s.lo s.hi (I7 m.ts f)))),[]):=by
 unfold oA;cases decide (f < 0) with
 | true=>rfl
 | false=>
  rw [DG,hm,DE,vbj,DE,o5,DG];have hle:(iZ (KY s.lo s.hi (I7 m.ts f))).length≤(iZ (I7 m.ts f)).length:=by
   rw [MF,MF];exact List.length_filter_le ..
  rw [CP hle,DE,BZ,BI]
theorem zg5 (m:Md) (q:Qy) (b:Bx):∀ i:Nat,i < 5→DV (uX 0) nK [.tmp 8] [[.list false [.z]]] [m.V,q.V,b.V,.int .i64 (i:Int)]=oA m (H6 q (i:Int)) (b.g i)
 | 0,_=>by kernel_rfl
 | 1,_=>by kernel_rfl
 | 2,_=>by kernel_rfl
 | 3,_=>by kernel_rfl
 | 4,_=>by kernel_rfl
 | i+5,h=>absurd h (by omega)
abbrev Dg:KP:=⟨[1,4,5,16,17,18],[500],[⟨(.tmp 5),500,3,false,[.z]⟩]⟩
abbrev Dh:KP:=⟨[1,4,5,16,17,18,23,24,25],[500],[⟨(.tmp 5),500,3,false,[.z]⟩]⟩
abbrev mP (f:Int) (ts:LI) (i:Int) (W:LI) (j:Int) (O:LI):St:=
 ⟨[(1,(.int .i64 f)),(4,.zs),(5,(.row 500 0 O.length)),(16,(.list true LN ts)),(17,(.int .i64 (ic ts.length))),(18,(.int .i64 i)),(23,(.list false [(.int .u64)] W)),(24,(.int .i64 (ic W.length))),(25,(.int .i64 j))],[(500,(some (.row true 3 false [.z] O)))]⟩
theorem mB (N:Nat) (f:Int) (ts:LI) (i:Int) (W:LI) (hW:W.length≤31) (K:Out→St→DJ):∀ (m j n:Nat) (O:LI),j+m=W.length→m < n→O.length+m≤1000 →
  DT (NN N) (DF OP [1,1,1,0,1,0,0,1,1,0,0,1,1,0,0]) Dh n (mP f ts i W (j:Int) O) K=K (.exit 2) (mP f ts i W (ic W.length) (O++iZ ((W.drop j).flatMap (IX f))))
 | m,j,0,_,_,h,_=>absurd h (by omega)
 | 0,j,n+1,O,hd,_,_=>by
  have hj:j=W.length:=by omega
  subst hj;rw [DX,Mt,IT (AW _),DG,vad];show K (.exit 2) _=K (.exit 2) (mP f ts i W (ic W.length) (O++[]));rw [DB]
 | m+1,j,n+1,O,hd,hn,hO=>by
  have hj:j < W.length:=by omega
  have ej:AA AB ((j:Int)+1)=((j+1:Nat):Int):=GQ (by omega);rw [DX,Mt,ej,H0 hj,DE,IH,BY,DE,IS hj,BF hj,vai];unfold IX;cases (DH (W[j]).toInt).lf with
  | true=>
   rw [A1,DG,BM,DG,vac];exact mB N f ts i W hW K m (j+1) n O (by omega) (by omega) (by omega)
  | false=>
   rw [A6,DE,BC];cases ((DH (W[j]).toInt).f==f) with
   | false=>
    rw [DG,DG,vac];exact mB N f ts i W hW K m (j+1) n O (by omega) (by omega) (by omega)
   | true=>
    rw [DE,DE,AE (show (O.length+1)*8≤D6 by unfold D6; omega),DE,BI];have ih:=mB N f ts i W hW K m (j+1) n (O++[IV.int (DH (W[j]).toInt).a]) (by omega) (by omega) (by rw [AU,CZ]; omega);rw [var] at ih;unfold mP at ih ⊢;rw [AU,CZ] at ih;exact ih
abbrev uS (f:Int) (ts:LI) (i:Int) (O:LI):St:=
 ⟨[(1,(.int .i64 f)),(4,.zs),(5,(.row 500 0 O.length)),(16,(.list true LN ts)),(17,(.int .i64 (ic ts.length))),(18,(.int .i64 i))],[(500,(some (.row true 3 false [.z] O)))]⟩
theorem tX (f:Int):∀ W:LI,(W.flatMap (IX f)).length≤W.length
 | []=>AW _
 | w :: r=>by
  rw [vai,AU,AN]
  have:=tX f r
  unfold IX at this ⊢;cases (!(DH w.toInt).lf&&(DH w.toInt).f==f) <;> simp only [B1,BG,BB,CZ] <;> omega
theorem Nz {d c:Int} {t:IV} (h:G8 d c t=true):(0≤U0 t∧U0 t < c)∧GK (E5 t) d=true:=by
 unfold G8 at h;simp only [AI,B5,BV] at h;exact ⟨⟨by show 0≤(t.cell 0).toInt; omega,by show (t.cell 0).toInt < c; omega⟩,h.2.2⟩
theorem Od {d c:Int} {ts:LI} (h:ts.all (G8 d c)=true) {t:IV} (ht:t∈ts):(E5 t).length≤31:=by
 have:=(Nz (CS.1 h t ht)).2
 exact (mD this).1.2
theorem Nu (N:Nat) (hN:40≤N) (f:Int) (ts:LI) (hts:ts.length≤8) (hW:∀ t∈ts,(E5 t).length≤31) (K:Out→St→DJ):∀ (m i n:Nat) (O:LI),i+m=ts.length→m < n→O.length≤31*i →
  DT (NN N) (DF OP [1,1,1,0,1,0,0]) Dg n (uS f ts (i:Int) O) K=K (.exit 0) (uS f ts (ic ts.length) (O++iZ (IA (ts.drop i) f)))
 | m,i,0,_,_,h,_=>absurd h (by omega)
 | 0,i,n+1,O,hd,_,_=>by
  have hi:i=ts.length:=by omega
  subst hi;rw [DX,Ms,IT (AW _),DG,vad];show K (.exit 0) _=K (.exit 0) (uS f ts (ic ts.length) (O++[]));rw [DB]
 | m+1,i,n+1,O,hd,hn,hO=>by
  have hi:i < ts.length:=by omega
  have ei:AA AB ((i:Int)+1)=((i+1:Nat):Int):=GQ (by omega);have hw:=hW ts[i] (C4 hi);have hl:=tX f (E5 ts[i]);rw [DX,Ms,H0 hi,DE,IH,BY,DE,IS hi,BF hi];refine (mB N f ts (i:Int) (E5 ts[i]) hw _ (E5 ts[i]).length 0 N O (by omega) (by omega) (by omega)).trans ?_;rw [Yr,ei,BZ];have ih:=Nu N hN f ts hts hW K m (i+1) n (O++iZ ((E5 ts[i]).flatMap (IX f))) (by omega) (by omega) (by rw [AU,MF]; omega);have e:IA (ts[i] :: ts.drop (i+1)) f=(E5 ts[i]).flatMap (IX f)++IA (ts.drop (i+1)) f:=by unfold IA; rw [vai]
  rw [e];have e2:iZ ((E5 ts[i]).flatMap (IX f)++IA (ts.drop (i+1)) f)=iZ ((E5 ts[i]).flatMap (IX f))++iZ (IA (ts.drop (i+1)) f):=by unfold iZ; rw [List.map_append]
  rw [e2,← var];exact ih
theorem zib:DS PR B0 151 cK:=by
 refine Ki [(49,L6),(51,L7)] [(195,jW),(194,jY)] [(5,Dg),(8,Dh)] cK [] Tryz.func151 zbv ⟨ZW,ZX,trivial⟩ ⟨zh6,zh8,trivial⟩ ?_;intro vs r hwf h;unfold cK at h;split at h
 ·rename_i m f;replace h:=IO h;obtain ⟨m,rfl,h⟩:=h;cases hm:EP m with
  | false=>rw [hm] at h; simp [R.get] at h
  | true=>
   rw [hm,R.get_br,DE,R.get_ok] at h;refine ⟨40,?_⟩;rw [← h];refine (zeo 40 m f).trans ?_;have hmp:=LT hm;rw [hm,A1,DG];refine (Nu 40 (by omega) f m.ts hmp.2.2.1 (fun t ht=>Od hmp.2.2.2.2 ht) _ m.ts.length 0 40 [] (by omega) (by have:=hmp.2.2.1; omega) (B7 _)).trans ?_;rw [BZ,vac,Yq,vbj,DE,o5];have e1:(iZ (KO (IA m.ts f))).length=(iZ (IA m.ts f)).length:=by rw [MF,MF]; exact (S2 _).length_eq
   have e2:(iZ (I2 (KO (IA m.ts f)))).length≤(iZ (IA m.ts f)).length:=by rw [← e1,MF,MF]; exact iX _
   rw [e1,vbj,DE,DE,o5,CP e2,DE,BI];rfl
 ·simp [R.get] at h
theorem s7:DS PR B0 96 R5:=by
 refine Ki [(149,cE),(151,cK)] [(150,jX)] [] R5 [[.list false [.z]]] Tryz.func96 zbl ⟨zh3,zib,trivial⟩ ⟨zh7,trivial⟩ ?_;intro vs r hwf h;unfold R5 at h;split at h
 ·rename_i m q b i;replace h:=IO h;obtain ⟨m,rfl,h⟩:=h;replace h:=I0 h;obtain ⟨q,rfl,h⟩:=h;replace h:=IN h;obtain ⟨b,rfl,h⟩:=h;cases hg:(EP m&&GZ i) with
  | false=>rw [hg] at h; simp [R.get] at h
  | true=>
  rw [hg,R.get_br,DE,R.get_ok] at h;rw [AI] at hg;refine ⟨0,?_⟩;rw [← h];have key:∀ k:Nat,k < 5→DV (uX 0) nK [.tmp 8] [[.list false [.z]]] [m.V,q.V,b.V,.int .i64 (k:Int)]=some (.list false [.z] (iZ (E2 m q b k)),[]):=fun k hk=>by
   rw [zg5 m q b k hk,Vx hg.1];rfl
  rcases Co hg.2 with rfl | rfl | rfl | rfl | rfl
  ·exact key 0 (by omega)
  ·exact key 1 (by omega)
  ·exact key 2 (by omega)
  ·exact key 3 (by omega)
  ·exact key 4 (by omega)
 ·simp [R.get] at h
abbrev zjQ (m:Md) (q:Qy) (b:Bx) (i:Int):St:=⟨[(3,(.ptr 3 0 0)),(4,(.ptr 4 0 0)),(5,(.ptr 5 0 0)),(6,(.int .i64 0)),(7,(.int .i64 0)),(8,(.bool false)),(11,(.int .i64 i))],[(3,(some (.box (Md.cs m)))),(4,(some (.box (Qy.cs q)))),(5,(some (.box (Bx.cs b))))]⟩
theorem Wd {m:Md} (hm:EP m=true) (q:Qy) (b:Bx) (i:Nat):(E2 m q b i).length≤248:=by
 have key:∀ (ts:LI) (f:Int),(∀ t∈ts,(E5 t).length≤31)→(IA ts f).length≤31*ts.length:=by
  intro ts f
  induction ts with
  | nil=>intro _; exact AW _
  | cons t r ih=>
   intro ht;have h1:=ih fun u hu=>ht u (AY _ hu)
   have h2:=tX f (E5 t);have h3:=ht t (AR ..);unfold IA at h1 ⊢;rw [vai,AU,AN];omega
 have hmp:=LT hm;have h1:=key m.ts (H6 q (i:Int)) fun t ht=>Od hmp.2.2.2.2 ht
 unfold E2;cases decide (H6 q (i:Int) < 0) with
 | true=>exact B7 _
 | false=>
  rw [DG];have h2:(KY (b.g i).lo (b.g i).hi (I7 m.ts (H6 q (i:Int)))).length≤(I7 m.ts (H6 q (i:Int))).length:=List.length_filter_le ..
  have h3:(I7 m.ts (H6 q (i:Int))).length≤(IA m.ts (H6 q (i:Int))).length:=by
   unfold I7;exact CW (iX _) (Nat.le_of_eq (S2 _).length_eq)
  have:=hmp.2.2.1
  omega
theorem Lm (N:Nat) (m:Md) (hm:EP m=true) (q:Qy) (b:Bx):∀ (d i n:Nat),i+d=5→d < n →
  DT (OK N) (DF SE [1,0,1,0,0]) ⟨[3,4,5,6,7,8,11],[3,4,5],[]⟩ n (zjQ m q b (i:Int)) (DM 0 (DN (OK N) (DF SE [1,1]) (DP (OK N) none [(CD 6),(CD 7),(CD 8)] [[.z],[.z],[.bool]]))) =
   some (.tup [.int .i64 (KQ (RM m q b d i)),.int .i64 (P8 (RM m q b d i)),.bool (RM m q b d i).isSome],[])
 | d,i,0,_,h=>absurd h (by omega)
 | 0,i,n+1,hd,_=>by
  have hi:i=5:=by omega
  subst hi;rw [DX,Ml,AL (show ¬ ((5:Nat):Int) < 5 by omega),DG];exact Yh N m q b _ _ _ _
 | d+1,i,n+1,hd,hn=>by
  have hp:GZ (i:Int)=true:=by unfold GZ; rw [AE (show (0:Int)≤(i:Int) by omega),AE (show (i:Int) < 5 by omega)]; rfl
  have ei:AA AB ((i:Int)+1)=((i+1:Nat):Int):=GQ (by omega);have hc:=Wd hm q b i;rw [DX,Ml,ei,AE (show (i:Int) < 5 by omega),DE,hm,hp,BY,DE,BE,RM,MF];generalize E2 m q b i=cs at hc ⊢;have ed:decide (ic cs.length > 0)=decide (cs.length > 0):=by rw [va3]; simp
  rw [ed];cases hpos:decide (cs.length > 0) with
  | true=>
   have hpos:=A0 hpos;have ew:AA AB (Int.tdiv (AA AB (ic cs.length - 1)) 2)=(((cs.length - 1) / 2:Nat):Int):=by
    have e1:AA AB (ic cs.length - 1)=((cs.length - 1:Nat):Int):=by rw [EI (by simp only [ic]; omega) (by simp only [ic]; omega)]; simp only [ic]; omega
    have e2:Int.tdiv ((cs.length - 1:Nat):Int) 2=(((cs.length - 1) / 2:Nat):Int):=by
     rw [Int.tdiv_eq_ediv_of_nonneg (by omega)];omega
    rw [e1,e2,EI (by omega) (by omega)]
   have hlt:(cs.length - 1) / 2 < cs.length:=by omega
   rw [DE,ew,IH,AE (show (((cs.length - 1) / 2:Nat):Int) < ic cs.length by simp only [ic]; omega),BY,DE,DE,BE];have eg:IV.toInt (AH (iZ cs) ((cs.length - 1) / 2) default)=cs.getD ((cs.length - 1) / 2) 0:=by
    unfold iZ;rw [BS,BS,B9,A5 hlt];rfl
   rw [eg];exact Yi N m q b _ _ _ _
  | false=>
   rw [DG,DG];exact Lm N m hm q b d (i+1) n (by omega) (by omega)
theorem zhZ:DS PR B0 171 cA:=by
 refine D2 [(96,R5)] [(2,⟨[3,4,5,6,7,8,11],[3,4,5],[]⟩)] cA [[.z],[.z],[.bool]] Tryz.func171 zbi ⟨s7,trivial⟩ ?_;intro vs r hwf h;unfold cA at h;split at h
 ·rename_i m q b;replace h:=IO h;obtain ⟨m,rfl,h⟩:=h;replace h:=I0 h;obtain ⟨q,rfl,h⟩:=h;replace h:=IN h;obtain ⟨b,rfl,h⟩:=h;cases hg:(EP m) with
  | false=>rw [hg] at h; simp [R.get] at h
  | true=>
  rw [hg,R.get_br,DE,R.get_ok] at h;refine ⟨10,?_⟩;rw [← h];exact (zeb 10 m q b).trans (Lm 10 m hg q b 5 0 10 rfl (by omega))
 ·simp [R.get] at h
open Go Go.Proofs
def Ry (N:Nat):Env:=D0 [(93,L8),(38,PK)] [] 26 N
theorem zeF (N:Nat) (m:Md) (q:Qy):DV (Ry N) yL [.tmp 4] [[.list false []]] [(Md.V m),(Qy.V q)]=(cond (!FH m q) (some ((.bor (FV m q [.zs,.zs,.i 4,.zs,.i 0,.i 0,.i 0,.i 0,.i 0,.i 0,.i 0])),[])) (some ((.bor (FV m q [.vec 37 true EA [(Bx.I (EV q))],.zs,.i 0,.zs,.i 0,.i 0,.i 0,.i 0,.i 0,.i 0,.i 0])),[]))):=by kernel_rfl
def g8 (N:Nat):Env:=D0 [(172,iA)] [] 22 N
theorem zeJ (N:Nat) (m:Md) (q:Qy) (left u00:LI) (k w0 w1 w2 w3 tw vs sp:Int):DV (g8 N) dS [.cell 2 50] [[.z,.list true [.bool,.z,.z],.z,.z,.z,.z,.z,.z]] [.bor (FV m q [.vec 37 true EA left,.vec 101 true D8 u00,.i k,.zs,.i w0,.i w1,.i w2,.i w3,.i tw,.i vs,.i sp])]=(cond (k==0) (some ((.agg [.i 3,.list true D8 [],.i w0,.i w1,.i w2,.i w3,.i tw,.i sp]),[(FV m q [.vec 37 true EA (AK (AF left) left),.vec 101 true D8 (AK (AF u00) u00),.i k,.zs,.i w0,.i w1,.i w2,.i w3,.i tw,.i vs,.i sp])])) (some ((.agg [.i k,.list true D8 [],.i w0,.i w1,.i w2,.i w3,.i tw,.i sp]),[(FV m q [.vec 37 true EA (AK (AF left) left),.vec 101 true D8 (AK (AF u00) u00),.i k,.zs,.i w0,.i w1,.i w2,.i w3,.i tw,.i vs,.i sp])]))):=by kernel_rfl
theorem zeK (N:Nat) (m:Md) (q:Qy) (left:LI) (k w0 w1 w2 w3 tw vs sp:Int):DV (g8 N) dS [.cell 2 50] [[.z,.list true [.bool,.z,.z],.z,.z,.z,.z,.z,.z]] [.bor (FV m q [.vec 37 true EA left,.zs,.i k,.zs,.i w0,.i w1,.i w2,.i w3,.i tw,.i vs,.i sp])]=(cond (k==0) (some ((.agg [.i 3,.list true D8 [],.i w0,.i w1,.i w2,.i w3,.i tw,.i sp]),[(FV m q [.vec 37 true EA (AK (AF left) left),.zs,.i k,.zs,.i w0,.i w1,.i w2,.i w3,.i tw,.i vs,.i sp])])) (some ((.agg [.i k,.list true D8 [],.i w0,.i w1,.i w2,.i w3,.i tw,.i sp]),[(FV m q [.vec 37 true EA (AK (AF left) left),.zs,.i k,.zs,.i w0,.i w1,.i w2,.i w3,.i tw,.i vs,.i sp])]))):=by kernel_rfl
theorem zeL (N:Nat) (m:Md) (q:Qy) (left u00 vp:LI) (k w0 w1 w2 w3 tw vs sp:Int):DV (g8 N) dS [.cell 2 50] [[.z,.list true [.bool,.z,.z],.z,.z,.z,.z,.z,.z]] [.bor (FV m q [.vec 37 true EA left,.list true D8 u00,.i k,.list true D8 vp,.i w0,.i w1,.i w2,.i w3,.i tw,.i vs,.i sp])]=(cond (k==0) (cond (B6 (AF vp) 100000) (some ((.agg [.i 3,.list true D8 (AO 0 (AK (AF vp) vp)),.i w0,.i w1,.i w2,.i w3,.i tw,.i sp]),[(FV m q [.vec 37 true EA (AK (AF left) left),.list true D8 u00,.i k,.list true D8 vp,.i w0,.i w1,.i w2,.i w3,.i tw,.i vs,.i sp])])) none) (cond (B6 (AF vp) 100000) (some ((.agg [.i k,.list true D8 (AO 0 (AK (AF vp) vp)),.i w0,.i w1,.i w2,.i w3,.i tw,.i sp]),[(FV m q [.vec 37 true EA (AK (AF left) left),.list true D8 u00,.i k,.list true D8 vp,.i w0,.i w1,.i w2,.i w3,.i tw,.i vs,.i sp])])) none)):=by kernel_rfl
theorem zeM (N:Nat) (m:Md) (q:Qy) (k w0 w1 w2 w3 tw vs sp:Int):DV (g8 N) dS [.cell 2 50] [[.z,.list true [.bool,.z,.z],.z,.z,.z,.z,.z,.z]] [.bor (FV m q [.zs,.zs,.i k,.zs,.i w0,.i w1,.i w2,.i w3,.i tw,.i vs,.i sp])]=(cond (k==0) (some ((.agg [.i 3,.list true D8 [],.i w0,.i w1,.i w2,.i w3,.i tw,.i sp]),[(FV m q [.zs,.zs,.i k,.zs,.i w0,.i w1,.i w2,.i w3,.i tw,.i vs,.i sp])])) (some ((.agg [.i k,.list true D8 [],.i w0,.i w1,.i w2,.i w3,.i tw,.i sp]),[(FV m q [.zs,.zs,.i k,.zs,.i w0,.i w1,.i w2,.i w3,.i tw,.i vs,.i sp])]))):=by kernel_rfl
def g7 (N:Nat):Env:=D0 [(124,NO),(169,bY),(170,bZ),(171,cA),(62,R6)] [] 165 N
theorem Fa (N:Nat) (m:Md) (q:Qy) (left u00:LI) (k w0 w1 w2 w3 tw vs sp:Int):DV (g7 N) dR [.tmp 2] [[.bool]] [.bor (FV m q [.vec 37 true EA left,.vec 101 true D8 u00,.i k,.zs,.i w0,.i w1,.i w2,.i w3,.i tw,.i vs,.i sp])]=(cond (k != 0) (some ((.bool false),[(FV m q [.vec 37 true EA (AK (AF left) left),.vec 101 true D8 (AK (AF u00) u00),.i k,.zs,.i w0,.i w1,.i w2,.i w3,.i tw,.i vs,.i sp])])) (cond (decide (sp≥Qy.bu q)) (some ((.bool false),[(FV m q [.vec 37 true EA (AK (AF left) left),.vec 101 true D8 (AK (AF u00) u00),.i k,.zs,.i w0,.i w1,.i w2,.i w3,.i tw,.i vs,.i sp])])) (cond (decide (0≤AA AB (ic (AF left - 0) - 1))&&decide (AA AB (ic (AF left - 0) - 1) < ic (AF left - 0))) (cond (decide (0≤AA AB (ic (AF left - 0) - 1))&&decide (AA AB (ic (AF left - 0) - 1)≤ic (AF left - 0))) (cond (HG m q (DY (AH left (0+AD (AA AB (ic (AF left - 0) - 1))) default))) (cond (decide ((AF u00+1)*24≤D6)) (cond (ic (0+AD (AA AB (ic (AF left - 0) - 1)) - 0)==0) (some ((.bool true),[(FV m q [.vec 37 true EA (AK (0+AD (AA AB (ic (AF left - 0) - 1))) left),.list true D8 (AO 0 (AK (AF u00+1) (AK (AF u00) u00++[IV.agg [IV.bool true,IV.int 0,IV.int 0]]))),.i 1,.list true D8 (AO 0 (AK (AF u00+1) (AK (AF u00) u00++[IV.agg [IV.bool true,IV.int 0,IV.int 0]]))),.i 0,.i 0,.i 0,.i 0,.i 0,.i 0,.i (AA AB (sp+1))])])) (some ((.bool true),[(FV m q [.vec 37 true EA (AK (0+AD (AA AB (ic (AF left - 0) - 1))) left),.vec 101 true D8 (AK (AF u00+1) (AK (AF u00) u00++[IV.agg [IV.bool true,IV.int 0,IV.int 0]])),.i k,.zs,.i w0,.i w1,.i w2,.i w3,.i tw,.i vs,.i (AA AB (sp+1))])]))) none) (cond (GJ m q (Bx.low (DY (AH left (0+AD (AA AB (ic (AF left - 0) - 1))) default))) (Sp.hi (Bx.s4 (DY (AH left (0+AD (AA AB (ic (AF left - 0) - 1))) default))))) (some ((.bool true),[(FV m q [.vec 37 true EA (AK (0+AD (AA AB (ic (AF left - 0) - 1))) left),.vec 101 true D8 (AK (AF u00) u00),.i 2,.zs,.i (Pt.p0 (Bx.low (DY (AH left (0+AD (AA AB (ic (AF left - 0) - 1))) default)))),.i (Pt.p1 (Bx.low (DY (AH left (0+AD (AA AB (ic (AF left - 0) - 1))) default)))),.i (Pt.p2 (Bx.low (DY (AH left (0+AD (AA AB (ic (AF left - 0) - 1))) default)))),.i (Pt.p3 (Bx.low (DY (AH left (0+AD (AA AB (ic (AF left - 0) - 1))) default)))),.i (Sp.hi (Bx.s4 (DY (AH left (0+AD (AA AB (ic (AF left - 0) - 1))) default)))),.i 0,.i (AA AB (sp+1))])])) (cond (EP m) (cond (!Option.isSome (FX m q (DY (AH left (0+AD (AA AB (ic (AF left - 0) - 1))) default)))) (some ((.bool true),[(FV m q [.vec 37 true EA (AK (0+AD (AA AB (ic (AF left - 0) - 1))) left),.vec 101 true D8 (AK (AF u00) u00),.i 3,.zs,.i 0,.i 0,.i 0,.i 0,.i 0,.i 0,.i (AA AB (sp+1))])])) (cond (GZ (KQ (FX m q (DY (AH left (0+AD (AA AB (ic (AF left - 0) - 1))) default))))) (cond (decide ((0+AD (AA AB (ic (AF left - 0) - 1))+2)*80≤D6)) (cond (decide ((AF u00+1)*24≤D6)) (some ((.bool true),[(FV m q [.vec 37 true EA (AK (0+AD (AA AB (ic (AF left - 0) - 1))+2) (AK (0+AD (AA AB (ic (AF left - 0) - 1))) left++[(Bx.I (Bx.cutH (DY (AH left (0+AD (AA AB (ic (AF left - 0) - 1))) default)) (KQ (FX m q (DY (AH left (0+AD (AA AB (ic (AF left - 0) - 1))) default)))) (P8 (FX m q (DY (AH left (0+AD (AA AB (ic (AF left - 0) - 1))) default)))))),(Bx.I (Bx.cutL (DY (AH left (0+AD (AA AB (ic (AF left - 0) - 1))) default)) (KQ (FX m q (DY (AH left (0+AD (AA AB (ic (AF left - 0) - 1))) default)))) (P8 (FX m q (DY (AH left (0+AD (AA AB (ic (AF left - 0) - 1))) default))))))])),.vec 101 true D8 (AK (AF u00+1) (AK (AF u00) u00++[IV.agg [IV.bool false,IV.int (KQ (FX m q (DY (AH left (0+AD (AA AB (ic (AF left - 0) - 1))) default)))),IV.int (P8 (FX m q (DY (AH left (0+AD (AA AB (ic (AF left - 0) - 1))) default))))]])),.i k,.zs,.i w0,.i w1,.i w2,.i w3,.i tw,.i vs,.i (AA AB (sp+1))])])) none) none) none)) none))) none) none))):=by kernel_rfl
theorem Fb (N:Nat) (m:Md) (q:Qy) (left:LI) (k w0 w1 w2 w3 tw vs sp:Int):DV (g7 N) dR [.tmp 2] [[.bool]] [.bor (FV m q [.vec 37 true EA left,.zs,.i k,.zs,.i w0,.i w1,.i w2,.i w3,.i tw,.i vs,.i sp])]=(cond (k != 0) (some ((.bool false),[(FV m q [.vec 37 true EA (AK (AF left) left),.zs,.i k,.zs,.i w0,.i w1,.i w2,.i w3,.i tw,.i vs,.i sp])])) (cond (decide (sp≥Qy.bu q)) (some ((.bool false),[(FV m q [.vec 37 true EA (AK (AF left) left),.zs,.i k,.zs,.i w0,.i w1,.i w2,.i w3,.i tw,.i vs,.i sp])])) (cond (decide (0≤AA AB (ic (AF left - 0) - 1))&&decide (AA AB (ic (AF left - 0) - 1) < ic (AF left - 0))) (cond (decide (0≤AA AB (ic (AF left - 0) - 1))&&decide (AA AB (ic (AF left - 0) - 1)≤ic (AF left - 0))) (cond (HG m q (DY (AH left (0+AD (AA AB (ic (AF left - 0) - 1))) default))) (cond (ic (0+AD (AA AB (ic (AF left - 0) - 1)) - 0)==0) (some ((.bool true),[(FV m q [.vec 37 true EA (AK (0+AD (AA AB (ic (AF left - 0) - 1))) left),.list true D8 [(IV.agg [IV.bool true,IV.int 0,IV.int 0])],.i 1,.list true D8 [(IV.agg [IV.bool true,IV.int 0,IV.int 0])],.i 0,.i 0,.i 0,.i 0,.i 0,.i 0,.i (AA AB (sp+1))])])) (some ((.bool true),[(FV m q [.vec 37 true EA (AK (0+AD (AA AB (ic (AF left - 0) - 1))) left),.vec 101 true D8 [(IV.agg [IV.bool true,IV.int 0,IV.int 0])],.i k,.zs,.i w0,.i w1,.i w2,.i w3,.i tw,.i vs,.i (AA AB (sp+1))])]))) (cond (GJ m q (Bx.low (DY (AH left (0+AD (AA AB (ic (AF left - 0) - 1))) default))) (Sp.hi (Bx.s4 (DY (AH left (0+AD (AA AB (ic (AF left - 0) - 1))) default))))) (some ((.bool true),[(FV m q [.vec 37 true EA (AK (0+AD (AA AB (ic (AF left - 0) - 1))) left),.zs,.i 2,.zs,.i (Pt.p0 (Bx.low (DY (AH left (0+AD (AA AB (ic (AF left - 0) - 1))) default)))),.i (Pt.p1 (Bx.low (DY (AH left (0+AD (AA AB (ic (AF left - 0) - 1))) default)))),.i (Pt.p2 (Bx.low (DY (AH left (0+AD (AA AB (ic (AF left - 0) - 1))) default)))),.i (Pt.p3 (Bx.low (DY (AH left (0+AD (AA AB (ic (AF left - 0) - 1))) default)))),.i (Sp.hi (Bx.s4 (DY (AH left (0+AD (AA AB (ic (AF left - 0) - 1))) default)))),.i 0,.i (AA AB (sp+1))])])) (cond (EP m) (cond (!Option.isSome (FX m q (DY (AH left (0+AD (AA AB (ic (AF left - 0) - 1))) default)))) (some ((.bool true),[(FV m q [.vec 37 true EA (AK (0+AD (AA AB (ic (AF left - 0) - 1))) left),.zs,.i 3,.zs,.i 0,.i 0,.i 0,.i 0,.i 0,.i 0,.i (AA AB (sp+1))])])) (cond (GZ (KQ (FX m q (DY (AH left (0+AD (AA AB (ic (AF left - 0) - 1))) default))))) (cond (decide ((0+AD (AA AB (ic (AF left - 0) - 1))+2)*80≤D6)) (some ((.bool true),[(FV m q [.vec 37 true EA (AK (0+AD (AA AB (ic (AF left - 0) - 1))+2) (AK (0+AD (AA AB (ic (AF left - 0) - 1))) left++[(Bx.I (Bx.cutH (DY (AH left (0+AD (AA AB (ic (AF left - 0) - 1))) default)) (KQ (FX m q (DY (AH left (0+AD (AA AB (ic (AF left - 0) - 1))) default)))) (P8 (FX m q (DY (AH left (0+AD (AA AB (ic (AF left - 0) - 1))) default)))))),(Bx.I (Bx.cutL (DY (AH left (0+AD (AA AB (ic (AF left - 0) - 1))) default)) (KQ (FX m q (DY (AH left (0+AD (AA AB (ic (AF left - 0) - 1))) default)))) (P8 (FX m q (DY (AH left (0+AD (AA AB (ic (AF left - 0) - 1))) default))))))])),.vec 101 true D8 [(IV.agg [IV.bool false,IV.int (KQ (FX m q (DY (AH left (0+AD (AA AB (ic (AF left - 0) - 1))) default)))),IV.int (P8 (FX m q (DY (AH left (0+AD (AA AB (ic (AF left - 0) - 1))) default))))])],.i k,.zs,.i w0,.i w1,.i w2,.i w3,.i tw,.i vs,.i (AA AB (sp+1))])])) none) none)) none))) none) none))):=by kernel_rfl
theorem zeH (N:Nat) (m:Md) (q:Qy) (left u00 vp:LI) (k w0 w1 w2 w3 tw vs sp:Int):DV (g7 N) dR [.tmp 2] [[.bool]] [.bor (FV m q [.vec 37 true EA left,.list true D8 u00,.i k,.list true D8 vp,.i w0,.i w1,.i w2,.i w3,.i tw,.i vs,.i sp])]=(cond (k != 0) (some ((.bool false),[(FV m q [.vec 37 true EA (AK (AF left) left),.list true D8 u00,.i k,.list true D8 vp,.i w0,.i w1,.i w2,.i w3,.i tw,.i vs,.i sp])])) (cond (decide (sp≥Qy.bu q)) (some ((.bool false),[(FV m q [.vec 37 true EA (AK (AF left) left),.list true D8 u00,.i k,.list true D8 vp,.i w0,.i w1,.i w2,.i w3,.i tw,.i vs,.i sp])])) (cond (decide (0≤AA AB (ic (AF left - 0) - 1))&&decide (AA AB (ic (AF left - 0) - 1) < ic (AF left - 0))) (cond (decide (0≤AA AB (ic (AF left - 0) - 1))&&decide (AA AB (ic (AF left - 0) - 1)≤ic (AF left - 0))) (cond (HG m q (DY (AH left (0+AD (AA AB (ic (AF left - 0) - 1))) default))) none (cond (GJ m q (Bx.low (DY (AH left (0+AD (AA AB (ic (AF left - 0) - 1))) default))) (Sp.hi (Bx.s4 (DY (AH left (0+AD (AA AB (ic (AF left - 0) - 1))) default))))) (some ((.bool true),[(FV m q [.vec 37 true EA (AK (0+AD (AA AB (ic (AF left - 0) - 1))) left),.list true D8 u00,.i 2,.zs,.i (Pt.p0 (Bx.low (DY (AH left (0+AD (AA AB (ic (AF left - 0) - 1))) default)))),.i (Pt.p1 (Bx.low (DY (AH left (0+AD (AA AB (ic (AF left - 0) - 1))) default)))),.i (Pt.p2 (Bx.low (DY (AH left (0+AD (AA AB (ic (AF left - 0) - 1))) default)))),.i (Pt.p3 (Bx.low (DY (AH left (0+AD (AA AB (ic (AF left - 0) - 1))) default)))),.i (Sp.hi (Bx.s4 (DY (AH left (0+AD (AA AB (ic (AF left - 0) - 1))) default)))),.i 0,.i (AA AB (sp+1))])])) (cond (EP m) (cond (!Option.isSome (FX m q (DY (AH left (0+AD (AA AB (ic (AF left - 0) - 1))) default)))) (some ((.bool true),[(FV m q [.vec 37 true EA (AK (0+AD (AA AB (ic (AF left - 0) - 1))) left),.list true D8 u00,.i 3,.zs,.i 0,.i 0,.i 0,.i 0,.i 0,.i 0,.i (AA AB (sp+1))])])) (cond (GZ (KQ (FX m q (DY (AH left (0+AD (AA AB (ic (AF left - 0) - 1))) default))))) (cond (decide ((0+AD (AA AB (ic (AF left - 0) - 1))+2)*80≤D6)) none none) none)) none))) none) none))):=by kernel_rfl
theorem zeI (N:Nat) (m:Md) (q:Qy) (k w0 w1 w2 w3 tw vs sp:Int):DV (g7 N) dR [.tmp 2] [[.bool]] [.bor (FV m q [.zs,.zs,.i k,.zs,.i w0,.i w1,.i w2,.i w3,.i tw,.i vs,.i sp])]=(cond (k != 0) (some ((.bool false),[(FV m q [.zs,.zs,.i k,.zs,.i w0,.i w1,.i w2,.i w3,.i tw,.i vs,.i sp])])) (cond (decide (sp≥Qy.bu q)) (some ((.bool false),[(FV m q [.zs,.zs,.i k,.zs,.i w0,.i w1,.i w2,.i w3,.i tw,.i vs,.i sp])])) none)):=by kernel_rfl
open Go Go.Proofs Go.RowKit Go.Sort Go.Lib
theorem ziT:(PR.info? 101).map (fun i=>(i.zero,i.size,i.bytes))=some (some (.agg #[.bool false,.int .i64 0,.int .i64 0]),3,24):=by kernel_rfl
set_option maxHeartbeats 4000000 in
theorem Vk (b:Addr) (n c:Nat) (news:List Value) (w:World) (hl:news.length=n*3) (hn:n≤maxLen) (hbig:n*24≤140737488355328)
  (hc:∀ j u,news[j]?=some u→w.cell? (b.add j)=some u) (h1:∀ u∈news,u.oneCell'=true) :
  Calls Tryz.prog 172 #[.slice (some b) n c] w fun e w'=>∃ v',e = .returned v'∧w'.ownsRow w.heap.size 101 3 v' n news∧Below w.heap.size w w':=by
 obtain ⟨i0,hi,hz0,hz1,hz2⟩:∃ i,PR.info? 101=some i∧i.zero=some (.agg #[.bool false,.int .i64 0,.int .i64 0])∧i.size=3∧i.bytes=24:=by
  have h:=ziT;rw [Option.map_eq_some_iff] at h;obtain ⟨i,hi,he⟩:=h;simp only [Prod.mk.injEq] at he;exact ⟨i,hi,he⟩
 have qS:∀ (w:World) (a:Option Addr) (n c n' c':Nat),(binOp .eql 46 (.slice a n c) (.slice none n' c')).run Tryz.prog w = .ok (.bool a.isNone) w:=fun w a n c n' c'=>Lib.run_eql_slice_nil w _ _ a n c n' c' Tryz.underlying46
 have A:Aside (∀ j u,news[j]?=some u→w.cell? (b.add j)=some u):=hc;clear hc
 go_enter Tryz.func172,Tryz.ntmps172
 go_wp2_with (at_builtin; refine wpList_append_own _ rfl _ _ 46 rfl w.heap.size 101 i0 (.agg #[.bool false,.int .i64 0,.int .i64 0]) 3 24 Tryz.underlying46 hi hz0 hz1 hz2 rfl (by decide) _ _ _ rfl (World.ownsRow_made w #[] 0 (Nat.le_refl _) (Nat.zero_le _) (by simp)) b n c news rfl ?qc1 ?qc2 ?qc3 ?qc4 ?qc5 ?qc6 ?_)
 case qc1=>exact hl
 case qc2=>
  intro j u hj;exact Lib.cell?_alloc_some _ (A.out j u hj)
 case qc3=>exact h1
 case qc4=>rw [Nat.zero_add]; exact hn
 case qc5=>rw [Nat.zero_add]; exact hbig
 case qc6=>simp
 intro v' w1 hown hgrow hnil
 go_wp2
 go_ret
 refine ⟨v',rfl,by simpa using hown,?_⟩;exact ((Below.refl _ w).alloc (Nat.le_refl _) _).grown hgrow (by simp) (by intro k hk; simp [Value.ownBlock] at hk; omega)
set_option maxHeartbeats 1000000 in
theorem Vl (n c:Nat) (w:World):Calls Tryz.prog 172 #[.slice none n c] w fun e w'=>e = .returned (.slice none 0 0)∧w'=w:=by
 have qS:∀ (w:World) (a:Option Addr) (n c n' c':Nat),(binOp .eql 46 (.slice a n c) (.slice none n' c')).run Tryz.prog w = .ok (.bool a.isNone) w:=fun w a n c n' c'=>Lib.run_eql_slice_nil w _ _ a n c n' c' Tryz.underlying46
 go_enter Tryz.func172,Tryz.ntmps172
 go_wp2
 go_ret
 exact ⟨rfl,rfl⟩
def PB (y:IV):Nat→Value
 | 0=>.bool (H9 y)
 | 1=>.int .i64 (E9 y)
 | _=>.int .i64 (F2 y)
def P9 (l:LI):List Value:=l.flatMap fun y=>[PB y 0,PB y 1,PB y 2]
theorem tI:∀ l:LI,(P9 l).length=l.length*3
 | []=>rfl
 | y :: r=>by
  have:=tI r
  unfold P9 at this ⊢;rw [vai,AU,this,AN];simp;omega
theorem lT:∀ (l:LI) (j:Nat) (u:Value),(P9 l)[j]?=some u→∃ i y k,j=i*3+k∧k < 3∧l[i]?=some y∧u=PB y k
 | [],j,u,h=>by simp [P9] at h
 | y :: r,j,u,h=>by
  have e:P9 (y :: r)=[PB y 0,PB y 1,PB y 2]++P9 r:=by unfold P9; rw [vai]
  rw [e] at h
  match j,h with
  | 0,h=>exact ⟨0,y,0,rfl,by omega,rfl,by simpa using h.symm⟩
  | 1,h=>exact ⟨0,y,1,rfl,by omega,rfl,by simpa using h.symm⟩
  | 2,h=>exact ⟨0,y,2,rfl,by omega,rfl,by simpa using h.symm⟩
  | j+3,h=>
   obtain ⟨i,z,k,rfl,hk,hi,hu⟩:=lT r j u (by simpa using h);exact ⟨i+1,z,k,by omega,hk,by simpa using hi,hu⟩
theorem ziN (l:LI) (i:Nat) (y:IV) (hy:l[i]?=some y) (k:Nat) (hk:k < 3):(P9 l)[i*3+k]?=some (PB y k):=by
 have hi:i < l.length:=(BL.1 hy).1;have hlt:i*3+k < (P9 l).length:=by rw [tI]; omega
 obtain ⟨i',y',k',h1,h2,h3,h4⟩:=lT l (i*3+k) _ (A5 hlt);obtain rfl:i'=i:=by omega
 obtain rfl:k'=k:=by omega
 rw [hy] at h3;simp only [AC] at h3;subst h3;rw [A5 hlt,h4]
theorem ziq:DS PR B0 172 iA:=by
 intro w X γ vs xs r out hsp hg hx hR hV;unfold iA at hsp;simp only at hsp;split at hsp
 ·rename_i l;cases hc:B6 l.length 100000 with
  | false=>rw [hc] at hsp; simp [R.get] at hsp
  | true=>
   rw [hc] at hsp;have hc:=AM hc;simp only [R.get,AC,AQ] at hsp;obtain ⟨rfl,rfl⟩:=hsp;obtain ⟨x0,rfl⟩:∃ x0,xs=[x0]:=by
    have:=hV.length
    simp at this
    match xs,this with
    | [a],_=>exact ⟨a,rfl⟩
   simp only [AZ,CC,EC,VRels,VRel,B4] at hV;simp only [Kd.Rel,IV.toList] at hV;obtain ⟨p,c,rfl,hc1,hc2,hc3,hcell⟩:=hV;have key:∀ i y,l[i]?=some y→∃ b o,p=some ⟨b,o,none⟩∧(∀ k,k < 3→w.cell? ⟨b,o+i*3+k,none⟩=some (PB y k))∧(AB.min≤E9 y∧E9 y≤AB.max)∧(AB.min≤F2 y∧F2 y≤AB.max):=fun i y hy=>by
    obtain ⟨b,o,rfl,_,_,hr⟩:=hcell i y hy;simp only [Kd.RelAll,B4,AN,BB,BJ,C6] at hr;obtain ⟨⟨u0,a0,b0⟩,⟨u1,a1,b1⟩,⟨u2,a2,b2⟩⟩:=hr;simp only [Kd.Rel,FS] at b0 b1 b2;refine ⟨b,o,rfl,fun k hk=>?_,b1.2,b2.2⟩
    match k,hk with
    | 0,_=>rw [b0] at a0; exact a0
    | 1,_=>rw [b1.1] at a1; exact a1
    | 2,_=>rw [b2.1] at a2; exact a2
   have hel:∀ (w':World) (O:Nat→Prop) i y,l[i]?=some y→Kd.RelAll w' O D8 (FS true y) 0 (fun j u=>(P9 l)[i*D8.length+j]?=some u):=fun w' O i y hy=>by
    obtain ⟨_,_,_,_,k1,k2⟩:=key i y hy;simp only [Kd.RelAll,AN,BB,BJ,C6,B4];have g:=ziN l i y hy;refine ⟨⟨_,g 0 (by omega),?_⟩,⟨_,g 1 (by omega),?_⟩,⟨_,g 2 (by omega),?_⟩⟩
    ·simp only [Kd.Rel,FS,PB,H9]
    ·simp only [Kd.Rel,FS,PB,E9]; exact ⟨trivial,k1⟩
    ·simp only [Kd.Rel,FS,PB,F2]; exact ⟨trivial,k2⟩
   refine Kf hR rfl (by decide) (by decide) hc3 (Does.of_calls Tryz.func172 (by kernel_rfl) (by kernel_rfl) ?_);cases p with
   | none=>
    have h0:l=[]:=by
     cases l with
     | nil=>rfl
     | cons y r=>
      obtain ⟨b,o,hp,_⟩:=key 0 y rfl;cases hp
    subst h0;refine (Vl _ c w).mono ?_;rintro e w' ⟨rfl,rfl⟩;exact ⟨_,[],rfl,Keep.refl _ _,⟨rfl,.inl ⟨rfl,rfl⟩⟩,hel _⟩
   | some a=>
    refine (Vk a l.length c (P9 l) w (tI l) (by unfold maxLen; omega) (by omega) (fun j u hj=>?_) (fun u hu=>?_)).mono ?_
    ·obtain ⟨i,y,k,rfl,hk,hi,rfl⟩:=lT l j u hj;obtain ⟨b,o,hp,hu,_⟩:=key i y hi;simp only [AC] at hp;subst hp;rw [Addr.add_lit,← vaG];exact hu k hk
    ·obtain ⟨j,hj⟩:=List.getElem?_of_mem hu;obtain ⟨i,y,k,_,hk,_,rfl⟩:=lT l j u hj
     match k,hk with
     | 0,_=>rfl
     | 1,_=>rfl
     | 2,_=>rfl
    ·rintro e w' ⟨v',rfl,hown,hw⟩;exact ⟨v',_,rfl,Keep.below hw,hown,hel _⟩
 ·simp [R.get] at hsp
open Go Go.Proofs
set_option maxRecDepth 100000
theorem zc3 {l:List V} {m:Md} (h:mdOf? l=some m):l=m.cs:=by
 unfold mdOf? at h;split at h
 ·simp only [AC] at h;subst h;rfl
 ·cases h
theorem zgw {l:List V} {q:Qy} (h:qyOf? l=some q):l=q.cs:=by
 unfold qyOf? at h;split at h
 ·simp only [AC] at h;subst h;rfl
 ·cases h
theorem zha {l r:List V} {m:Md} {q:Qy} (h:seOf? l=some (m,q,r)):l=FV m q r:=by
 unfold seOf? at h;split at h
 ·rename_i m' q' h1 h2;simp only [AC,AQ] at h;obtain ⟨rfl,rfl,rfl⟩:=h;unfold FV;rw [← zc3 h1,← zgw h2,List.take_append_drop,List.take_append_drop]
 ·cases h
def Ln (t:Nat) (s:Sr):Prop:=t≤3∧(t=3→s.left=[])∧(t=1∨t=3→s.proof=[])∧(t≠2→s.v.proof=[])
theorem ziM {r:List V} {t:Nat} {s:Sr} (h:srT? r=some (t,s)) (m:Md) (q:Qy):FV m q r=PA t m q s∧Ln t s:=by
 unfold srT? at h;split at h
 case h_5=>cases h
 all_goals
  simp only [AC,AQ] at h;obtain ⟨rfl,rfl⟩:=h;refine ⟨rfl,by omega,?_,?_,?_⟩ <;> intro h <;> first | rfl | (exfalso; omega)
theorem Pf {v:V} {k:Nat→Md→Qy→Sr→R} {z:V × List (List V)} (h:(mK v k).get=some z):∃ t m q s,v = .bor (PA t m q s)∧Ln t s∧(k t m q s).get=some z:=by
 unfold mK at h;split at h
 ·rename_i l;split at h
  ·rename_i m q r hl;split at h
   ·rename_i t s hr;obtain ⟨e,hw⟩:=ziM hr m q;exact ⟨t,m,q,s,by rw [zha hl,e],hw,h⟩
   ·simp [R.get] at h
  ·simp [R.get] at h
 ·simp [R.get] at h
theorem zin:DS PR B0 114 cW:=by
 refine D2 [(93,L8),(38,PK)] [] cW [[.list false []]] Tryz.func114 zbN ⟨ZY,lQ,trivial⟩ ?_;intro vs r hwf h;unfold cW at h;split at h
 ·rename_i m q;replace h:=IO h;obtain ⟨m,rfl,h⟩:=h;replace h:=I0 h;obtain ⟨q,rfl,h⟩:=h;refine ⟨0,(zeF 0 m q).trans ?_⟩;cases hr:FH m q with
  | true=>rw [hr,R.get_br,DE,R.get_ok] at h; exact h
  | false=>rw [hr,R.get_br,DG,R.get_ok] at h; exact h
 ·simp [R.get] at h
theorem zip:DS PR B0 116 cY:=by
 refine D2 [(172,iA)] [] cY [[.z,.list true [.bool,.z,.z],.z,.z,.z,.z,.z,.z]] Tryz.func116 zbQ ⟨ziq,trivial⟩ ?_;intro vs r hwf h;unfold cY at h;split at h
 ·replace h:=Pf h;obtain ⟨t,m,q,s,rfl,hw,h⟩:=h;cases hg:B6 s.v.proof.length 100000 with
  | false=>rw [hg] at h; simp [R.get] at h
  | true=>
   rw [hg,R.get_br,DE,R.get_ok] at h;refine ⟨0,?_⟩;rw [← h];obtain ⟨left,proof,⟨k,vp,a,b,c,d,tw,vs⟩,sp⟩:=s;replace hg:B6 vp.length 100000=true:=hg
   match t,hw with
   | 0,hw=>
    obtain rfl:vp=[]:=hw.2.2.2 (by omega);refine (zeJ 0 m q left proof k a b c d tw vs sp).trans ?_;rw [BI,BI];unfold U2;cases (k==0) <;> rfl
   | 1,hw=>
    obtain rfl:vp=[]:=hw.2.2.2 (by omega);refine (zeK 0 m q left k a b c d tw vs sp).trans ?_;rw [BI];unfold U2;cases (k==0) <;> rfl
   | 2,_=>
    refine (zeL 0 m q left proof vp k a b c d tw vs sp).trans ?_;rw [BI,hg,DE,DE,BZ,BI];unfold U2;cases (k==0) <;> rfl
   | 3,hw=>
    obtain rfl:vp=[]:=hw.2.2.2 (by omega);refine (zeM 0 m q k a b c d tw vs sp).trans ?_;unfold U2;cases (k==0) <;> rfl
   | t+4,hw=>exact absurd hw.1 (by omega)
 ·simp [R.get] at h
theorem Ld (m:Md) (q:Qy) (b:Bx):∀ (d i:Nat),i+d=5→(RM m q b d i).isSome=true→GZ (KQ (RM m q b d i))=true
 | 0,i,_,h=>by rw [RM] at h; cases h
 | d+1,i,hd,h=>by
  rw [RM] at h ⊢;cases hc:decide ((E2 m q b i).length > 0) with
  | true=>
   rw [DE];show GZ (i:Int)=true;unfold GZ;rw [AE (show (0:Int)≤(i:Int) by omega),AE (show (i:Int) < 5 by omega)];rfl
  | false=>
   rw [hc,DG] at h;rw [DG];exact Ld m q b d (i+1) (by omega) h
theorem zio:DS PR B0 115 cX:=by
 refine D2 [(124,NO),(169,bY),(170,bZ),(171,cA),(62,R6)] [] cX [[.bool]] Tryz.func115 zbP ⟨gG,zhX,zhY,zhZ,s8,trivial⟩ ?_;intro vs r hwf h;unfold cX at h;split at h
 ·replace h:=Pf h;obtain ⟨t,m,q,s,rfl,hw,h⟩:=h;refine ⟨0,?_⟩;obtain ⟨left,proof,⟨k,vp,a,b,c,d,tw,vs⟩,sp⟩:=s;cases ho:N7 q ⟨left,proof,⟨k,vp,a,b,c,d,tw,vs⟩,sp⟩ with
  | true=>
   rw [ho,R.get_br,DE,R.get_ok] at h;rw [← h];have hk:(k != 0)=true∨(k != 0)=false∧decide (sp≥q.bu)=true:=by
    unfold N7 at ho;have e:(k != 0)=!(k==0):=rfl;rw [e];cases hk:(k==0) with
    | false=>exact .inl rfl
    | true=>
     replace ho:(!(k==0)||decide (sp≥q.bu))=true:=ho;rw [hk,A1,vaw] at ho;exact .inr ⟨rfl,ho⟩
   match t,hw with
   | 0,hw=>
    refine (Fa 0 m q left proof k a b c d tw vs sp).trans ?_;rcases hk with hk | ⟨hk,hs⟩
    ·rw [hk,DE,BI,BI]; rfl
    ·rw [hk,DG,hs,DE,BI,BI]; rfl
   | 1,hw=>
    refine (Fb 0 m q left k a b c d tw vs sp).trans ?_;rcases hk with hk | ⟨hk,hs⟩
    ·rw [hk,DE,BI]; rfl
    ·rw [hk,DG,hs,DE,BI]; rfl
   | 2,hw=>
    refine (zeH 0 m q left proof vp k a b c d tw vs sp).trans ?_;rcases hk with hk | ⟨hk,hs⟩
    ·rw [hk,DE,BI]; rfl
    ·rw [hk,DG,hs,DE,BI]; rfl
   | 3,hw=>
    refine (zeI 0 m q k a b c d tw vs sp).trans ?_;rcases hk with hk | ⟨hk,hs⟩
    ·rw [hk,DE]; rfl
    ·rw [hk,DG,hs,DE]; rfl
   | t+4,hw=>exact absurd hw.1 (by omega)
  | false=>
   rw [ho,R.get_br,DG] at h;unfold N7 at ho;replace ho:(!(k==0)||decide (sp≥q.bu))=false:=ho;rw [Bool.or_eq_false_iff] at ho;have hk:(k != 0)=false:=ho.1;have hsp:decide (sp≥q.bu)=false:=ho.2;cases hg:(B6 t 1&&(FH m q&&(decide (0≤sp)&&(BK 0 left.length&&(B6 left.length 100000&&B6 proof.length 100000))))) with
   | false=>
    replace h:(R.br (B6 t 1&&(FH m q&&(decide (0≤sp)&&(BK 0 left.length&&(B6 left.length 100000&&B6 proof.length 100000))))) _ R.no).get=some r:=h;rw [hg] at h;simp [R.get] at h
   | true=>
    replace h:(R.br (B6 t 1&&(FH m q&&(decide (0≤sp)&&(BK 0 left.length&&(B6 left.length 100000&&B6 proof.length 100000))))) _ R.no).get=some r:=h;rw [hg,R.get_br,DE] at h;have hst:some (.bool true,[PA (lZ m q t ⟨left,proof,⟨k,vp,a,b,c,d,tw,vs⟩,sp⟩) m q (KS m q ⟨left,proof,⟨k,vp,a,b,c,d,tw,vs⟩,sp⟩)])=some r:=by
     rw [← h];unfold lZ;simp only [R.get_br,R.get_ok];cases HG m q (EB left) with
     | true=>cases (ic (left.length - 1)==0) <;> rfl
     | false=>
      cases GJ m q (EB left).low (EB left).s4.hi with
      | true=>rfl
      | false=>cases (FX m q (EB left)).isSome <;> rfl
    rw [← hst];simp only [AI] at hg;obtain ⟨ht,hr,h0,hl,hl5,hp5⟩:=hg;obtain ⟨hm,_,⟨_,hbu⟩,_,_⟩:=UU hr;have h0:=A0 h0;have hs1:=BH hsp;have hl:0 < left.length:=AM hl;have hl5:=AM hl5;have hp5:=AM hp5;have esp:AA AB (sp+1)=sp+1:=EI (by omega) (by omega);have etop:AA AB (ic (left.length - 0) - 1)=((left.length - 1:Nat):Int):=by
     rw [EI (by simp only [ic]; omega) (by simp only [ic]; omega)];simp only [ic];omega
    have ed:(decide (0≤((left.length - 1:Nat):Int))&&decide (((left.length - 1:Nat):Int) < ic (left.length - 0)))=true:=by
     rw [AE (by omega),AE (by simp only [ic]; omega)];rfl
    have ee:(decide (0≤((left.length - 1:Nat):Int))&&decide (((left.length - 1:Nat):Int)≤ic (left.length - 0)))=true:=by
     rw [AE (by omega),AE (by simp only [ic]; omega)];rfl
    have epop:left.take (left.length - 1+2)=left.take (left.length - 1+2):=rfl;have hlen:(GE left).length=left.length - 1:=by unfold GE; rw [A7]; omega
    have htk:∀ (x y:IV),AK (left.length - 1+2) (AK (left.length - 1) left++[x,y])=GE left++[x,y]:=fun x y=>CX (by rw [AU]; unfold GE at hlen; rw [hlen]; simp)
    have hb80:decide ((left.length - 1+2)*80≤D6)=true:=AE (by unfold D6; omega);have hin:=Ld m q (EB left) 5 0 rfl;replace hin:(FX m q (EB left)).isSome=true→GZ (KQ (FX m q (EB left)))=true:=hin
    match t,ht,hw with
    | 0,_,_=>
     have hb24:decide ((proof.length+1)*24≤D6)=true:=AE (by unfold D6; omega);have htp:∀ x:IV,AK (proof.length+1) (proof++[x])=proof++[x]:=fun x=>CX (by rw [AU]; simp)
     refine (Fa 0 m q left proof k a b c d tw vs sp).trans ?_;rw [hk,DG,hsp,DG,etop,ed,DE,ee,DE,esp,BE];simp only [BJ,vaj,BI];rw [hb24,hb80,hm];unfold KS lZ;show cond (HG m q (EB left)) _ (cond (GJ m q (EB left).low (EB left).s4.hi) _ _)=_;cases HG m q (EB left) with
     | true=>
      simp only [htp,BZ];rw [DE,DE];show cond (ic (left.length - 1)==0) _ _=_;cases (ic (left.length - 1)==0) <;> rfl
     | false=>
      rw [DG];cases GJ m q (EB left).low (EB left).s4.hi with
      | true=>rfl
      | false=>
       rw [DG,DE];show cond (!(FX m q (EB left)).isSome) _ (cond (GZ (KQ (FX m q (EB left)))) _ _)=_;cases hs:(FX m q (EB left)).isSome with
       | false=>rfl
       | true=>
        rw [A1,DG,hin hs,DE,DE,DE];simp only [htp,htk];rfl
    | 1,_,hw=>
     obtain rfl:proof=[]:=hw.2.2.1 (.inl rfl);refine (Fb 0 m q left k a b c d tw vs sp).trans ?_;rw [hk,DG,hsp,DG,etop,ed,DE,ee,DE,esp,BE];simp only [BJ,vaj];rw [hb80,hm];unfold KS lZ;show cond (HG m q (EB left)) _ (cond (GJ m q (EB left).low (EB left).s4.hi) _ _)=_;cases HG m q (EB left) with
     | true=>
      rw [DE];show cond (ic (left.length - 1)==0) _ _=_;cases (ic (left.length - 1)==0) <;> rfl
     | false=>
      rw [DG];cases GJ m q (EB left).low (EB left).s4.hi with
      | true=>rfl
      | false=>
       rw [DG,DE];show cond (!(FX m q (EB left)).isSome) _ (cond (GZ (KQ (FX m q (EB left)))) _ _)=_;cases hs:(FX m q (EB left)).isSome with
       | false=>rfl
       | true=>
        rw [A1,DG,hin hs,DE,DE];simp only [htk];rfl
    | t+2,ht,_=>exact absurd (AM ht) (by omega)
 ·simp [R.get] at h
open Go Go.Proofs
def TO (N:Nat):Env:=D0 [(114,cW),(115,cX),(116,cY)] [(2,⟨[4,5],[4,8,500,501],[⟨.cell 8 23,500,37,true,EA⟩,⟨.cell 8 24,501,101,true,D8⟩]⟩)] 13 N
open Go Go.Proofs
set_option maxRecDepth 100000
abbrev eT:KP:=⟨[4,5],[4,8,500,501],[⟨.cell 8 23,500,37,true,EA⟩,⟨.cell 8 24,501,101,true,D8⟩]⟩
def zg0 (sh:Bool) (s:Sr):List V:=match sh with
 | false=>.row 500 0 s.left.length :: .row 501 0 s.proof.length :: Z6 s.v .zs s.spent
 | true=>.row 500 0 s.left.length :: jO s.proof :: Z6 s.v (jO s.v.proof) s.spent
def zg2 (sh:Bool) (s:Sr):Option Ob:=match sh with
 | false=>some (.row true 101 true D8 s.proof)
 | true=>none
def MO (m:Md) (q:Qy) (sh:Bool) (s:Sr):St:=
 ⟨[(4,.ptr 4 0 0),(5,.ptr 8 0 0)],[(4,some (.box [.int .i64 0,.zs,.int .i64 0,.int .i64 0,.int .i64 0,.int .i64 0,.int .i64 0,.int .i64 0])),(8,some (.box (FV m q (zg0 sh s)))),(500,some (.row true 37 true EA s.left)),(501,zg2 sh s)]⟩
def LY (s:Sr):Sr:=⟨s.left.take s.left.length,s.proof.take s.proof.length,⟨s.v.kind,[],s.v.w0,s.v.w1,s.v.w2,s.v.w3,s.v.twin,s.v.spent⟩,s.spent⟩
def gP (s:Sr):Sr:=⟨s.left.take s.left.length,s.proof,s.v,s.spent⟩
theorem gQ {s:Sr} (h:s.v.proof=[]):LY s=s:=by
 obtain ⟨left,proof,⟨k,vp,a,b,c,d,tw,vs⟩,sp⟩:=s;obtain rfl:vp=[]:=h;unfold LY;simp only [BI]
theorem Nx (s:Sr):gP s=s:=by
 obtain ⟨left,proof,v,sp⟩:=s;unfold gP;simp only [BI]
def qW (m:Md) (q:Qy) (s:Sr):Bool:=FH m q&&(decide (0≤s.spent)&&(BK 0 s.left.length&&(B6 s.left.length 100000&&B6 s.proof.length 100000)))
noncomputable abbrev eJ (N:Nat):Out→St→DJ:=DM 0 (DN (TO N) (DF T7 [1,1,1]) (DP (TO N) none [.cell 4 50] [[.z,.list true D8,.z,.z,.z,.z,.z,.z]]))
theorem zeG (N:Nat) (m:Md) (q:Qy):DV (TO N) T7 [.cell 4 50] [[.z,.list true [.bool,.z,.z],.z,.z,.z,.z,.z,.z]] [m.V,q.V] =
 cond (FH m q) (DT (TO N) (DF T7 [1,1,0,0,0]) eT N (MO m q false ⟨[(EV q).I],[],Vd.none,0⟩) (eJ N))
 (DT (TO N) (DF T7 [1,1,0,0,0]) eT N (MO m q false ⟨[],[],⟨4,[],0,0,0,0,0,0⟩,0⟩) (eJ N)):=by kernel_rfl
theorem tM (N:Nat) (m:Md) (q:Qy) (s:Sr) (again:St→DJ) (k:Out→St→DJ):EX (TO N) (DF T7 [1,1,0,0,0]) (MO m q false s) (ED again eT k) =
 cond (N7 q (LY s)) (k (.exit 0) (MO m q false (LY s)))
 (cond (qW m q (LY s))
 (cond (HG m q (EB (LY s).left)) (cond (ic ((LY s).left.length - 1)==0) (again (MO m q true (KS m q (LY s)))) (again (MO m q false (KS m q (LY s)))))
 (cond (GJ m q (EB (LY s).left).low (EB (LY s).left).s4.hi) (again (MO m q false (KS m q (LY s))))
 (cond (FX m q (EB (LY s).left)).isSome (again (MO m q false (KS m q (LY s)))) (again (MO m q false (KS m q (LY s))))))) none):=by kernel_rfl
theorem ziS (N:Nat) (m:Md) (q:Qy) (s:Sr) (again:St→DJ) (k:Out→St→DJ):EX (TO N) (DF T7 [1,1,0,0,0]) (MO m q true s) (ED again eT k) =
 cond (N7 q (gP s)) (k (.exit 0) (MO m q true (gP s))) none:=by kernel_rfl
theorem Bd (N:Nat) (m:Md) (q:Qy) (s:Sr):eJ N (.exit 0) (MO m q false s)=some ((U2 (LY s)).V,[]):=by kernel_rfl
theorem Yy (N:Nat) (m:Md) (q:Qy) (s:Sr):eJ N (.exit 0) (MO m q true s)=cond (B6 s.v.proof.length 100000) (some ((U2 (gP s)).V,[])) none:=by kernel_rfl
structure SrInv (q:Qy) (sh:Bool) (s:Sr):Prop where
 sp0:0≤s.spent
 sp1:s.spent≤max 0 q.bu
 left:(s.left.length:Int)≤s.spent+1
 proof:(s.proof.length:Int)≤s.spent
 vp:(s.v.proof.length:Int)≤s.spent
 own:sh=false→s.v.proof=[]
 open_:s.v.kind=0→0 < s.left.length
 shut:sh=true→s.v.kind≠0
theorem zf5 (l:LI):(GE l).length=l.length - 1:=by
 unfold GE;rw [A7];omega
theorem SrInv.step {m:Md} {q:Qy} {s:Sr} (h:SrInv q false s) (ho:N7 q s=false) :
  SrInv q (HG m q (EB s.left)&&(ic (s.left.length - 1)==0)) (KS m q s)∧(KS m q s).spent=s.spent+1:=by
 unfold N7 at ho;rw [Bool.or_eq_false_iff] at ho;have hk:s.v.kind=0:=by simpa using ho.1
 have hs:=BH ho.2;have h1:=h.sp0;have h2:=h.left;have h3:=h.proof;have h4:=h.vp;have h5:=h.own rfl;have h6:=h.open_ hk;have hp:=zf5 s.left;have h5':s.v.proof.length=0:=by rw [h5]; rfl
 unfold KS;cases HG m q (EB s.left) with
 | true=>
  rw [DE];cases he:(ic (s.left.length - 1)==0) with
  | true=>
   refine ⟨⟨?_,?_,?_,?_,?_,fun h=>(by cases h),fun h=>(by cases h),fun _=>(show (1:Int)≠0 by decide)⟩,rfl⟩ <;> simp only [B1,AU,CZ] <;> omega
  | false=>
   have hne:s.left.length - 1≠0:=by simpa [ic] using he
   refine ⟨⟨?_,?_,?_,?_,?_,fun _=>h5,fun _=>?_,fun h=>(by cases h)⟩,rfl⟩ <;> simp only [BG,AU,CZ] <;> omega
 | false=>
  rw [DG,BM];cases GJ m q (EB s.left).low (EB s.left).s4.hi with
  | true=>refine ⟨⟨?_,?_,?_,?_,?_,fun _=>rfl,fun h=>(by cases h),fun h=>(by cases h)⟩,rfl⟩ <;> simp only [B1,BB] <;> omega
  | false=>
   rw [DG];cases (FX m q (EB s.left)).isSome with
   | true=>refine ⟨⟨?_,?_,?_,?_,?_,fun _=>h5,fun _=>?_,fun h=>(by cases h)⟩,rfl⟩ <;> simp only [B1,AU,AN,BB] <;> omega
   | false=>refine ⟨⟨?_,?_,?_,?_,?_,fun _=>rfl,fun h=>(by cases h),fun h=>(by cases h)⟩,rfl⟩ <;> simp only [BG,BB] <;> omega
theorem zfn {m:Md} {q:Qy} {s:Sr} (hr:FH m q=true) (h:SrInv q false s) (hk:s.v.kind=0):qW m q s=true:=by
 have hb:=(UU hr).2.2.1;have h1:=h.sp0;have h2:=h.left;have h3:=h.proof;have h6:=h.open_ hk;have h7:=h.sp1;unfold qW;rw [hr,AE h1,CP (show s.left.length≤100000 by omega),CP (show s.proof.length≤100000 by omega)]
 have:BK 0 s.left.length=true:=CP h6
 rw [this];rfl
theorem Iy (N:Nat) (m:Md) (q:Qy) (hr:FH m q=true) (K:Out→St→DJ):∀ (d n:Nat) (sh:Bool) (s:Sr),SrInv q sh s→q.bu < s.spent+d→d < n →
  ∃ sh',SrInv q sh' (XQ m q d s)∧DT (TO N) (DF T7 [1,1,0,0,0]) eT n (MO m q sh s) K=K (.exit 0) (MO m q sh' (XQ m q d s))
 | d,0,sh,s,_,_,h=>absurd h (by omega)
 | 0,n+1,sh,s,hi,hd,_=>by
  have h1:=hi.sp1;have h2:=hi.sp0;have h3:=(UU hr).2.2.1;omega
 | d+1,n+1,sh,s,hi,hd,hn=>by
  rw [XQ];cases ho:N7 q s with
  | true=>
   rw [DE];refine ⟨sh,hi,?_⟩;cases sh with
   | false=>rw [DX,tM,gQ (hi.own rfl),ho,DE]
   | true=>rw [DX,ziS,Nx,ho,DE]
  | false=>
   rw [DG];cases sh with
   | true=>
    unfold N7 at ho;rw [Bool.or_eq_false_iff] at ho
    have:=hi.shut rfl
    simp at ho;exact absurd ho.1 this
   | false=>
    obtain ⟨hi',hs'⟩:=hi.step (m:=m) ho;have hk:s.v.kind=0:=by
     unfold N7 at ho;rw [Bool.or_eq_false_iff] at ho;simpa using ho.1
    obtain ⟨sh',hi2,hrun⟩:=Iy N m q hr K d n _ (KS m q s) hi' (by rw [hs']; omega) (by omega);refine ⟨sh',hi2,?_⟩;rw [← hrun,DX,tM,gQ (hi.own rfl),ho,DG,zfn hr hi hk,DE];cases HG m q (EB s.left) with
    | true=>
     rw [DE,BC];cases (ic (s.left.length - 1)==0) <;> rfl
    | false=>
     rw [DG,BM];cases GJ m q (EB s.left).low (EB s.left).s4.hi with
     | true=>rfl
     | false=>cases (FX m q (EB s.left)).isSome <;> rfl
theorem zdd {m:Md} {q:Qy} (hr:FH m q=true):SrInv q false ⟨[(EV q).I],[],Vd.none,0⟩:=
 ⟨DA _,by have:=(UU hr).2.2.1; show (0:Int)≤_; omega,by simp,by simp,by simp [Vd.none],fun _=>rfl,fun _=>by simp,fun h=>by cases h⟩
theorem Km:DS PR B0 53 V8:=by
 refine D2 [(114,cW),(115,cX),(116,cY)] [(2,⟨[4,5],[4,8,500,501],[⟨.cell 8 23,500,37,true,EA⟩,⟨.cell 8 24,501,101,true,D8⟩]⟩)] V8 [[.z,.list true [.bool,.z,.z],.z,.z,.z,.z,.z,.z]] Tryz.func53 zbO ⟨zin,zio,zip,trivial⟩ ?_;intro vs r hwf h;unfold V8 at h;split at h
 ·rename_i m q;replace h:=IO h;obtain ⟨m,rfl,h⟩:=h;replace h:=I0 h;obtain ⟨q,rfl,h⟩:=h;rw [R.get_ok] at h;refine ⟨70000,?_⟩;rw [← h];refine (zeG 70000 m q).trans ?_;unfold P4 Ez;cases hr:FH m q with
  | true=>
   have hb:=(UU hr).2.2.1;rw [DE,DE];obtain ⟨sh',hi,hrun⟩:=Iy 70000 m q hr (eJ 70000) (q.bu.toNat+1) 70000 false _ (zdd hr) (by show q.bu < 0+_; omega) (by omega);rw [hrun];generalize XQ m q (q.bu.toNat+1) _=s at hi ⊢;cases sh' with
   | false=>rw [Bd,gQ (hi.own rfl)]
   | true=>
    have h1:=hi.vp;have h2:=hi.sp1;rw [Yy,Nx,CP (show s.v.proof.length≤100000 by omega),DE]
  | false=>
   rw [DG,DG];have e:N7 q ⟨[],[],⟨4,[],0,0,0,0,0,0⟩,0⟩=true:=rfl;rw [DX,tM,gQ rfl,e,DE,Bd,gQ rfl,XQ,e,DE]
 ·simp [R.get] at h
open Go
def zja:Md:=⟨1,1,3,0,0,[.agg [.int 0,.list [.int (H2 false 0 0 5 1 2),.int (H2 true 10 0 0 0 0),.int (H2 true 20 0 0 0 0)]]]⟩
def bL:DR
 | []=>.ok zja.V []
 | _=>.no
open Go
def WX (s:Sp):Bool:=decide (-2147483648≤s.lo)&&(decide (s.lo≤s.hi)&&decide (s.hi≤2147483647))
def FW (b:Bx):Bool:=WX b.s0&&(WX b.s1&&(WX b.s2&&(WX b.s3&&WX b.s4)))
def bI:DR
 | [.list false [.int .u64] l,b]=>IB b fun b=>.br (GK l 4&&FW b) (.ok (.tup [.int .i64 (HV l b),.int .i64 (HU l b)]) []) .no
 | _=>.no
def bH:DR
 | [m,.int .i64 k,b]=>IC m fun m=>IB b fun b=>.br (b.emp||FW b) (.ok (.tup [.int .i64 (D5 m k b),.int .i64 (D3 m k b)]) []) .no
 | _=>.no
def bJ:DR
 | [m,q,b]=>IC m fun m=>IP q fun q=>IB b fun b=>.br (FH m q&&(b.emp||FW b)) (.ok (.bool (HG m q b)) []) .no
 | _=>.no
def P2 (x:IV):Bool:=cond (H9 x) (E9 x==0&&F2 x==0) (decide (0≤E9 x)&&decide (E9 x≤4))
def cS:DR
 | [.agg [.bool s,.int .i64 p,.int .i64 a]]=>.ok (.bool (P2 (Z0 s p a))) []
 | _=>.no
def SI (st:Int × Int) (x:IV):Option (Int × Int):=
 cond (st.1==0||!(P2 x)) none (cond (H9 x) (some (st.1 - 1,st.2)) (some (st.1+1,max st.2 (st.1+1))))
def NZ:LI→Int × Int→Option (Int × Int)
 | [],st=>some st
 | x :: r,st=>match SI st x with
  | some st'=>NZ r st'
  | none=>none
def LK (l:LI):Int:=cond (decide (ic l.length > 65536)) 0 (match NZ l (1,1) with
 | some st=>cond (!(st.1==0)||decide (st.2 > 200)) 0 st.2
 | none=>0)
def cR:DR
 | [.list true [.bool,.z,.z] l]=>.ok (.int .i64 (LK l)) []
 | _=>.no
def cP:DR
 | [.list true [.bool,.z,.z] l]=>.ok (.bool (decide (LK l > 0))) []
 | _=>.no
def RI (st:LI × LI) (x:IV):Option (List IV × LI):=
 cond (H9 x) (some (GE st.1,st.2++[(EB st.1).I]))
  (cond (decide (F2 x < ((EB st.1).g (E9 x).toNat).lo)||decide (F2 x≥((EB st.1).g (E9 x).toNat).hi)) none
   (some (GE st.1++[((EB st.1).cutH (E9 x) (F2 x)).I,((EB st.1).cutL (E9 x) (F2 x)).I],st.2)))
def K4:LI→LI × LI→Option (List IV × LI)
 | [],st=>some st
 | x :: r,st=>match RI st x with
  | some st'=>K4 r st'
  | none=>none
def KK (b:Bx) (l:LI):Option LI:=cond (decide (LK l > 0)) ((K4 l ([b.I],[])).map (·.2)) none
def cQ:DR
 | [b,.list true [.bool,.z,.z] l]=>IB b fun b=>.br (KK b l).isSome (.ok (.tup [.list true EA ((KK b l).getD []),.bool true]) []) (.ok (.tup [.list true EA [],.bool false]) [])
 | _=>.no
def Vd.p (v:Vd):Pt:=⟨v.w0,v.w1,v.w2,v.w3⟩
def NB (m:Md) (q:Qy) (v:Vd):Bool:=
 FH m q&&cond (v.kind==1) (match KK (EV q) v.proof with
   | some l=>l.all fun x=>HG m q (DY x)
   | none=>false)
  (cond (v.kind==2) ((EV q).has v.p v.twin&&GJ m q v.p v.twin) false)
def R0:DR
 | [m,q,v]=>IC m fun m=>IP q fun q=>uN v fun v=>.ok (.bool (NB m q v)) []
 | _=>.no
open Go Go.Proofs
def Rr (N:Nat):Env:=D0 [] [] 16 N
theorem zex (N:Nat) (u01:Bool) (u00 s_At:Int):DV (Rr N) yE [.tmp 2] [[.bool]] [.agg [.bool u01,.i u00,.i s_At]]=(cond u01 (some ((.bool (u01==true&&(u00==0&&(s_At==0&&true)))),[])) (cond (decide (u00≥0)) (some ((.bool (decide (u00≤4))),[])) (some ((.bool false),[])))):=by kernel_rfl
def Rq (N:Nat):Env:=D0 [(211,cR)] [] 6 N
theorem zev (N:Nat) (l:LI):DV (Rq N) yD [.tmp 2] [[.bool]] [.list true [.bool,.z,.z] l]=(some ((.bool (decide (LK l > 0))),[])):=by kernel_rfl
def Qc (N:Nat):Env:=D0 [(127,WA)] [(2,⟨[2,3,6,9,10],[3],[]⟩)] 25 N
open Go Go.Proofs
def QP (N:Nat):Env:=D0 [(244,cS)] [(5,⟨[2,3,4,10,11,12],[],[]⟩)] 40 N
abbrev RT (x2 x3 x4:Int) (l10:LI) (x11 x12:Int):St:=⟨[(2,(.i x2)),(3,(.i x3)),(4,(.i x4)),(10,(.list true D8 l10)),(11,(.i x11)),(12,(.i x12))],[]⟩
theorem zew (N:Nat) (l:LI):DV (QP N) T6 [.tmp 2] [[.z]] [.list true [.bool,.z,.z] l]=(cond (decide (ic (AF l) > 65536)) (some ((.i 0),[])) (DT (QP N) (DF T6 [1,1,1,0,1,0,0]) ⟨[2,3,4,10,11,12],[],[]⟩ N (RT 0 1 1 l (ic (AF l)) 0) (DM 0 (DN (QP N) (DF T6 [1,1,1,1]) (DP (QP N) none [.tmp 2] [[.z]]))))):=by kernel_rfl
theorem Mv (N:Nat) (x2 x3 x4:Int) (l10:LI) (x11 x12:Int) (again:St→DJ) (k:Out→St→DJ):EX (QP N) (DF T6 [1,1,1,0,1,0,0]) (RT x2 x3 x4 l10 x11 x12) (ED again ⟨[2,3,4,10,11,12],[],[]⟩ k)=(cond (decide (x12 < x11)) (cond (decide (0≤x12)&&decide (x12 < ic (AF l10))) (cond (x3==0) (k .ret (RT 0 x3 x4 l10 x11 x12)) (cond (!P2 (Z0 (IV.toBool (IV.cell (AH l10 (AD x12) default) 0)) (IV.toInt (IV.cell (AH l10 (AD x12) default) 1)) (IV.toInt (IV.cell (AH l10 (AD x12) default) 2)))) (k .ret (RT 0 x3 x4 l10 x11 x12)) (cond (IV.toBool (IV.cell (AH l10 (AD x12) default) 0)) (again (RT x2 (AA AB (x3 - 1)) x4 l10 x11 (AA AB (x12+1)))) (again (RT x2 (AA AB (x3+1)) (max x4 (AA AB (x3+1))) l10 x11 (AA AB (x12+1))))))) none) (k (.exit 0) (RT x2 x3 x4 l10 x11 x12))):=by kernel_rfl
theorem Yt (N:Nat) (x2 x3 x4:Int) (l10:LI) (x11 x12:Int):(DM 0 (DN (QP N) (DF T6 [1,1,1,1]) (DP (QP N) none [.tmp 2] [[.z]]))) (.exit 0) (RT x2 x3 x4 l10 x11 x12)=(cond (x3 != 0) (some ((.i 0),[])) (cond (decide (x4 > 200)) (some ((.i 0),[])) (some ((.i x4),[])))):=by kernel_rfl
theorem Yu (N:Nat) (x2 x3 x4:Int) (l10:LI) (x11 x12:Int):(DM 0 (DN (QP N) (DF T6 [1,1,1,1]) (DP (QP N) none [.tmp 2] [[.z]]))) .ret (RT x2 x3 x4 l10 x11 x12)=(some ((.i x2),[])):=by kernel_rfl
def GM (N:Nat):Env:=D0 [(174,KV),(212,bI),(49,L6)] [(5,⟨[1,5,6,7,8,9,40,41,42],[5],[]⟩)] 66 N
abbrev MW (a2:Bx) (x1 x6 x7 x8 x9:Int) (l40:LI) (x41 x42:Int):St:=⟨[(1,(.i x1)),(5,(.ptr 5 0 0)),(6,(.i x6)),(7,(.i x7)),(8,(.i x8)),(9,(.i x9)),(40,(.list true LN l40)),(41,(.i x41)),(42,(.i x42))],[(5,(some (.box (Bx.cs a2))))]⟩
theorem zdI (N:Nat) (m:Md) (a1:Int) (a2:Bx):DV (GM N) IE [.tmp 6,.tmp 7] [[.z],[.z]] [(Md.V m),.i a1,(Bx.V a2)]=(cond (!EP m) (some ((.tup [.i 0,.i 0]),[])) (cond (decide (a1 < 0)) (some ((.tup [.i 0,.i 0]),[])) (cond (decide (a1≥Md.c m)) (some ((.tup [.i 0,.i 0]),[])) (cond (Bx.emp a2) (some ((.tup [.i 0,.i 0]),[])) (cond (decide (a1=ic 0)) (cond (decide (a1=ic 0)) (DT (GM N) (DF IE [1,1,1,0,1,0,0]) ⟨[1,5,6,7,8,9,40,41,42],[5],[]⟩ N (MW a2 a1 0 0 (Md.b0 m) (Md.b0 m) (Md.ts m) (ic (AF (Md.ts m))) 0) (DM 0 (DN (GM N) (DF IE [1,1,1,1]) (DP (GM N) none [.tmp 6,.tmp 7] [[.z],[.z]])))) (cond (decide (a1=ic 1)) (DT (GM N) (DF IE [1,1,1,0,1,0,0]) ⟨[1,5,6,7,8,9,40,41,42],[5],[]⟩ N (MW a2 a1 0 0 (Md.b0 m) (Md.b1 m) (Md.ts m) (ic (AF (Md.ts m))) 0) (DM 0 (DN (GM N) (DF IE [1,1,1,1]) (DP (GM N) none [.tmp 6,.tmp 7] [[.z],[.z]])))) (cond (decide (a1=ic 2)) (DT (GM N) (DF IE [1,1,1,0,1,0,0]) ⟨[1,5,6,7,8,9,40,41,42],[5],[]⟩ N (MW a2 a1 0 0 (Md.b0 m) (Md.b2 m) (Md.ts m) (ic (AF (Md.ts m))) 0) (DM 0 (DN (GM N) (DF IE [1,1,1,1]) (DP (GM N) none [.tmp 6,.tmp 7] [[.z],[.z]])))) none))) (cond (decide (a1=ic 1)) (cond (decide (a1=ic 0)) (DT (GM N) (DF IE [1,1,1,0,1,0,0]) ⟨[1,5,6,7,8,9,40,41,42],[5],[]⟩ N (MW a2 a1 0 0 (Md.b1 m) (Md.b0 m) (Md.ts m) (ic (AF (Md.ts m))) 0) (DM 0 (DN (GM N) (DF IE [1,1,1,1]) (DP (GM N) none [.tmp 6,.tmp 7] [[.z],[.z]])))) (cond (decide (a1=ic 1)) (DT (GM N) (DF IE [1,1,1,0,1,0,0]) ⟨[1,5,6,7,8,9,40,41,42],[5],[]⟩ N (MW a2 a1 0 0 (Md.b1 m) (Md.b1 m) (Md.ts m) (ic (AF (Md.ts m))) 0) (DM 0 (DN (GM N) (DF IE [1,1,1,1]) (DP (GM N) none [.tmp 6,.tmp 7] [[.z],[.z]])))) (cond (decide (a1=ic 2)) (DT (GM N) (DF IE [1,1,1,0,1,0,0]) ⟨[1,5,6,7,8,9,40,41,42],[5],[]⟩ N (MW a2 a1 0 0 (Md.b1 m) (Md.b2 m) (Md.ts m) (ic (AF (Md.ts m))) 0) (DM 0 (DN (GM N) (DF IE [1,1,1,1]) (DP (GM N) none [.tmp 6,.tmp 7] [[.z],[.z]])))) none))) (cond (decide (a1=ic 2)) (cond (decide (a1=ic 0)) (DT (GM N) (DF IE [1,1,1,0,1,0,0]) ⟨[1,5,6,7,8,9,40,41,42],[5],[]⟩ N (MW a2 a1 0 0 (Md.b2 m) (Md.b0 m) (Md.ts m) (ic (AF (Md.ts m))) 0) (DM 0 (DN (GM N) (DF IE [1,1,1,1]) (DP (GM N) none [.tmp 6,.tmp 7] [[.z],[.z]])))) (cond (decide (a1=ic 1)) (DT (GM N) (DF IE [1,1,1,0,1,0,0]) ⟨[1,5,6,7,8,9,40,41,42],[5],[]⟩ N (MW a2 a1 0 0 (Md.b2 m) (Md.b1 m) (Md.ts m) (ic (AF (Md.ts m))) 0) (DM 0 (DN (GM N) (DF IE [1,1,1,1]) (DP (GM N) none [.tmp 6,.tmp 7] [[.z],[.z]])))) (cond (decide (a1=ic 2)) (DT (GM N) (DF IE [1,1,1,0,1,0,0]) ⟨[1,5,6,7,8,9,40,41,42],[5],[]⟩ N (MW a2 a1 0 0 (Md.b2 m) (Md.b2 m) (Md.ts m) (ic (AF (Md.ts m))) 0) (DM 0 (DN (GM N) (DF IE [1,1,1,1]) (DP (GM N) none [.tmp 6,.tmp 7] [[.z],[.z]])))) none))) none))))))):=by kernel_rfl
theorem Lz (N:Nat) (a2:Bx) (x1 x6 x7 x8 x9:Int) (l40:LI) (x41 x42:Int) (again:St→DJ) (k:Out→St→DJ):EX (GM N) (DF IE [1,1,1,0,1,0,0]) (MW a2 x1 x6 x7 x8 x9 l40 x41 x42) (ED again ⟨[1,5,6,7,8,9,40,41,42],[5],[]⟩ k)=(cond (decide (x42 < x41)) (cond (decide (0≤x42)&&decide (x42 < ic (AF l40))) (cond (IV.toInt (IV.cell (AH l40 (AD x42) default) 0)==x1) (cond (GK (IV.toList (IV.cell (AH l40 (AD x42) default) 1)) 4&&FW a2) (again (MW a2 x1 x6 x7 (AA AB (x8+HV (IV.toList (IV.cell (AH l40 (AD x42) default) 1)) a2)) (AA AB (x9+HU (IV.toList (IV.cell (AH l40 (AD x42) default) 1)) a2)) l40 x41 (AA AB (x42+1)))) none) (again (MW a2 x1 x6 x7 x8 x9 l40 x41 (AA AB (x42+1))))) none) (k (.exit 0) (MW a2 x1 x6 x7 x8 x9 l40 x41 x42))):=by kernel_rfl
theorem Xu (N:Nat) (a2:Bx) (x1 x6 x7 x8 x9:Int) (l40:LI) (x41 x42:Int):(DM 0 (DN (GM N) (DF IE [1,1,1,1]) (DP (GM N) none [.tmp 6,.tmp 7] [[.z],[.z]]))) (.exit 0) (MW a2 x1 x6 x7 x8 x9 l40 x41 x42)=(some ((.tup [.i x8,.i x9]),[])):=by kernel_rfl
def K9 (N:Nat):Env:=D0 [(174,KV),(175,bH)] [(9,⟨[3,4,5,6,7,42,43],[3,4,5],[]⟩)] 94 N
abbrev TE (m:Md) (a1:Qy) (a2:Bx) (b6:Bool) (x7 x42 x43:Int):St:=⟨[(3,(.ptr 3 0 0)),(4,(.ptr 4 0 0)),(5,(.ptr 5 0 0)),(6,(.bool b6)),(7,(.i x7)),(42,(.i x42)),(43,(.i x43))],[(3,(some (.box (Md.cs m)))),(4,(some (.box (Qy.cs a1)))),(5,(some (.box (Bx.cs a2))))]⟩
theorem zdJ (N:Nat) (m:Md) (a1:Qy) (a2:Bx):DV (K9 N) NT [.tmp 6] [[.bool]] [(Md.V m),(Qy.V a1),(Bx.V a2)]=(cond (Bx.emp a2) (some ((.bool true),[])) (cond (Bx.emp a2||FW a2) (cond (Qy.k a1==1) (cond (decide (Qy.lo a1≤D5 m (Qy.c a1) a2)) (some ((.bool (decide (D3 m (Qy.c a1) a2≤Qy.hi a1))),[])) (some ((.bool false),[]))) (cond (Qy.k a1==2) (DT (K9 N) (DF NT [1,1,1,0,1,0,1,1,1,0,0,1,0,0]) ⟨[3,4,5,6,7,42,43],[3,4,5],[]⟩ N (TE m a1 a2 false (D5 m (Qy.c a1) a2) (Md.c m) 0) (DM 1 (DN (K9 N) (DF NT [1,1,1,0,1,0,1,1,1,0,1]) (DM 0 (DN (K9 N) (DF NT [1,1,1,1]) (DP (K9 N) none [.tmp 6] [[.bool]])))))) (cond (decide (Qy.ft a1=ic 0)) (cond (decide (Sp.lo (Bx.s0 a2)≥Sp.hi (Bx.s4 a2))) (some ((.bool true),[])) (cond (decide (Qy.ft a1=ic 0)) (cond (Bx.emp {a2 with s0:=(Bx.s4 a2)}||FW {a2 with s0:=(Bx.s4 a2)}) (cond (Qy.fl a1) (some ((.bool (decide (D3 m (Qy.c a1) {a2 with s0:=(Bx.s4 a2)}≤D5 m (Qy.c a1) a2))),[])) (some ((.bool (decide (D5 m (Qy.c a1) {a2 with s0:=(Bx.s4 a2)}≥D3 m (Qy.c a1) a2))),[]))) none) (cond (decide (Qy.ft a1=ic 1)) (cond (Bx.emp {a2 with s1:=(Bx.s4 a2)}||FW {a2 with s1:=(Bx.s4 a2)}) (cond (Qy.fl a1) (some ((.bool (decide (D3 m (Qy.c a1) {a2 with s1:=(Bx.s4 a2)}≤D5 m (Qy.c a1) a2))),[])) (some ((.bool (decide (D5 m (Qy.c a1) {a2 with s1:=(Bx.s4 a2)}≥D3 m (Qy.c a1) a2))),[]))) none) (cond (decide (Qy.ft a1=ic 2)) (cond (Bx.emp {a2 with s2:=(Bx.s4 a2)}||FW {a2 with s2:=(Bx.s4 a2)}) (cond (Qy.fl a1) (some ((.bool (decide (D3 m (Qy.c a1) {a2 with s2:=(Bx.s4 a2)}≤D5 m (Qy.c a1) a2))),[])) (some ((.bool (decide (D5 m (Qy.c a1) {a2 with s2:=(Bx.s4 a2)}≥D3 m (Qy.c a1) a2))),[]))) none) (cond (decide (Qy.ft a1=ic 3)) (cond (Bx.emp {a2 with s3:=(Bx.s4 a2)}||FW {a2 with s3:=(Bx.s4 a2)}) (cond (Qy.fl a1) (some ((.bool (decide (D3 m (Qy.c a1) {a2 with s3:=(Bx.s4 a2)}≤D5 m (Qy.c a1) a2))),[])) (some ((.bool (decide (D5 m (Qy.c a1) {a2 with s3:=(Bx.s4 a2)}≥D3 m (Qy.c a1) a2))),[]))) none) (cond (decide (Qy.ft a1=ic 4)) (cond (Bx.emp a2||FW a2) (cond (Qy.fl a1) (some ((.bool (decide (D3 m (Qy.c a1) a2≤D5 m (Qy.c a1) a2))),[])) (some ((.bool (decide (D5 m (Qy.c a1) a2≥D3 m (Qy.c a1) a2))),[]))) none) none)))))) (cond (decide (Qy.ft a1=ic 1)) (cond (decide (Sp.lo (Bx.s1 a2)≥Sp.hi (Bx.s4 a2))) (some ((.bool true),[])) (cond (decide (Qy.ft a1=ic 0)) (cond (Bx.emp {a2 with s0:=(Bx.s4 a2)}||FW {a2 with s0:=(Bx.s4 a2)}) (cond (Qy.fl a1) (some ((.bool (decide (D3 m (Qy.c a1) {a2 with s0:=(Bx.s4 a2)}≤D5 m (Qy.c a1) a2))),[])) (some ((.bool (decide (D5 m (Qy.c a1) {a2 with s0:=(Bx.s4 a2)}≥D3 m (Qy.c a1) a2))),[]))) none) (cond (decide (Qy.ft a1=ic 1)) (cond (Bx.emp {a2 with s1:=(Bx.s4 a2)}||FW {a2 with s1:=(Bx.s4 a2)}) (cond (Qy.fl a1) (some ((.bool (decide (D3 m (Qy.c a1) {a2 with s1:=(Bx.s4 a2)}≤D5 m (Qy.c a1) a2))),[])) (some ((.bool (decide (D5 m (Qy.c a1) {a2 with s1:=(Bx.s4 a2)}≥D3 m (Qy.c a1) a2))),[]))) none) (cond (decide (Qy.ft a1=ic 2)) (cond (Bx.emp {a2 with s2:=(Bx.s4 a2)}||FW {a2 with s2:=(Bx.s4 a2)}) (cond (Qy.fl a1) (some ((.bool (decide (D3 m (Qy.c a1) {a2 with s2:=(Bx.s4 a2)}≤D5 m (Qy.c a1) a2))),[])) (some ((.bool (decide (D5 m (Qy.c a1) {a2 with s2:=(Bx.s4 a2)}≥D3 m (Qy.c a1) a2))),[]))) none) (cond (decide (Qy.ft a1=ic 3)) (cond (Bx.emp {a2 with s3:=(Bx.s4 a2)}||FW {a2 with s3:=(Bx.s4 a2)}) (cond (Qy.fl a1) (some ((.bool (decide (D3 m (Qy.c a1) {a2 with s3:=(Bx.s4 a2)}≤D5 m (Qy.c a1) a2))),[])) (some ((.bool (decide (D5 m (Qy.c a1) {a2 with s3:=(Bx.s4 a2)}≥D3 m (Qy.c a1) a2))),[]))) none) (cond (decide (Qy.ft a1=ic 4)) (cond (Bx.emp a2||FW a2) (cond (Qy.fl a1) (some ((.bool (decide (D3 m (Qy.c a1) a2≤D5 m (Qy.c a1) a2))),[])) (some ((.bool (decide (D5 m (Qy.c a1) a2≥D3 m (Qy.c a1) a2))),[]))) none) none)))))) (cond (decide (Qy.ft a1=ic 2)) (cond (decide (Sp.lo (Bx.s2 a2)≥Sp.hi (Bx.s4 a2))) (some ((.bool true),[])) (cond (decide (Qy.ft a1=ic 0)) (cond (Bx.emp {a2 with s0:=(Bx.s4 a2)}||FW {a2 with s0:=(Bx.s4 a2)}) (cond (Qy.fl a1) (some ((.bool (decide (D3 m (Qy.c a1) {a2 with s0:=(Bx.s4 a2)}≤D5 m (Qy.c a1) a2))),[])) (some ((.bool (decide (D5 m (Qy.c a1) {a2 with s0:=(Bx.s4 a2)}≥D3 m (Qy.c a1) a2))),[]))) none) (cond (decide (Qy.ft a1=ic 1)) (cond (Bx.emp {a2 with s1:=(Bx.s4 a2)}||FW {a2 with s1:=(Bx.s4 a2)}) (cond (Qy.fl a1) (some ((.bool (decide (D3 m (Qy.c a1) {a2 with s1:=(Bx.s4 a2)}≤D5 m (Qy.c a1) a2))),[])) (some ((.bool (decide (D5 m (Qy.c a1) {a2 with s1:=(Bx.s4 a2)}≥D3 m (Qy.c a1) a2))),[]))) none) (cond (decide (Qy.ft a1=ic 2)) (cond (Bx.emp {a2 with s2:=(Bx.s4 a2)}||FW {a2 with s2:=(Bx.s4 a2)}) (cond (Qy.fl a1) (some ((.bool (decide (D3 m (Qy.c a1) {a2 with s2:=(Bx.s4 a2)}≤D5 m (Qy.c a1) a2))),[])) (some ((.bool (decide (D5 m (Qy.c a1) {a2 with s2:=(Bx.s4 a2)}≥D3 m (Qy.c a1) a2))),[]))) none) (cond (decide (Qy.ft a1=ic 3)) (cond (Bx.emp {a2 with s3:=(Bx.s4 a2)}||FW {a2 with s3:=(Bx.s4 a2)}) (cond (Qy.fl a1) (some ((.bool (decide (D3 m (Qy.c a1) {a2 with s3:=(Bx.s4 a2)}≤D5 m (Qy.c a1) a2))),[])) (some ((.bool (decide (D5 m (Qy.c a1) {a2 with s3:=(Bx.s4 a2)}≥D3 m (Qy.c a1) a2))),[]))) none) (cond (decide (Qy.ft a1=ic 4)) (cond (Bx.emp a2||FW a2) (cond (Qy.fl a1) (some ((.bool (decide (D3 m (Qy.c a1) a2≤D5 m (Qy.c a1) a2))),[])) (some ((.bool (decide (D5 m (Qy.c a1) a2≥D3 m (Qy.c a1) a2))),[]))) none) none)))))) (cond (decide (Qy.ft a1=ic 3)) (cond (decide (Sp.lo (Bx.s3 a2)≥Sp.hi (Bx.s4 a2))) (some ((.bool true),[])) (cond (decide (Qy.ft a1=ic 0)) (cond (Bx.emp {a2 with s0:=(Bx.s4 a2)}||FW {a2 with s0:=(Bx.s4 a2)}) (cond (Qy.fl a1) (some ((.bool (decide (D3 m (Qy.c a1) {a2 with s0:=(Bx.s4 a2)}≤D5 m (Qy.c a1) a2))),[])) (some ((.bool (decide (D5 m (Qy.c a1) {a2 with s0:=(Bx.s4 a2)}≥D3 m (Qy.c a1) a2))),[]))) none) (cond (decide (Qy.ft a1=ic 1)) (cond (Bx.emp {a2 with s1:=(Bx.s4 a2)}||FW {a2 with s1:=(Bx.s4 a2)}) (cond (Qy.fl a1) (some ((.bool (decide (D3 m (Qy.c a1) {a2 with s1:=(Bx.s4 a2)}≤D5 m (Qy.c a1) a2))),[])) (some ((.bool (decide (D5 m (Qy.c a1) {a2 with s1:=(Bx.s4 a2)}≥D3 m (Qy.c a1) a2))),[]))) none) (cond (decide (Qy.ft a1=ic 2)) (cond (Bx.emp {a2 with s2:=(Bx.s4 a2)}||FW {a2 with s2:=(Bx.s4 a2)}) (cond (Qy.fl a1) (some ((.bool (decide (D3 m (Qy.c a1) {a2 with s2:=(Bx.s4 a2)}≤D5 m (Qy.c a1) a2))),[])) (some ((.bool (decide (D5 m (Qy.c a1) {a2 with s2:=(Bx.s4 a2)}≥D3 m (Qy.c a1) a2))),[]))) none) (cond (decide (Qy.ft a1=ic 3)) (cond (Bx.emp {a2 with s3:=(Bx.s4 a2)}||FW {a2 with s3:=(Bx.s4 a2)}) (cond (Qy.fl a1) (some ((.bool (decide (D3 m (Qy.c a1) {a2 with s3:=(Bx.s4 a2)}≤D5 m (Qy.c a1) a2))),[])) (some ((.bool (decide (D5 m (Qy.c a1) {a2 with s3:=(Bx.s4 a2)}≥D3 m (Qy.c a1) a2))),[]))) none) (cond (decide (Qy.ft a1=ic 4)) (cond (Bx.emp a2||FW a2) (cond (Qy.fl a1) (some ((.bool (decide (D3 m (Qy.c a1) a2≤D5 m (Qy.c a1) a2))),[])) (some ((.bool (decide (D5 m (Qy.c a1) a2≥D3 m (Qy.c a1) a2))),[]))) none) none)))))) (cond (decide (Qy.ft a1=ic 4)) (cond (decide (Sp.lo (Bx.s4 a2)≥Sp.hi (Bx.s4 a2))) (some ((.bool true),[])) (cond (decide (Qy.ft a1=ic 0)) (cond (Bx.emp {a2 with s0:=(Bx.s4 a2)}||FW {a2 with s0:=(Bx.s4 a2)}) (cond (Qy.fl a1) (some ((.bool (decide (D3 m (Qy.c a1) {a2 with s0:=(Bx.s4 a2)}≤D5 m (Qy.c a1) a2))),[])) (some ((.bool (decide (D5 m (Qy.c a1) {a2 with s0:=(Bx.s4 a2)}≥D3 m (Qy.c a1) a2))),[]))) none) (cond (decide (Qy.ft a1=ic 1)) (cond (Bx.emp {a2 with s1:=(Bx.s4 a2)}||FW {a2 with s1:=(Bx.s4 a2)}) (cond (Qy.fl a1) (some ((.bool (decide (D3 m (Qy.c a1) {a2 with s1:=(Bx.s4 a2)}≤D5 m (Qy.c a1) a2))),[])) (some ((.bool (decide (D5 m (Qy.c a1) {a2 with s1:=(Bx.s4 a2)}≥D3 m (Qy.c a1) a2))),[]))) none) (cond (decide (Qy.ft a1=ic 2)) (cond (Bx.emp {a2 with s2:=(Bx.s4 a2)}||FW {a2 with s2:=(Bx.s4 a2)}) (cond (Qy.fl a1) (some ((.bool (decide (D3 m (Qy.c a1) {a2 with s2:=(Bx.s4 a2)}≤D5 m (Qy.c a1) a2))),[])) (some ((.bool (decide (D5 m (Qy.c a1) {a2 with s2:=(Bx.s4 a2)}≥D3 m (Qy.c a1) a2))),[]))) none) (cond (decide (Qy.ft a1=ic 3)) (cond (Bx.emp {a2 with s3:=(Bx.s4 a2)}||FW {a2 with s3:=(Bx.s4 a2)}) (cond (Qy.fl a1) (some ((.bool (decide (D3 m (Qy.c a1) {a2 with s3:=(Bx.s4 a2)}≤D5 m (Qy.c a1) a2))),[])) (some ((.bool (decide (D5 m (Qy.c a1) {a2 with s3:=(Bx.s4 a2)}≥D3 m (Qy.c a1) a2))),[]))) none) (cond (decide (Qy.ft a1=ic 4)) (cond (Bx.emp a2||FW a2) (cond (Qy.fl a1) (some ((.bool (decide (D3 m (Qy.c a1) a2≤D5 m (Qy.c a1) a2))),[])) (some ((.bool (decide (D5 m (Qy.c a1) a2≥D3 m (Qy.c a1) a2))),[]))) none) none)))))) none))))))) none)):=by kernel_rfl
theorem Ma (N:Nat) (m:Md) (a1:Qy) (a2:Bx) (b6:Bool) (x7 x42 x43:Int) (again:St→DJ) (k:Out→St→DJ):EX (K9 N) (DF NT [1,1,1,0,1,0,1,1,1,0,0,1,0,0]) (TE m a1 a2 b6 x7 x42 x43) (ED again ⟨[3,4,5,6,7,42,43],[3,4,5],[]⟩ k)=(cond (decide (x43 < x42)) (cond (Bx.emp a2||FW a2) (cond (x43 != Qy.c a1) (cond (decide (D3 m x43 a2≥x7)) (k .ret (TE m a1 a2 false x7 x42 x43)) (again (TE m a1 a2 b6 x7 x42 (AA AB (x43+1))))) (again (TE m a1 a2 b6 x7 x42 (AA AB (x43+1))))) none) (k (.exit 1) (TE m a1 a2 b6 x7 x42 x43))):=by kernel_rfl
theorem Xv (N:Nat) (m:Md) (a1:Qy) (a2:Bx) (b6:Bool) (x7 x42 x43:Int):(DM 1 (DN (K9 N) (DF NT [1,1,1,0,1,0,1,1,1,0,1]) (DM 0 (DN (K9 N) (DF NT [1,1,1,1]) (DP (K9 N) none [.tmp 6] [[.bool]]))))) (.exit 1) (TE m a1 a2 b6 x7 x42 x43)=(some ((.bool true),[])):=by kernel_rfl
theorem Xw (N:Nat) (m:Md) (a1:Qy) (a2:Bx) (b6:Bool) (x7 x42 x43:Int):(DM 1 (DN (K9 N) (DF NT [1,1,1,0,1,0,1,1,1,0,1]) (DM 0 (DN (K9 N) (DF NT [1,1,1,1]) (DP (K9 N) none [.tmp 6] [[.bool]]))))) .ret (TE m a1 a2 b6 x7 x42 x43)=(some ((.bool b6),[])):=by kernel_rfl
def JM (N:Nat):Env:=D0 [(119,a8),(118,bJ),(117,cQ),(62,R6),(93,L8),(38,PK)] [(8,⟨[3,4,6,9,29,30,31],[3,4],[]⟩)] 59 N
abbrev TC (m:Md) (q:Qy) (b6 b9:Bool) (l29:LI) (x30 x31:Int):St:=⟨[(3,(.ptr 3 0 0)),(4,(.ptr 4 0 0)),(6,(.bool b6)),(9,(.bool b9)),(29,(.list true EA l29)),(30,(.i x30)),(31,(.i x31))],[(3,(some (.box (Md.cs m)))),(4,(some (.box (Qy.cs q))))]⟩
theorem zdH (N:Nat) (m:Md) (q:Qy) (v:Vd):DV (JM N) LG [.tmp 6] [[.bool]] [(Md.V m),(Qy.V q),(Vd.V v)]=(cond (!FH m q) (some ((.bool false),[])) (cond (Vd.kind v==1) (cond (Option.isSome (KK (EV q) (Vd.proof v))) (DT (JM N) (DF LG [1,1,1,0,1,0,1,0,1,0,1,0,0]) ⟨[3,4,6,9,29,30,31],[3,4],[]⟩ N (TC m q false true (vav (KK (EV q) (Vd.proof v)) []) (ic (AF (vav (KK (EV q) (Vd.proof v)) []))) 0) (DM 1 (DN (JM N) (DF LG [1,1,1,0,1,0,1,0,1,1]) (DM 0 (DN (JM N) (DF LG [1,1,1,1]) (DP (JM N) none [.tmp 6] [[.bool]])))))) (DT (JM N) (DF LG [1,1,1,0,1,0,1,0,1,0,1,0,0]) ⟨[3,4,6,9,29,30,31],[3,4],[]⟩ N (TC m q false false [] (ic 0) 0) (DM 1 (DN (JM N) (DF LG [1,1,1,0,1,0,1,0,1,1]) (DM 0 (DN (JM N) (DF LG [1,1,1,1]) (DP (JM N) none [.tmp 6] [[.bool]]))))))) (cond (Vd.kind v==2) (cond (Bx.has (EV q) {p0:=Vd.w0 v,p1:=Vd.w1 v,p2:=Vd.w2 v,p3:=Vd.w3 v} (Vd.twin v)) (some ((.bool (GJ m q {p0:=Vd.w0 v,p1:=Vd.w1 v,p2:=Vd.w2 v,p3:=Vd.w3 v} (Vd.twin v))),[])) (some ((.bool false),[]))) (some ((.bool false),[]))))):=by kernel_rfl
theorem tL (N:Nat) (m:Md) (q:Qy) (b6 b9:Bool) (l29:LI) (x30 x31:Int) (again:St→DJ) (k:Out→St→DJ):EX (JM N) (DF LG [1,1,1,0,1,0,1,0,1,0,1,0,0]) (TC m q b6 b9 l29 x30 x31) (ED again ⟨[3,4,6,9,29,30,31],[3,4],[]⟩ k)=(cond (decide (x31 < x30)) (cond (decide (0≤x31)&&decide (x31 < ic (AF l29))) (cond (FH m q&&(Bx.emp (DY (AH l29 (AD x31) default))||FW (DY (AH l29 (AD x31) default)))) (cond (!HG m q (DY (AH l29 (AD x31) default))) (k .ret (TC m q false b9 l29 x30 x31)) (again (TC m q b6 b9 l29 x30 (AA AB (x31+1))))) none) none) (k (.exit 1) (TC m q b6 b9 l29 x30 x31))):=by kernel_rfl
theorem Bb (N:Nat) (m:Md) (q:Qy) (b6 b9:Bool) (l29:LI) (x30 x31:Int):(DM 1 (DN (JM N) (DF LG [1,1,1,0,1,0,1,0,1,1]) (DM 0 (DN (JM N) (DF LG [1,1,1,1]) (DP (JM N) none [.tmp 6] [[.bool]]))))) (.exit 1) (TC m q b6 b9 l29 x30 x31)=(some ((.bool b9),[])):=by kernel_rfl
theorem Xt (N:Nat) (m:Md) (q:Qy) (b6 b9:Bool) (l29:LI) (x30 x31:Int):(DM 1 (DN (JM N) (DF LG [1,1,1,0,1,0,1,0,1,1]) (DM 0 (DN (JM N) (DF LG [1,1,1,1]) (DP (JM N) none [.tmp 6] [[.bool]]))))) .ret (TC m q b6 b9 l29 x30 x31)=(some ((.bool b6),[])):=by kernel_rfl
open Go Go.Proofs
theorem zij:DS PR B0 244 cS:=by
 refine D2 [] [] cS [[.bool]] Tryz.func244 zbF trivial ?_;intro vs r hwf h;unfold cS at h;split at h
 ·rename_i s p a;rw [R.get_ok] at h;refine ⟨0,(zex 0 s p a).trans ?_⟩;rw [← h];unfold P2;show _=some (V.bool (cond s (p==0&&a==0) (decide (0≤p)&&decide (p≤4))),[]);cases s with
  | true=>
   simp only [B1,CJ];rfl
  | false=>
   simp only [BG];by_cases hp:0≤p
   ·rw [AE (show p≥0 from hp)]; rfl
   ·rw [AL (show ¬ p≥0 from hp)]; rfl
 ·simp [R.get] at h
def Wj (o:Option (Int × Int)):Int:=match o with
 | some st=>cond (!(st.1==0)||decide (st.2 > 200)) 0 st.2
 | none=>0
theorem oE (N:Nat) (l:LI) (K:Out→St→DJ) (hl:l.length≤65536)
  (hx:∀ x2 x3 x4 x11 x12,K (.exit 0) ⟨[(2,(.int .i64 x2)),(3,(.int .i64 x3)),(4,(.int .i64 x4)),(10,(.list true D8 l)),(11,(.int .i64 x11)),(12,(.int .i64 x12))],[]⟩=cond (x3 != 0) (some ((.int .i64 0),[])) (cond (decide (x4 > 200)) (some ((.int .i64 0),[])) (some ((.int .i64 x4),[]))))
  (hr:∀ x2 x3 x4 x11 x12,K .ret ⟨[(2,(.int .i64 x2)),(3,(.int .i64 x3)),(4,(.int .i64 x4)),(10,(.list true D8 l)),(11,(.int .i64 x11)),(12,(.int .i64 x12))],[]⟩=some (.int .i64 x2,[])) :
  ∀ (d i n:Nat) (left most:Int),i+d=l.length→d < n→0≤left→left≤i+1 →
   DT (QP N) (DF T6 [1,1,1,0,1,0,0]) ⟨[2,3,4,10,11,12],[],[]⟩ n ⟨[(2,(.int .i64 0)),(3,(.int .i64 left)),(4,(.int .i64 most)),(10,(.list true D8 l)),(11,(.int .i64 (ic l.length))),(12,(.int .i64 (i:Int)))],[]⟩ K=some (.int .i64 (Wj (NZ (l.drop i) (left,most))),[])
 | d,i,0,_,_,_,h,_,_=>absurd h (by omega)
 | 0,i,n+1,left,most,hd,_,_,_=>by
  rw [DX,Mv,IT (by omega),DG,hx,C2 (by omega)];show _=some (V.int .i64 (cond (!(left==0)||decide (most > 200)) 0 most),[])
  have:(left != 0)=!(left==0):=rfl
  rw [this];cases left==0 <;> cases decide (most > 200) <;> rfl
 | d+1,i,n+1,left,most,hd,hn,h0,h1=>by
  have hi:i < l.length:=by omega
  rw [DX,Mv,H0 hi,DE,IH,BY,DE,GQ (by omega),IS hi,BF hi,NZ];unfold SI;have er:P2 (Z0 (IV.toBool (IV.cell l[i] 0)) (IV.toInt (IV.cell l[i] 1)) (IV.toInt (IV.cell l[i] 2)))=P2 l[i]:=rfl;have es:IV.toBool (IV.cell l[i] 0)=H9 l[i]:=rfl;rw [er,es];generalize l[i]=x;cases hz:(left==0) with
  | true=>rw [DE,hr]; rfl
  | false=>
   have hne:left≠0:=by simpa using hz
   rw [DG];cases P2 x with
   | false=>rw [A6,DE,hr]; rfl
   | true=>
    rw [A1,DG,Bool.or_false,DG];cases H9 x with
    | true=>
     rw [DE,DE,show AA AB (left - 1)=left - 1 from EI (by omega) (by omega)];exact oE N l K hl hx hr d (i+1) n (left - 1) most (by omega) (by omega) (by omega) (by omega)
    | false=>
     rw [DG,DG,show AA AB (left+1)=left+1 from EI (by omega) (by omega)];exact oE N l K hl hx hr d (i+1) n (left+1) _ (by omega) (by omega) (by omega) (by omega)
theorem zii:DS PR B0 211 cR:=by
 refine D2 [(244,cS)] [(5,⟨[2,3,4,10,11,12],[],[]⟩)] cR [[.z]] Tryz.func211 zbE ⟨zij,trivial⟩ ?_;intro vs r hwf h;unfold cR at h;split at h
 ·rename_i l;rw [R.get_ok] at h;refine ⟨l.length+1,(zew (l.length+1) l).trans ?_⟩;rw [← h];unfold LK;by_cases hl:l.length≤65536
  ·rw [AL (show ¬ ic l.length > 65536 by simp only [ic]; omega),DG,DG]
   have:=oE (l.length+1) l _ hl (fun x2 x3 x4 x11 x12=>Yt (l.length+1) x2 x3 x4 l x11 x12) (fun x2 x3 x4 x11 x12=>Yu (l.length+1) x2 x3 x4 l x11 x12) l.length 0 (l.length+1) 1 1 (by omega) (by omega) (by omega) (by omega)
   rw [BZ] at this;exact this
  ·rw [AE (show ic l.length > 65536 by simp only [ic]; omega)];rfl
 ·simp [R.get] at h
theorem zig:DS PR B0 173 cP:=by
 refine D2 [(211,cR)] [] cP [[.bool]] Tryz.func173 zbC ⟨zii,trivial⟩ ?_;intro vs r hwf h;unfold cP at h;split at h
 ·rename_i l;rw [R.get_ok] at h;exact ⟨0,(zev 0 l).trans h⟩
 ·simp [R.get] at h
theorem zeh (b:Bx) (p:Pt) (t:Int):DV (Qc 6) wS [.tmp 6] [[.bool]] [b.V,p.V,.int .i64 t] =
 cond (!b.s0.has p.p0) (some (.bool false,[])) (cond (!b.s1.has p.p1) (some (.bool false,[])) (cond (!b.s2.has p.p2) (some (.bool false,[])) (cond (!b.s3.has p.p3) (some (.bool false,[])) (some (.bool (b.s4.has t),[]))))):=by kernel_rfl
theorem zhw:DS PR B0 119 a8:=by
 refine D2 [(127,WA)] [(2,⟨[2,3,6,9,10],[3],[]⟩)] a8 [[.bool]] Tryz.func119 zaE ⟨Ko,trivial⟩ ?_;intro vs r hwf h;unfold a8 at h;split at h
 ·rename_i b p t;replace h:=IN h;obtain ⟨b,rfl,h⟩:=h;replace h:=X4 h;obtain ⟨p,rfl,h⟩:=h;rw [R.get_ok] at h;refine ⟨6,(zeh b p t).trans ?_⟩;rw [← h];unfold Bx.has;cases b.s0.has p.p0 <;> cases b.s1.has p.p1 <;> cases b.s2.has p.p2 <;> cases b.s3.has p.p3 <;> rfl
 ·simp [R.get] at h
open Go
theorem LX {s:Sp} {n:Int}:s.has n=true↔s.lo≤n∧n≤s.hi:=by
 unfold Sp.has;rw [AI,AP,AP]
theorem ziH {s:Sp}:s.emp=false↔s.lo≤s.hi:=by
 unfold Sp.emp;rw [BV];omega
theorem Lb {lo hi n:Int}:(MQ lo hi).has n=true↔lo≤n∧n≤hi:=by
 unfold MQ;cases hd:decide (lo > hi) with
 | true=>
  have:=A0 hd
  rw [DE,LX];show (1:Int)≤n∧n≤0↔_;omega
 | false=>rw [DG,LX]
theorem n9 {s:Sp} {a n:Int}:(s.cutL a).has n=true↔s.has n=true∧n≤a:=by
 unfold Sp.cutL;rw [Lb,LX];omega
theorem n8 {s:Sp} {a n:Int} (ha : -9223372036854775808≤a) (hs:s.hi≤9223372036854775807):(s.cutH a).has n=true↔s.has n=true∧a < n:=by
 unfold Sp.cutH;cases hd:decide (a≥s.hi) with
 | true=>
  have:=A0 hd
  rw [DE,LX,LX];show (1:Int)≤n∧n≤0↔_;omega
 | false=>
  have:=BH hd
  have e:FD (a+1)=a+1:=EI (by omega) (by omega);rw [DG,Lb,LX,e];omega
def co (p:Pt) (t:Int):Nat→Int
 | 0=>p.p0
 | 1=>p.p1
 | 2=>p.p2
 | 3=>p.p3
 | _=>t
theorem NS {b:Bx} {p:Pt} {t:Int}:b.has p t=true↔∀ i,i < 5→(b.g i).has (co p t i)=true:=by
 unfold Bx.has;simp only [AI];constructor
 ·rintro ⟨h0,h1,h2,h3,h4⟩ i hi
  match i,hi with
  | 0,_=>exact h0
  | 1,_=>exact h1
  | 2,_=>exact h2
  | 3,_=>exact h3
  | 4,_=>exact h4
  | i+5,h=>exact absurd h (by omega)
 ·intro h;exact ⟨h 0 (by omega),h 1 (by omega),h 2 (by omega),h 3 (by omega),h 4 (by omega)⟩
theorem nJ {b:Bx}:b.emp=false↔∀ i,i < 5→(b.g i).lo≤(b.g i).hi:=by
 unfold Bx.emp;simp only [Bool.or_eq_false_iff,ziH];constructor
 ·rintro ⟨h0,h1,h2,h3,h4⟩ i hi
  match i,hi with
  | 0,_=>exact h0
  | 1,_=>exact h1
  | 2,_=>exact h2
  | 3,_=>exact h3
  | 4,_=>exact h4
  | i+5,h=>exact absurd h (by omega)
 ·intro h;exact ⟨h 0 (by omega),h 1 (by omega),h 2 (by omega),h 3 (by omega),h 4 (by omega)⟩
theorem LE (b:Bx) (s:Sp):∀ {i j:Nat},i < 5→j < 5→(b.p s i).g j=if j=i then s else b.g j
 | 0,0,_,_=>rfl
 | 0,1,_,_=>rfl
 | 0,2,_,_=>rfl
 | 0,3,_,_=>rfl
 | 0,4,_,_=>rfl
 | 1,0,_,_=>rfl
 | 1,1,_,_=>rfl
 | 1,2,_,_=>rfl
 | 1,3,_,_=>rfl
 | 1,4,_,_=>rfl
 | 2,0,_,_=>rfl
 | 2,1,_,_=>rfl
 | 2,2,_,_=>rfl
 | 2,3,_,_=>rfl
 | 2,4,_,_=>rfl
 | 3,0,_,_=>rfl
 | 3,1,_,_=>rfl
 | 3,2,_,_=>rfl
 | 3,3,_,_=>rfl
 | 3,4,_,_=>rfl
 | 4,0,_,_=>rfl
 | 4,1,_,_=>rfl
 | 4,2,_,_=>rfl
 | 4,3,_,_=>rfl
 | 4,4,_,_=>rfl
 | i+5,_,h,_=>absurd h (by omega)
 | _,j+5,_,h=>absurd h (by omega)
def Bx.ok (b:Bx):Prop:=∀ i,i < 5→(b.g i).hi≤2147483647
theorem YO (b:Bx) (h:b.emp=false):b.has b.low b.s4.hi=true:=by
 rw [nJ] at h;rw [NS];intro i hi;rw [LX]
 have:=h i hi
 match i,hi with
 | 0,_=>exact ⟨DA _,this⟩
 | 1,_=>exact ⟨DA _,this⟩
 | 2,_=>exact ⟨DA _,this⟩
 | 3,_=>exact ⟨DA _,this⟩
 | 4,_=>exact ⟨this,DA _⟩
 | i+5,h=>exact absurd h (by omega)
theorem WK {b:Bx} {p:Pt} {t:Int} (h:b.has p t=true):b.emp=false:=by
 rw [NS] at h;rw [nJ];intro i hi
 have:=LX.1 (h i hi)
 omega
theorem i8 {b:Bx} {i:Nat} (hi:i < 5) {a:Int} {p:Pt} {t:Int}:(b.cutL (i:Int) a).has p t=true↔b.has p t=true∧co p t i≤a:=by
 unfold Bx.cutL;rw [BE,NS,NS];constructor
 ·intro h;refine ⟨fun j hj=>?_,?_⟩
  ·have:=h j hj
   rw [LE b _ hi hj] at this;by_cases e:j=i
   ·rw [BR e,n9] at this;rw [e] at this ⊢;exact this.1
   ·rw [A9 e] at this;exact this
  ·have:=h i hi
   rw [LE b _ hi hi,BR rfl,n9] at this;exact this.2
 ·rintro ⟨h,ha⟩ j hj;rw [LE b _ hi hj];by_cases e:j=i
  ·rw [BR e,n9,e];exact ⟨h i hi,ha⟩
  ·rw [A9 e];exact h j hj
theorem i7 {b:Bx} (hb:b.ok) {i:Nat} (hi:i < 5) {a:Int} (ha : -2147483648≤a) {p:Pt} {t:Int}:(b.cutH (i:Int) a).has p t=true↔b.has p t=true∧a < co p t i:=by
 have hs:=hb i hi;unfold Bx.cutH;rw [BE,NS,NS];constructor
 ·intro h;refine ⟨fun j hj=>?_,?_⟩
  ·have:=h j hj
   rw [LE b _ hi hj] at this;by_cases e:j=i
   ·rw [BR e,n8 (by omega) (by omega)] at this;rw [e] at this ⊢;exact this.1
   ·rw [A9 e] at this;exact this
  ·have:=h i hi
   rw [LE b _ hi hi,BR rfl,n8 (by omega) (by omega)] at this;exact this.2
 ·rintro ⟨h,ha'⟩ j hj;rw [LE b _ hi hj];by_cases e:j=i
  ·rw [BR e,n8 (by omega) (by omega),e];exact ⟨h i hi,ha'⟩
  ·rw [A9 e];exact h j hj
theorem Lc {lo hi:Int} (h:hi≤2147483647):(MQ lo hi).hi≤2147483647:=by
 unfold MQ;cases decide (lo > hi) with
 | true=>rw [DE]; show (0:Int)≤_; omega
 | false=>exact h
theorem fM {b:Bx} (hb:b.ok) {s:Sp} (hs:s.hi≤2147483647) {i:Nat} (hi:i < 5):(b.p s i).ok:=by
 intro j hj;rw [LE b _ hi hj];split
 ·exact hs
 ·exact hb j hj
theorem z8 {b:Bx} (hb:b.ok) {i:Nat} (hi:i < 5) (a:Int):(b.cutL (i:Int) a).ok:=by
 unfold Bx.cutL;rw [BE];refine fM hb ?_ hi;unfold Sp.cutL;exact Lc (by have:=hb i hi; omega)
theorem z6 {b:Bx} (hb:b.ok) {i:Nat} (hi:i < 5) (a:Int):(b.cutH (i:Int) a).ok:=by
 unfold Bx.cutH;rw [BE];refine fM hb ?_ hi;unfold Sp.cutH;cases decide (a≥(b.g i).hi) with
 | true=>rw [DE]; show (0:Int)≤_; omega
 | false=>exact Lc (hb i hi)
theorem KD (b:Bx):DY b.I=b:=rfl
theorem dX (p:Pt) (t:Int):∀ {i:Nat},i < 4→co p t i=p.g i
 | 0,_=>rfl
 | 1,_=>rfl
 | 2,_=>rfl
 | 3,_=>rfl
 | i+4,h=>absurd h (by omega)
abbrev nd (l:LI) (i:Nat):Nd:=DH (l.getD i default).toInt
def XD (l:LI) (k j:Nat):Prop:=(nd l k).lf=false∧((nd l k).l=(j:Int)∨(nd l k).r=(j:Int))
structure TreeOK (l:LI):Prop where
 len:1≤l.length∧l.length≤31
 node:∀ k,k < l.length→F6 (l.getD k default).toInt=true
 fork:∀ k,k < l.length→(nd l k).lf=false→(0≤(nd l k).f∧(nd l k).f < 4)∧EZ (nd l k).a=true∧((k:Int) < (nd l k).l∧(nd l k).l < ic l.length)∧((k:Int) < (nd l k).r∧(nd l k).r < ic l.length)∧(nd l k).l≠(nd l k).r
 parent:∀ j,1≤j→j < l.length→∃ k,k < l.length∧XD l k j
 alone:∀ j k k',1≤j→j < l.length→k < l.length→k' < l.length→XD l k j→XD l k' j→k=k'
theorem ziZ {l:List Nat}:∀ {k a:Nat},l[k]?=some a→a≤l.sum:=by
 induction l with
 | nil=>intro k a h; simp at h
 | cons x r ih=>
  intro k a h;cases k with
  | zero=>simp at h; simp; omega
  | succ k=>have:=ih (k:=k) (a:=a) (by simpa using h); simp; omega
theorem Nq {l:List Nat}:∀ {k k' a b:Nat},k < k'→l[k]?=some a→l[k']?=some b→a+b≤l.sum:=by
 induction l with
 | nil=>intro k k' a b _ h; simp at h
 | cons x r ih=>
  intro k k' a b hk h h';cases k with
  | zero=>
   cases k' with
   | zero=>omega
   | succ k'=>
    have:=ziZ (l:=r) (k:=k') (a:=b) (by simpa using h')
    simp at h;simp;omega
  | succ k=>
   cases k' with
   | zero=>omega
   | succ k'=>
    have:=ih (k:=k) (k':=k') (a:=a) (b:=b) (by omega) (by simpa using h) (by simpa using h')
    simp;omega
theorem zi1 {l:List Nat}:0 < l.sum→∃ (k a:Nat),l[k]?=some a∧0 < a:=by
 induction l with
 | nil=>intro h; simp at h
 | cons x r ih=>
  intro h;by_cases hx:0 < x
  ·exact ⟨0,x,rfl,hx⟩
  ·obtain ⟨k,a,hk,ha⟩:=ih (by simp at h; omega);exact ⟨k+1,a,by simpa using hk,ha⟩
theorem qK {x:Nd} {j:Nat}:0 < KZ x j↔x.lf=false∧(x.l=(j:Int)∨x.r=(j:Int)):=by
 unfold KZ;cases x.lf with
 | true=>simp
 | false=>
  rw [DG];by_cases h1:x.l=(j:Int) <;> by_cases h2:x.r=(j:Int) <;> simp [h1,h2]
theorem eE {l:LI} {k:Nat} (h:k < l.length):l.getD k default=l[k]:=by simp [h]
theorem tZ {l:LI} (h:GK l 4=true):TreeOK l:=by
 have key:∀ {dim n:Int} {l:LI} {i k:Nat} (hk:k < l.length),J3 dim n i l=true→F6 (l[k]).toInt=true∧N1 dim n (i+k) (DH (l[k]).toInt)=true:=by
  intro dim n l
  induction l with
  | nil=>intro i k hk; exact absurd hk (Nat.not_lt_zero k)
  | cons w r ih=>
   intro i k hk h;rw [J3] at h;simp only [AI] at h;cases k with
   | zero=>exact h.1
   | succ k=>
    have:=ih (k:=k) (by simpa using hk) h.2
    rw [show i+1+k=i+(k+1) by omega] at this;exact this
 unfold GK at h;simp only [AI] at h;obtain ⟨⟨h1,h31⟩,hn,ho⟩:=h;have hlen:=AM h1;have once:∀ j,1≤j→j < l.length→IJ l j=1:=fun j hj hjl=>by
  unfold ZF at ho;rw [CS] at ho
  have:=ho (j - 1) (va6.2 (by omega))
  rw [show j - 1+1=j by omega] at this;simpa using this
 have at_:∀ k (hk:k < l.length) j,(l.map fun w=>KZ (DH w.toInt) j)[k]?=some (KZ (nd l k) j):=fun k hk j=>by
  rw [B9,A5 hk];unfold nd;rw [eE hk];rfl
 refine ⟨⟨hlen,AM h31⟩,fun k hk=>by rw [eE hk]; exact (key hk hn).1,fun k hk hl=>?_,fun j hj hjl=>?_,fun j k k' hj hjl hk hk' hn1 hn2=>?_⟩
 ·have h2:=(key hk hn).2;have h3:=(key hk hn).1;rw [BJ] at h2;unfold nd at hl ⊢;rw [eE hk] at hl ⊢;unfold N1 at h2;rw [hl,DG] at h2;simp only [AI,B5,BV,A8] at h2;obtain ⟨q1,q2,q3,q4⟩:=h2;have hr:=(kT h3).2;unfold MN QV at hr;rw [hl,DG] at hr;simp only [AI,AP] at hr;exact ⟨⟨hr.2.1,hr.2.2.1⟩,hr.2.2.2.1,⟨by omega,by simp only [ic] at q4 ⊢; omega⟩,⟨by omega,by simp only [ic] at q4 ⊢; omega⟩,q2⟩
 ·have h2:=once j hj hjl;unfold IJ at h2;obtain ⟨k,a,hk,ha⟩:=zi1 (l:=l.map fun w=>KZ (DH w.toInt) j) (by omega);have hkl:k < l.length:=by
   have:=(BL.1 hk).1
   simpa using this
  rw [at_ k hkl j] at hk;simp only [AC] at hk;subst hk;exact ⟨k,hkl,qK.1 ha⟩
 ·have h2:=once j hj hjl;unfold IJ at h2;have p1:0 < KZ (nd l k) j:=qK.2 hn1;have p2:0 < KZ (nd l k') j:=qK.2 hn2;rcases Nat.lt_trichotomy k k' with hlt | heq | hlt
  ·have:=Nq hlt (at_ k hk j) (at_ k' hk' j)
   omega
  ·exact heq
  ·have:=Nq hlt (at_ k' hk' j) (at_ k hk j)
   omega
def QC (l:LI) (p:Pt) (i:Nat):Int:=(IF l p 31 (i:Int)).2.v
theorem jG {l:LI} (h:TreeOK l) (p:Pt) {i:Nat} (hi:i < l.length) (n:Nat):IF l p (n+1) (i:Int) =
  cond (nd l i).lf ((i:Int),nd l i) (cond (decide (p.g (nd l i).f.toNat≤(nd l i).a)) (IF l p n (nd l i).l) (IF l p n (nd l i).r)):=by
 rw [IF,AL (show ¬ (i:Int)≥ic l.length by simp only [ic]; omega),DG,BE,h.node i hi,A1,DG]
theorem jH {l:LI} (h:TreeOK l) (p:Pt):∀ (n n' i:Nat),i < l.length→l.length - i≤n→l.length - i≤n'→IF l p n (i:Int)=IF l p n' (i:Int)
 | 0,_,i,hi,h1,_=>absurd h1 (by omega)
 | _+1,0,i,hi,_,h2=>absurd h2 (by omega)
 | n+1,n'+1,i,hi,h1,h2=>by
  rw [jG h p hi,jG h p hi];cases hl:(nd l i).lf with
  | true=>rfl
  | false=>
   obtain ⟨_,_,⟨a1,a2⟩,⟨b1,b2⟩,_⟩:=h.fork i hi hl;simp only [ic] at a2 b2;rw [DG,DG];cases decide (p.g (nd l i).f.toNat≤(nd l i).a) with
   | true=>
    have e:(nd l i).l=(((nd l i).l.toNat:Nat):Int):=by omega
    rw [DE,DE,e];exact jH h p n n' _ (by omega) (by omega) (by omega)
   | false=>
    have e:(nd l i).r=(((nd l i).r.toNat:Nat):Int):=by omega
    rw [DG,DG,e];exact jH h p n n' _ (by omega) (by omega) (by omega)
theorem Ov {l:LI} (h:TreeOK l) (p:Pt) {i:Nat} (hi:i < l.length) (hl:(nd l i).lf=true):QC l p i=(nd l i).v:=by
 unfold QC;rw [jG h p hi,hl,DE]
theorem Ou {l:LI} (h:TreeOK l) (p:Pt) {i:Nat} (hi:i < l.length) (hl:(nd l i).lf=false):QC l p i=QC l p (cond (decide (p.g (nd l i).f.toNat≤(nd l i).a)) (nd l i).l.toNat (nd l i).r.toNat):=by
 obtain ⟨_,_,⟨a1,a2⟩,⟨b1,b2⟩,_⟩:=h.fork i hi hl;have h31:=h.len.2;simp only [ic] at a2 b2;unfold QC;rw [jG h p hi,hl,DG];cases decide (p.g (nd l i).f.toNat≤(nd l i).a) with
 | true=>
  rw [DE,DE];have e:(nd l i).l=(((nd l i).l.toNat:Nat):Int):=by omega
  rw [e,BE];rw [jH h p 30 31 _ (by omega) (by omega) (by omega)]
 | false=>
  rw [DG,DG];have e:(nd l i).r=(((nd l i).r.toNat:Nat):Int):=by omega
  rw [e,BE];rw [jH h p 30 31 _ (by omega) (by omega) (by omega)]
theorem zju (l:LI) (p:Pt):G1 l p=QC l p 0:=rfl
abbrev IQ (own:LI) (j:Nat):Bx:=DY (own.getD j default)
def fr (l:LI) (i j:Nat):Prop:=i≤j∧j < l.length∧(j=0∨∃ k,k < i∧XD l k j)
structure PInv (l:LI) (b:Bx) (i:Nat) (own out:LI):Prop where
 len:own.length=l.length
 val:∀ j,fr l i j→∀ p t,(IQ own j).has p t=true→b.has p t=true∧QC l p 0=QC l p j
 ok:∀ j,fr l i j→(IQ own j).ok
 all:∀ p t,b.has p t=true→(∃ x∈out,(DY x).has p t=true)∨∃ j,fr l i j∧(IQ own j).has p t=true
 out:∀ x∈out,(DY x).emp=false∧(DY x).ok∧∀ p t,(DY x).has p t=true→b.has p t=true∧G1 l p=HC x
theorem Bw {l:LI} (h:TreeOK l) {i:Nat} (hi:i < l.length):fr l i i:=by
 refine ⟨AW _,hi,?_⟩;by_cases h0:i=0
 ·exact .inl h0
 ·obtain ⟨k,hk,hn⟩:=h.parent i (by omega) hi;refine .inr ⟨k,?_,hn⟩;obtain ⟨_,_,a,b,_⟩:=h.fork k hk hn.1;rcases hn.2 with e | e <;> omega
theorem sN {own:LI} {a j:Nat} {x:IV} (ha:a < own.length):(own.set a x).getD j default=if j=a then x else own.getD j default:=by
 rw [BS,List.getElem?_set];by_cases e:a=j
 ·subst e;rw [BR rfl,BR ha,BR rfl];rfl
 ·rw [A9 e,A9 (fun h=>e h.symm),← BS]
theorem zf4 {l:LI} (h:TreeOK l) {b:Bx} {i:Nat} (hi:i < l.length) {own out:LI} (hp:PInv l b i own out) :
  PInv l b (i+1) (OX (nd l i) i own) (cond ((nd l i).lf&&!(IQ own i).emp) (out++[fP (IQ own i) (nd l i).v]) out):=by
 have hfi:=Bw h hi;cases hl:(nd l i).lf with
 | true=>
  have e1:OX (nd l i) i own=own:=by unfold OX; rw [hl,DE]
  have hfr:∀ j,fr l (i+1) j→fr l i j:=fun j hj=>by
   refine ⟨by have:=hj.1; omega,hj.2.1,hj.2.2.imp_right ?_⟩;rintro ⟨k,hk,hn⟩;refine ⟨k,?_,hn⟩;rcases Nat.lt_succ_iff_lt_or_eq.1 hk with h1 | h1
   ·exact h1
   ·subst h1;rw [hn.1] at hl;cases hl
  have hrf:∀ j,fr l i j→j=i∨fr l (i+1) j:=fun j hj=>by
   by_cases e:j=i
   ·exact .inl e
   ·refine .inr ⟨by have:=hj.1; omega,hj.2.1,hj.2.2.imp_right ?_⟩;rintro ⟨k,hk,hn⟩;exact ⟨k,by omega,hn⟩
  rw [e1,BC];have hv:=fun p=>Ov h p hi hl
  cases he:(IQ own i).emp with
  | true=>
   rw [A1,DG];refine ⟨hp.len,fun j hj=>hp.val j (hfr j hj),fun j hj=>hp.ok j (hfr j hj),fun p t hb=>?_,hp.out⟩;rcases hp.all p t hb with h1 | ⟨j,hj,hh⟩
   ·exact .inl h1
   ·rcases hrf j hj with rfl | hj'
    ·rw [WK hh] at he;cases he
    ·exact .inr ⟨j,hj',hh⟩
  | false=>
   rw [A6,DE];refine ⟨hp.len,fun j hj=>hp.val j (hfr j hj),fun j hj=>hp.ok j (hfr j hj),fun p t hb=>?_,fun x hx=>?_⟩
   ·rcases hp.all p t hb with ⟨x,hx,hh⟩ | ⟨j,hj,hh⟩
    ·exact .inl ⟨x,AV.2 (.inl hx),hh⟩
    ·rcases hrf j hj with rfl | hj'
     ·exact .inl ⟨_,AV.2 (.inr (BX.2 rfl)),hh⟩
     ·exact .inr ⟨j,hj',hh⟩
   ·rcases AV.1 hx with hx | hx
    ·exact hp.out x hx
    ·obtain rfl:=BX.1 hx;refine ⟨he,hp.ok i hfi,fun p t hh=>?_⟩;obtain ⟨q1,q2⟩:=hp.val i hfi p t hh;refine ⟨q1,?_⟩;rw [zju,q2,hv p];rfl
 | false=>
  obtain ⟨⟨f0,f4⟩,ha,⟨a1,a2⟩,⟨b1,b2⟩,hne⟩:=h.fork i hi hl;simp only [ic] at a2 b2;have ef:(nd l i).f=(((nd l i).f.toNat:Nat):Int):=by omega
  have hf5:(nd l i).f.toNat < 5:=by omega
  have e1:OX (nd l i) i own=(own.set (nd l i).l.toNat ((IQ own i).cutL (nd l i).f (nd l i).a).I).set (nd l i).r.toNat ((IQ own i).cutH (nd l i).f (nd l i).a).I:=by unfold OX; rw [hl,DG]
  have hlen:=hp.len;have at_:∀ j,(OX (nd l i) i own).getD j default=if j=(nd l i).r.toNat then ((IQ own i).cutH (nd l i).f (nd l i).a).I else if j=(nd l i).l.toNat then ((IQ own i).cutL (nd l i).f (nd l i).a).I else own.getD j default:=fun j=>by
   rw [e1,sN (by rw [vaI]; omega)];congr 1;rw [sN (by omega)]
  have fits : -2147483648≤(nd l i).a∧(nd l i).a≤2147483647:=by
   unfold EZ at ha;simpa only [AI,AP] using ha
  have hok:=hp.ok i hfi;have cl:∀ p t,((IQ own i).cutL (nd l i).f (nd l i).a).has p t=true↔(IQ own i).has p t=true∧p.g (nd l i).f.toNat≤(nd l i).a:=fun p t=>by
   have:=i8 (b:=IQ own i) hf5 (a:=(nd l i).a) (p:=p) (t:=t)
   rw [← ef,dX p t (by omega)] at this;exact this
  have ch:∀ p t,((IQ own i).cutH (nd l i).f (nd l i).a).has p t=true↔(IQ own i).has p t=true∧(nd l i).a < p.g (nd l i).f.toNat:=fun p t=>by
   have:=i7 hok hf5 (a:=(nd l i).a) fits.1 (p:=p) (t:=t)
   rw [← ef,dX p t (by omega)] at this;exact this
  have nl:XD l i (nd l i).l.toNat:=⟨hl,.inl (by omega)⟩;have nr:XD l i (nd l i).r.toNat:=⟨hl,.inr (by omega)⟩;have hfr:∀ j,fr l (i+1) j→j≠(nd l i).l.toNat→j≠(nd l i).r.toNat→fr l i j:=fun j hj h1 h2=>by
   refine ⟨by have:=hj.1; omega,hj.2.1,hj.2.2.imp_right ?_⟩;rintro ⟨k,hk,hn⟩;refine ⟨k,?_,hn⟩;rcases Nat.lt_succ_iff_lt_or_eq.1 hk with h3 | h3
   ·exact h3
   ·subst h3;rcases hn.2 with e | e
    ·exact absurd (by omega) h1
    ·exact absurd (by omega) h2
  have hnot:∀ j,XD l i j→¬ fr l i j:=fun j hn hj=>by
   obtain ⟨h1,h2,h3⟩:=hj;have hj0:1≤j:=by rcases hn.2 with e | e <;> omega
   rcases h3 with h3 | ⟨k,hk,hk2⟩
   ·omega
   ·have:=h.alone j k i hj0 h2 (by omega) hi hk2 hn
    omega
  have fl:fr l (i+1) (nd l i).l.toNat:=⟨by omega,by omega,.inr ⟨i,by omega,nl⟩⟩;have frr:fr l (i+1) (nd l i).r.toNat:=⟨by omega,by omega,.inr ⟨i,by omega,nr⟩⟩;have hup:∀ j,fr l i j→j≠i→fr l (i+1) j:=fun j hj e=>by
   refine ⟨by have:=hj.1; omega,hj.2.1,hj.2.2.imp_right ?_⟩;rintro ⟨k,hk,hn⟩;exact ⟨k,by omega,hn⟩
  have hvf:=fun p=>Ou h p hi hl
  rw [BM,DG];refine ⟨by rw [e1,vaI,vaI]; exact hp.len,fun j hj p t hh=>?_,fun j hj=>?_,fun p t hb=>?_,hp.out⟩
  ·unfold IQ at hh;rw [at_] at hh;by_cases hr:j=(nd l i).r.toNat
   ·rw [BR hr,KD,ch] at hh;obtain ⟨q1,q2⟩:=hp.val i hfi p t hh.1;refine ⟨q1,?_⟩;rw [q2,hvf p,AL (by omega),DG,hr]
   ·rw [A9 hr] at hh;by_cases hlj:j=(nd l i).l.toNat
    ·rw [BR hlj,KD,cl] at hh;obtain ⟨q1,q2⟩:=hp.val i hfi p t hh.1;refine ⟨q1,?_⟩;rw [q2,hvf p,AE hh.2,DE,hlj]
    ·rw [A9 hlj] at hh;exact hp.val j (hfr j hj hlj hr) p t hh
  ·unfold IQ;rw [at_];by_cases hr:j=(nd l i).r.toNat
   ·rw [BR hr,KD,ef];exact z6 hok hf5 _
   ·rw [A9 hr];by_cases hlj:j=(nd l i).l.toNat
    ·rw [BR hlj,KD,ef];exact z8 hok hf5 _
    ·rw [A9 hlj];exact hp.ok j (hfr j hj hlj hr)
  ·rcases hp.all p t hb with h1 | ⟨j,hj,hh⟩
   ·exact .inl h1
   ·refine .inr ?_;by_cases e:j=i
    ·subst e;by_cases hd:p.g (nd l j).f.toNat≤(nd l j).a
     ·refine ⟨_,fl,?_⟩;unfold IQ;rw [at_,A9 (by omega),BR rfl,KD,cl];exact ⟨hh,hd⟩
     ·refine ⟨_,frr,?_⟩;unfold IQ;rw [at_,BR rfl,KD,ch];exact ⟨hh,by omega⟩
    ·refine ⟨j,hup j hj e,?_⟩;unfold IQ;rw [at_,A9 (fun (er:j=(nd l i).r.toNat)=>hnot j (er ▸ nr) hj),A9 (fun (er:j=(nd l i).l.toNat)=>hnot j (er ▸ nl) hj)];exact hh
theorem Gz {l:LI} (h:TreeOK l) {b:Bx}:∀ (m i:Nat) (own out:LI),i+m=l.length→PInv l b i own out→∃ own',PInv l b l.length own' (N4 (l.drop i) i own out)
 | 0,i,own,out,hd,hp=>by
  have hi:i=l.length:=by omega
  subst hi;rw [vad,N4];exact ⟨own,hp⟩
 | m+1,i,own,out,hd,hp=>by
  have hi:i < l.length:=by omega
  rw [BF hi,N4];have hs:=zf4 h hi hp;have e:nd l i=DH (l[i]).toInt:=by unfold nd; rw [eE hi]
  rw [e] at hs;exact Gz h m (i+1) _ _ (by omega) hs
theorem zcL {l:LI} (ht:GK l 4=true) {b:Bx} (hb:b.emp=false) (hok:b.ok) :
  (∀ x∈II l b,(DY x).emp=false∧(DY x).ok∧∀ p t,(DY x).has p t=true→b.has p t=true∧G1 l p=HC x) ∧
   ∀ p t,b.has p t=true→∃ x∈II l b,(DY x).has p t=true:=by
 have h:=tZ ht;have h1:=h.len.1;have hz:((BN l.length YN.I).set 0 b.I).getD 0 default=b.I:=by rw [sN (by simp; omega),BR rfl]
 have f0:∀ j,fr l 0 j→j=0:=fun j hj=>by
  rcases hj.2.2 with e | ⟨k,hk,_⟩
  ·exact e
  ·omega
 have h0:PInv l b 0 ((BN l.length YN.I).set 0 b.I) []:=by
  refine ⟨by simp,fun j hj p t hh=>?_,fun j hj=>?_,fun p t hh=>.inr ⟨0,Bw h (by omega),?_⟩,fun x hx=>by cases hx⟩
  ·obtain rfl:=f0 j hj;unfold IQ at hh;rw [hz,KD] at hh;exact ⟨hh,rfl⟩
  ·obtain rfl:=f0 j hj;unfold IQ;rw [hz,KD];exact hok
  ·unfold IQ;rw [hz,KD];exact hh
 obtain ⟨own',hp⟩:=Gz h l.length 0 _ _ (by omega) h0;have e:II l b=N4 (l.drop 0) 0 ((BN l.length YN.I).set 0 b.I) []:=by unfold II; rw [ht,hb]; rfl
 rw [e];refine ⟨hp.out,fun p t hh=>?_⟩;rcases hp.all p t hh with h1 | ⟨j,hj,_⟩
 ·exact h1
 ·have:=hj.1
  have:=hj.2.1
  omega
theorem Ep:∀ {l:LI} {a:Int},OZ l a≤a∧∀ x∈l,OZ l a≤HC x
 | [],a=>⟨DA _,fun x hx=>by cases hx⟩
 | y :: r,a=>by
  rw [OZ];obtain ⟨h1,h2⟩:=Ep (l:=r) (a:=min a (HC y));refine ⟨by omega,fun x hx=>?_⟩;rcases AS.1 hx with rfl | hx
  ·omega
  ·exact h2 x hx
theorem El:∀ {l:LI} {a:Int},a≤OY l a∧∀ x∈l,HC x≤OY l a
 | [],a=>⟨DA _,fun x hx=>by cases hx⟩
 | y :: r,a=>by
  rw [OY];obtain ⟨h1,h2⟩:=El (l:=r) (a:=max a (HC y));refine ⟨by omega,fun x hx=>?_⟩;rcases AS.1 hx with rfl | hx
  ·omega
  ·exact h2 x hx
theorem Eo:∀ {l:LI} {a:Int},OZ l a=a∨∃ x∈l,OZ l a=HC x
 | [],a=>.inl rfl
 | y :: r,a=>by
  rw [OZ];rcases Eo (l:=r) (a:=min a (HC y)) with h | ⟨x,hx,h⟩
  ·rw [h];by_cases hd:a≤HC y
   ·exact .inl (by omega)
   ·exact .inr ⟨y,AR ..,by omega⟩
  ·exact .inr ⟨x,AY _ hx,h⟩
theorem Ek:∀ {l:LI} {a:Int},OY l a=a∨∃ x∈l,OY l a=HC x
 | [],a=>.inl rfl
 | y :: r,a=>by
  rw [OY];rcases Ek (l:=r) (a:=max a (HC y)) with h | ⟨x,hx,h⟩
  ·rw [h];by_cases hd:HC y≤a
   ·exact .inl (by omega)
   ·exact .inr ⟨y,AR ..,by omega⟩
  ·exact .inr ⟨x,AY _ hx,h⟩
theorem zgj {ps:LI} (hp:ps≠[]):(∀ x∈ps,fS ps≤HC x∧HC x≤fR ps)∧(∃ x∈ps,HC x=fS ps)∧∃ x∈ps,HC x=fR ps:=by
 unfold fS fR;cases ps with
 | nil=>exact absurd rfl hp
 | cons y r=>
  have e:(y :: r).getD 0 default=y:=rfl;rw [e];refine ⟨fun x hx=>⟨Ep.2 x hx,El.2 x hx⟩,?_,?_⟩
  ·rcases Eo (l:=y :: r) (a:=HC y) with h | ⟨x,hx,h⟩
   ·exact ⟨y,AR ..,h.symm⟩
   ·exact ⟨x,hx,h.symm⟩
  ·rcases Ek (l:=y :: r) (a:=HC y) with h | ⟨x,hx,h⟩
   ·exact ⟨y,AR ..,h.symm⟩
   ·exact ⟨x,hx,h.symm⟩
theorem XV {l:LI} (ht:GK l 4=true) {b:Bx} (hb:b.emp=false) (hok:b.ok) :
  (∀ p t,b.has p t=true→HV l b≤G1 l p∧G1 l p≤HU l b)∧(∃ p t,b.has p t=true∧G1 l p=HV l b)∧∃ p t,b.has p t=true∧G1 l p=HU l b:=by
 obtain ⟨h1,h2⟩:=zcL ht hb hok;have hne:II l b≠[]:=fun e=>by
  obtain ⟨x,hx,_⟩:=h2 b.low b.s4.hi (YO b hb);rw [e] at hx;cases hx
 obtain ⟨q1,⟨x,hx,q2⟩,⟨y,hy,q3⟩⟩:=zgj hne;have hT:XU l b=true:=by
  unfold XU;cases he:II l b with
  | nil=>exact absurd he hne
  | cons _ _=>rfl
 unfold HV HU;rw [hT,DE,DE];refine ⟨fun p t hh=>?_,⟨(DY x).low,(DY x).s4.hi,?_⟩,⟨(DY y).low,(DY y).s4.hi,?_⟩⟩
 ·obtain ⟨z,hz,hzh⟩:=h2 p t hh;rw [((h1 z hz).2.2 p t hzh).2];exact q1 z hz
 ·obtain ⟨r1,r2⟩:=(h1 x hx).2.2 _ _ (YO _ (h1 x hx).1);exact ⟨r1,r2.trans q2⟩
 ·obtain ⟨r1,r2⟩:=(h1 y hy).2.2 _ _ (YO _ (h1 y hy).1);exact ⟨r1,r2.trans q3⟩
end Go.FM
