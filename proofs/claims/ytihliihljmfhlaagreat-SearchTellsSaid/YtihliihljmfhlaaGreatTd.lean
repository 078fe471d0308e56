/-
  A small machine that reckons what a call comes to; the functions of the program, one by one. (NORMAL FORMS: what the functions' runs come to (written by a, copseref10.Right: ITS NORMAL FORM, for each place of the reg, THE DOCUMENT'S QUERIES AND ITS TRUTH come to what ours do., and so on.)
-/
import Derived.Test.YtihliihljmfhlaaGreatTc
import Derived.Lib.LaidU8
import Derived.OpenShut
import Derived.Test.YtihliihljmfhlaaGreatRows
import Derived.ProofKit
import Derived.LaidMore
import Derived.Deep.DeepWitnessRowRef
set_option linter.all false
set_option maxRecDepth 100000
open Array renaming length_toList→CN,getElem?_eq_some_iff→vaX
open Bool renaming and_eq_true→AI,not_true→A5,and_self→BE,true_and→BH,not_false→BJ,false_and→BY,not_eq_true'→CF,and_false→vax,or_eq_false_iff→vaE,and_true→vaI,eq_iff_iff→vaW
open Go.DataW renaming weights→vbl,weightsEach→vbt
open Go.IntKind renaming wrap→AA,i64→AC
open Go.ResultVar renaming tmp→BD,cell→vbd
open Int renaming toNat→AD,toNat_natCast→BL
open List renaming length→AF,getD→AG,length_append→AQ,mem_cons→AR,mem_cons_self→AS,length_cons→AT,take→AU,getElem?_eq_getElem→AV,mem_append→AW,mem_cons_of_mem→AY,length_take→A1,map_cons→A6,take_length→A9,drop_eq_getElem_cons→BC,getElem?_eq_none→BF,getD_eq_getElem?_getD→BG,getElem?_cons_zero→BQ,getElem?_eq_some_iff→BV,getElem?_map→BZ,drop→B5,length_nil→B8,drop_zero→CC,drop_length→CE,length_singleton→CK,map_nil→vab,replicate→vad,length_drop→vaf,foldl_cons→vam,length_set→vas,take_of_length_le→vav,mem_singleton→vaz,length_map→vaC,mem_of_getElem?→vaG,set→vaH,cons_append→vaL,mem_map_of_mem→vaO,getElem?_set_ne→vaP,flatMap_cons→vaY,range'→va1,getElem?_set_self→va4,getElem?_append→vbg
open Nat renaming le_of_ble_eq_true→AK,le_refl→AP,beq→AZ,zero_add→A0,blt→A2,ble→BI,ble_eq_true_of_le→BX,zero_le→B3,add_zero→vaa,eq_of_beq_eq_true→vai,min_eq_left→vao,sub_zero→vaq,add_assoc→va2
open Option renaming map_eq_some_iff→van
open Option.some renaming injEq→AB
open Prod.mk renaming injEq→AL
namespace Go.FM
open Go Go.Proofs
def sI (N:Nat):Env:=DB [] [] 28 N
theorem Dh (N:Nat) (q:Qy):C6 (sI N) gS [.cell 2 31] [[.z,.z,.z,.z,.z,.z,.z,.z,.z,.z]] [(Qy.V q)] =
 (cond (Qy.k q==3)
 (cond (decide (Qy.ft q≥0))
 (cond (decide (Qy.ft q < 4))
 (cond (decide (Qy.ft q=ic 0))
 (some ((.agg [.i (Qy.a0 q),.i (Qy.b0 q),.i (Qy.a1 q),.i (Qy.b1 q),.i (Qy.a2 q),.i (Qy.b2 q),.i (Qy.a3 q),.i (Qy.b3 q),.i (Qy.a0 q),.i (Qy.b0 q)]),[]))
 (cond (decide (Qy.ft q=ic 1))
 (some ((.agg [.i (Qy.a0 q),.i (Qy.b0 q),.i (Qy.a1 q),.i (Qy.b1 q),.i (Qy.a2 q),.i (Qy.b2 q),.i (Qy.a3 q),.i (Qy.b3 q),.i (Qy.a1 q),.i (Qy.b1 q)]),[]))
 (cond (decide (Qy.ft q=ic 2))
 (some ((.agg [.i (Qy.a0 q),.i (Qy.b0 q),.i (Qy.a1 q),.i (Qy.b1 q),.i (Qy.a2 q),.i (Qy.b2 q),.i (Qy.a3 q),.i (Qy.b3 q),.i (Qy.a2 q),.i (Qy.b2 q)]),[]))
 (cond (decide (Qy.ft q=ic 3))
 (some ((.agg [.i (Qy.a0 q),.i (Qy.b0 q),.i (Qy.a1 q),.i (Qy.b1 q),.i (Qy.a2 q),.i (Qy.b2 q),.i (Qy.a3 q),.i (Qy.b3 q),.i (Qy.a3 q),.i (Qy.b3 q)]),[]))
 (cond (decide (Qy.ft q=ic 4))
 (some ((.agg [.i (Qy.a0 q),.i (Qy.b0 q),.i (Qy.a1 q),.i (Qy.b1 q),.i (Qy.a2 q),.i (Qy.b2 q),.i (Qy.a3 q),.i (Qy.b3 q),.i (Qy.a4 q),.i (Qy.b4 q)]),[]))
 none)))))
 (some ((.agg [.i (Qy.a0 q),.i (Qy.b0 q),.i (Qy.a1 q),.i (Qy.b1 q),.i (Qy.a2 q),.i (Qy.b2 q),.i (Qy.a3 q),.i (Qy.b3 q),.i 0,.i 0]),[])))
 (some ((.agg [.i (Qy.a0 q),.i (Qy.b0 q),.i (Qy.a1 q),.i (Qy.b1 q),.i (Qy.a2 q),.i (Qy.b2 q),.i (Qy.a3 q),.i (Qy.b3 q),.i 0,.i 0]),[])))
 (some ((.agg [.i (Qy.a0 q),.i (Qy.b0 q),.i (Qy.a1 q),.i (Qy.b1 q),.i (Qy.a2 q),.i (Qy.b2 q),.i (Qy.a3 q),.i (Qy.b3 q),.i 0,.i 0]),[]))):=by kernel_rfl
def H1 (N:Nat):Env:=DB [(21,MI),(46,S8)] [(9,⟨[4,5,6,8,9,38,39],[4,5,6],[]⟩)] 87 N
theorem Cz (N:Nat) (m:Md) (a1:Qy) (a2:Pt) (a3:Int):C6 (H1 N) JR [.tmp 8] [[.bool]] [(Md.V m),(Qy.V a1),(Pt.V a2),.i a3] =
 (cond (!EI m a1)
 (some ((.bool false),[]))
 (cond (Qy.k a1==1)
 (cond (decide (CW m (Qy.c a1) a2 < Qy.lo a1)) (some ((.bool true),[])) (some ((.bool (decide (CW m (Qy.c a1) a2 > Qy.hi a1))),[])))
 (cond (Qy.k a1==2)
 (C4 (H1 N) (CR JR [1,1,1,0,1,0,1,1,1,0,0,1,0,0]) ⟨[4,5,6,8,9,38,39],[4,5,6],[]⟩ N ⟨[(4,(.ptr 4 0 0)),(5,(.ptr 5 0 0)),(6,(.ptr 6 0 0)),(8,(.bool false)),(9,(.i (CW m (Qy.c a1) a2))),(38,(.i (Md.c m))),(39,(.i 0))],[(4,(some (.box (Md.cs m)))),(5,(some (.box (Qy.cs a1)))),(6,(some (.box (Pt.cs a2))))]⟩ (CY 1 (C0 (H1 N) (CR JR [1,1,1,0,1,0,1,1,1,0,1]) (CY 0 (C0 (H1 N) (CR JR [1,1,1,1]) (C1 (H1 N) none [.tmp 8] [[.bool]]))))))
 (cond (decide (Qy.ft a1=ic 0))
 (cond (decide (Pt.p0 a2≥a3))
 (some ((.bool false),[]))
 (cond (decide (Qy.ft a1=ic 0))
 (cond (Qy.fl a1)
 (cond (decide (CW m (Qy.c a1) a2 < CW m (Qy.c a1) {p0:=a3,p1:=Pt.p1 a2,p2:=Pt.p2 a2,p3:=Pt.p3 a2}))
 (some ((.bool true),[]))
 (cond (!Qy.fl a1)
 (some ((.bool (decide (CW m (Qy.c a1) a2 > CW m (Qy.c a1) {p0:=a3,p1:=Pt.p1 a2,p2:=Pt.p2 a2,p3:=Pt.p3 a2}))),[]))
 (some ((.bool false),[]))))
 (cond (!Qy.fl a1)
 (some ((.bool (decide (CW m (Qy.c a1) a2 > CW m (Qy.c a1) {p0:=a3,p1:=Pt.p1 a2,p2:=Pt.p2 a2,p3:=Pt.p3 a2}))),[]))
 (some ((.bool false),[]))))
 (cond (decide (Qy.ft a1=ic 1))
 (cond (Qy.fl a1)
 (cond (decide (CW m (Qy.c a1) a2 < CW m (Qy.c a1) {p0:=Pt.p0 a2,p1:=a3,p2:=Pt.p2 a2,p3:=Pt.p3 a2}))
 (some ((.bool true),[]))
 (cond (!Qy.fl a1)
 (some ((.bool (decide (CW m (Qy.c a1) a2 > CW m (Qy.c a1) {p0:=Pt.p0 a2,p1:=a3,p2:=Pt.p2 a2,p3:=Pt.p3 a2}))),[]))
 (some ((.bool false),[]))))
 (cond (!Qy.fl a1)
 (some ((.bool (decide (CW m (Qy.c a1) a2 > CW m (Qy.c a1) {p0:=Pt.p0 a2,p1:=a3,p2:=Pt.p2 a2,p3:=Pt.p3 a2}))),[]))
 (some ((.bool false),[]))))
 (cond (decide (Qy.ft a1=ic 2))
 (cond (Qy.fl a1)
 (cond (decide (CW m (Qy.c a1) a2 < CW m (Qy.c a1) {p0:=Pt.p0 a2,p1:=Pt.p1 a2,p2:=a3,p3:=Pt.p3 a2}))
 (some ((.bool true),[]))
 (cond (!Qy.fl a1)
 (some ((.bool (decide (CW m (Qy.c a1) a2 > CW m (Qy.c a1) {p0:=Pt.p0 a2,p1:=Pt.p1 a2,p2:=a3,p3:=Pt.p3 a2}))),[]))
 (some ((.bool false),[]))))
 (cond (!Qy.fl a1)
 (some ((.bool (decide (CW m (Qy.c a1) a2 > CW m (Qy.c a1) {p0:=Pt.p0 a2,p1:=Pt.p1 a2,p2:=a3,p3:=Pt.p3 a2}))),[]))
 (some ((.bool false),[]))))
 (cond (decide (Qy.ft a1=ic 3))
 (cond (Qy.fl a1)
 (cond (decide (CW m (Qy.c a1) a2 < CW m (Qy.c a1) {p0:=Pt.p0 a2,p1:=Pt.p1 a2,p2:=Pt.p2 a2,p3:=a3}))
 (some ((.bool true),[]))
 (cond (!Qy.fl a1)
 (some ((.bool (decide (CW m (Qy.c a1) a2 > CW m (Qy.c a1) {p0:=Pt.p0 a2,p1:=Pt.p1 a2,p2:=Pt.p2 a2,p3:=a3}))),[]))
 (some ((.bool false),[]))))
 (cond (!Qy.fl a1)
 (some ((.bool (decide (CW m (Qy.c a1) a2 > CW m (Qy.c a1) {p0:=Pt.p0 a2,p1:=Pt.p1 a2,p2:=Pt.p2 a2,p3:=a3}))),[]))
 (some ((.bool false),[]))))
 none)))))
 (cond (decide (Qy.ft a1=ic 1))
 (cond (decide (Pt.p1 a2≥a3))
 (some ((.bool false),[]))
 (cond (decide (Qy.ft a1=ic 0))
 (cond (Qy.fl a1)
 (cond (decide (CW m (Qy.c a1) a2 < CW m (Qy.c a1) {p0:=a3,p1:=Pt.p1 a2,p2:=Pt.p2 a2,p3:=Pt.p3 a2}))
 (some ((.bool true),[]))
 (cond (!Qy.fl a1)
 (some ((.bool (decide (CW m (Qy.c a1) a2 > CW m (Qy.c a1) {p0:=a3,p1:=Pt.p1 a2,p2:=Pt.p2 a2,p3:=Pt.p3 a2}))),[]))
 (some ((.bool false),[]))))
 (cond (!Qy.fl a1)
 (some ((.bool (decide (CW m (Qy.c a1) a2 > CW m (Qy.c a1) {p0:=a3,p1:=Pt.p1 a2,p2:=Pt.p2 a2,p3:=Pt.p3 a2}))),[]))
 (some ((.bool false),[]))))
 (cond (decide (Qy.ft a1=ic 1))
 (cond (Qy.fl a1)
 (cond (decide (CW m (Qy.c a1) a2 < CW m (Qy.c a1) {p0:=Pt.p0 a2,p1:=a3,p2:=Pt.p2 a2,p3:=Pt.p3 a2}))
 (some ((.bool true),[]))
 (cond (!Qy.fl a1)
 (some ((.bool (decide (CW m (Qy.c a1) a2 > CW m (Qy.c a1) {p0:=Pt.p0 a2,p1:=a3,p2:=Pt.p2 a2,p3:=Pt.p3 a2}))),[]))
 (some ((.bool false),[]))))
 (cond (!Qy.fl a1)
 (some ((.bool (decide (CW m (Qy.c a1) a2 > CW m (Qy.c a1) {p0:=Pt.p0 a2,p1:=a3,p2:=Pt.p2 a2,p3:=Pt.p3 a2}))),[]))
 (some ((.bool false),[]))))
 (cond (decide (Qy.ft a1=ic 2))
 (cond (Qy.fl a1)
 (cond (decide (CW m (Qy.c a1) a2 < CW m (Qy.c a1) {p0:=Pt.p0 a2,p1:=Pt.p1 a2,p2:=a3,p3:=Pt.p3 a2}))
 (some ((.bool true),[]))
 (cond (!Qy.fl a1)
 (some ((.bool (decide (CW m (Qy.c a1) a2 > CW m (Qy.c a1) {p0:=Pt.p0 a2,p1:=Pt.p1 a2,p2:=a3,p3:=Pt.p3 a2}))),[]))
 (some ((.bool false),[]))))
 (cond (!Qy.fl a1)
 (some ((.bool (decide (CW m (Qy.c a1) a2 > CW m (Qy.c a1) {p0:=Pt.p0 a2,p1:=Pt.p1 a2,p2:=a3,p3:=Pt.p3 a2}))),[]))
 (some ((.bool false),[]))))
 (cond (decide (Qy.ft a1=ic 3))
 (cond (Qy.fl a1)
 (cond (decide (CW m (Qy.c a1) a2 < CW m (Qy.c a1) {p0:=Pt.p0 a2,p1:=Pt.p1 a2,p2:=Pt.p2 a2,p3:=a3}))
 (some ((.bool true),[]))
 (cond (!Qy.fl a1)
 (some ((.bool (decide (CW m (Qy.c a1) a2 > CW m (Qy.c a1) {p0:=Pt.p0 a2,p1:=Pt.p1 a2,p2:=Pt.p2 a2,p3:=a3}))),[]))
 (some ((.bool false),[]))))
 (cond (!Qy.fl a1)
 (some ((.bool (decide (CW m (Qy.c a1) a2 > CW m (Qy.c a1) {p0:=Pt.p0 a2,p1:=Pt.p1 a2,p2:=Pt.p2 a2,p3:=a3}))),[]))
 (some ((.bool false),[]))))
 none)))))
 (cond (decide (Qy.ft a1=ic 2))
 (cond (decide (Pt.p2 a2≥a3))
 (some ((.bool false),[]))
 (cond (decide (Qy.ft a1=ic 0))
 (cond (Qy.fl a1)
 (cond (decide (CW m (Qy.c a1) a2 < CW m (Qy.c a1) {p0:=a3,p1:=Pt.p1 a2,p2:=Pt.p2 a2,p3:=Pt.p3 a2}))
 (some ((.bool true),[]))
 (cond (!Qy.fl a1)
 (some ((.bool (decide (CW m (Qy.c a1) a2 > CW m (Qy.c a1) {p0:=a3,p1:=Pt.p1 a2,p2:=Pt.p2 a2,p3:=Pt.p3 a2}))),[]))
 (some ((.bool false),[]))))
 (cond (!Qy.fl a1)
 (some ((.bool (decide (CW m (Qy.c a1) a2 > CW m (Qy.c a1) {p0:=a3,p1:=Pt.p1 a2,p2:=Pt.p2 a2,p3:=Pt.p3 a2}))),[]))
 (some ((.bool false),[]))))
 (cond (decide (Qy.ft a1=ic 1))
 (cond (Qy.fl a1)
 (cond (decide (CW m (Qy.c a1) a2 < CW m (Qy.c a1) {p0:=Pt.p0 a2,p1:=a3,p2:=Pt.p2 a2,p3:=Pt.p3 a2}))
 (some ((.bool true),[]))
 (cond (!Qy.fl a1)
 (some ((.bool (decide (CW m (Qy.c a1) a2 > CW m (Qy.c a1) {p0:=Pt.p0 a2,p1:=a3,p2:=Pt.p2 a2,p3:=Pt.p3 a2}))),[]))
 (some ((.bool false),[]))))
 (cond (!Qy.fl a1)
 (some ((.bool (decide (CW m (Qy.c a1) a2 > CW m (Qy.c a1) {p0:=Pt.p0 a2,p1:=a3,p2:=Pt.p2 a2,p3:=Pt.p3 a2}))),[]))
 (some ((.bool false),[]))))
 (cond (decide (Qy.ft a1=ic 2))
 (cond (Qy.fl a1)
 (cond (decide (CW m (Qy.c a1) a2 < CW m (Qy.c a1) {p0:=Pt.p0 a2,p1:=Pt.p1 a2,p2:=a3,p3:=Pt.p3 a2}))
 (some ((.bool true),[]))
 (cond (!Qy.fl a1)
 (some ((.bool (decide (CW m (Qy.c a1) a2 > CW m (Qy.c a1) {p0:=Pt.p0 a2,p1:=Pt.p1 a2,p2:=a3,p3:=Pt.p3 a2}))),[]))
 (some ((.bool false),[]))))
 (cond (!Qy.fl a1)
 (some ((.bool (decide (CW m (Qy.c a1) a2 > CW m (Qy.c a1) {p0:=Pt.p0 a2,p1:=Pt.p1 a2,p2:=a3,p3:=Pt.p3 a2}))),[]))
 (some ((.bool false),[]))))
 (cond (decide (Qy.ft a1=ic 3))
 (cond (Qy.fl a1)
 (cond (decide (CW m (Qy.c a1) a2 < CW m (Qy.c a1) {p0:=Pt.p0 a2,p1:=Pt.p1 a2,p2:=Pt.p2 a2,p3:=a3}))
 (some ((.bool true),[]))
 (cond (!Qy.fl a1)
 (some ((.bool (decide (CW m (Qy.c a1) a2 > CW m (Qy.c a1) {p0:=Pt.p0 a2,p1:=Pt.p1 a2,p2:=Pt.p2 a2,p3:=a3}))),[]))
 (some ((.bool false),[]))))
 (cond (!Qy.fl a1)
 (some ((.bool (decide (CW m (Qy.c a1) a2 > CW m (Qy.c a1) {p0:=Pt.p0 a2,p1:=Pt.p1 a2,p2:=Pt.p2 a2,p3:=a3}))),[]))
 (some ((.bool false),[]))))
 none)))))
 (cond (decide (Qy.ft a1=ic 3))
 (cond (decide (Pt.p3 a2≥a3))
 (some ((.bool false),[]))
 (cond (decide (Qy.ft a1=ic 0))
 (cond (Qy.fl a1)
 (cond (decide (CW m (Qy.c a1) a2 < CW m (Qy.c a1) {p0:=a3,p1:=Pt.p1 a2,p2:=Pt.p2 a2,p3:=Pt.p3 a2}))
 (some ((.bool true),[]))
 (cond (!Qy.fl a1)
 (some ((.bool (decide (CW m (Qy.c a1) a2 > CW m (Qy.c a1) {p0:=a3,p1:=Pt.p1 a2,p2:=Pt.p2 a2,p3:=Pt.p3 a2}))),[]))
 (some ((.bool false),[]))))
 (cond (!Qy.fl a1)
 (some ((.bool (decide (CW m (Qy.c a1) a2 > CW m (Qy.c a1) {p0:=a3,p1:=Pt.p1 a2,p2:=Pt.p2 a2,p3:=Pt.p3 a2}))),[]))
 (some ((.bool false),[]))))
 (cond (decide (Qy.ft a1=ic 1))
 (cond (Qy.fl a1)
 (cond (decide (CW m (Qy.c a1) a2 < CW m (Qy.c a1) {p0:=Pt.p0 a2,p1:=a3,p2:=Pt.p2 a2,p3:=Pt.p3 a2}))
 (some ((.bool true),[]))
 (cond (!Qy.fl a1)
 (some ((.bool (decide (CW m (Qy.c a1) a2 > CW m (Qy.c a1) {p0:=Pt.p0 a2,p1:=a3,p2:=Pt.p2 a2,p3:=Pt.p3 a2}))),[]))
 (some ((.bool false),[]))))
 (cond (!Qy.fl a1)
 (some ((.bool (decide (CW m (Qy.c a1) a2 > CW m (Qy.c a1) {p0:=Pt.p0 a2,p1:=a3,p2:=Pt.p2 a2,p3:=Pt.p3 a2}))),[]))
 (some ((.bool false),[]))))
 (cond (decide (Qy.ft a1=ic 2))
 (cond (Qy.fl a1)
 (cond (decide (CW m (Qy.c a1) a2 < CW m (Qy.c a1) {p0:=Pt.p0 a2,p1:=Pt.p1 a2,p2:=a3,p3:=Pt.p3 a2}))
 (some ((.bool true),[]))
 (cond (!Qy.fl a1)
 (some ((.bool (decide (CW m (Qy.c a1) a2 > CW m (Qy.c a1) {p0:=Pt.p0 a2,p1:=Pt.p1 a2,p2:=a3,p3:=Pt.p3 a2}))),[]))
 (some ((.bool false),[]))))
 (cond (!Qy.fl a1)
 (some ((.bool (decide (CW m (Qy.c a1) a2 > CW m (Qy.c a1) {p0:=Pt.p0 a2,p1:=Pt.p1 a2,p2:=a3,p3:=Pt.p3 a2}))),[]))
 (some ((.bool false),[]))))
 (cond (decide (Qy.ft a1=ic 3))
 (cond (Qy.fl a1)
 (cond (decide (CW m (Qy.c a1) a2 < CW m (Qy.c a1) {p0:=Pt.p0 a2,p1:=Pt.p1 a2,p2:=Pt.p2 a2,p3:=a3}))
 (some ((.bool true),[]))
 (cond (!Qy.fl a1)
 (some ((.bool (decide (CW m (Qy.c a1) a2 > CW m (Qy.c a1) {p0:=Pt.p0 a2,p1:=Pt.p1 a2,p2:=Pt.p2 a2,p3:=a3}))),[]))
 (some ((.bool false),[]))))
 (cond (!Qy.fl a1)
 (some ((.bool (decide (CW m (Qy.c a1) a2 > CW m (Qy.c a1) {p0:=Pt.p0 a2,p1:=Pt.p1 a2,p2:=Pt.p2 a2,p3:=a3}))),[]))
 (some ((.bool false),[]))))
 none)))))
 none))))))):=by kernel_rfl
theorem pV (N:Nat) (m:Md) (a1:Qy) (a2:Pt) (b8:Bool) (x9 x38 x39:Int) (again:St→CU) (k:Out→St→CU):D9 (H1 N) (CR JR [1,1,1,0,1,0,1,1,1,0,0,1,0,0])
 ⟨[(4,(.ptr 4 0 0)),(5,(.ptr 5 0 0)),(6,(.ptr 6 0 0)),(8,(.bool b8)),(9,(.i x9)),(38,(.i x38)),(39,(.i x39))],[(4,(some (.box (Md.cs m)))),(5,(some (.box (Qy.cs a1)))),(6,(some (.box (Pt.cs a2))))]⟩
 (D4 again ⟨[4,5,6,8,9,38,39],[4,5,6],[]⟩ k) =
 (cond (decide (x39 < x38))
 (cond (x39 != Qy.c a1)
 (cond (decide (CW m x39 a2≥x9))
 (k .ret ⟨[(4,(.ptr 4 0 0)),(5,(.ptr 5 0 0)),(6,(.ptr 6 0 0)),(8,(.bool true)),(9,(.i x9)),(38,(.i x38)),(39,(.i x39))],[(4,(some (.box (Md.cs m)))),(5,(some (.box (Qy.cs a1)))),(6,(some (.box (Pt.cs a2))))]⟩)
 (again ⟨[(4,(.ptr 4 0 0)),(5,(.ptr 5 0 0)),(6,(.ptr 6 0 0)),(8,(.bool b8)),(9,(.i x9)),(38,(.i x38)),(39,(.i (AA AC (x39+1))))],[(4,(some (.box (Md.cs m)))),(5,(some (.box (Qy.cs a1)))),(6,(some (.box (Pt.cs a2))))]⟩))
 (again ⟨[(4,(.ptr 4 0 0)),(5,(.ptr 5 0 0)),(6,(.ptr 6 0 0)),(8,(.bool b8)),(9,(.i x9)),(38,(.i x38)),(39,(.i (AA AC (x39+1))))],[(4,(some (.box (Md.cs m)))),(5,(some (.box (Qy.cs a1)))),(6,(some (.box (Pt.cs a2))))]⟩))
 (k (.exit 1) ⟨[(4,(.ptr 4 0 0)),(5,(.ptr 5 0 0)),(6,(.ptr 6 0 0)),(8,(.bool b8)),(9,(.i x9)),(38,(.i x38)),(39,(.i x39))],[(4,(some (.box (Md.cs m)))),(5,(some (.box (Qy.cs a1)))),(6,(some (.box (Pt.cs a2))))]⟩)):=by kernel_rfl
theorem v9 (N:Nat) (m:Md) (a1:Qy) (a2:Pt) (b8:Bool) (x9 x38 x39:Int):(CY 1 (C0 (H1 N) (CR JR [1,1,1,0,1,0,1,1,1,0,1]) (CY 0 (C0 (H1 N) (CR JR [1,1,1,1]) (C1 (H1 N) none [.tmp 8] [[.bool]]))))) (.exit 1)
 ⟨[(4,(.ptr 4 0 0)),(5,(.ptr 5 0 0)),(6,(.ptr 6 0 0)),(8,(.bool b8)),(9,(.i x9)),(38,(.i x38)),(39,(.i x39))],[(4,(some (.box (Md.cs m)))),(5,(some (.box (Qy.cs a1)))),(6,(some (.box (Pt.cs a2))))]⟩ =
 (some ((.bool false),[])):=by kernel_rfl
theorem wA (N:Nat) (m:Md) (a1:Qy) (a2:Pt) (b8:Bool) (x9 x38 x39:Int):(CY 1 (C0 (H1 N) (CR JR [1,1,1,0,1,0,1,1,1,0,1]) (CY 0 (C0 (H1 N) (CR JR [1,1,1,1]) (C1 (H1 N) none [.tmp 8] [[.bool]]))))) .ret
 ⟨[(4,(.ptr 4 0 0)),(5,(.ptr 5 0 0)),(6,(.ptr 6 0 0)),(8,(.bool b8)),(9,(.i x9)),(38,(.i x38)),(39,(.i x39))],[(4,(some (.box (Md.cs m)))),(5,(some (.box (Qy.cs a1)))),(6,(some (.box (Pt.cs a2))))]⟩ =
 (some ((.bool b8),[])):=by kernel_rfl
def sK (N:Nat):Env:=DB [] [(2,⟨[2,5,6],[],[]⟩)] 15 N
def sG (N:Nat):Env:=DB [] [(3,⟨[1,2,3,5],[1,2,3],[]⟩)] 16 N
open Go Go.Proofs
abbrev UZ:KP:=⟨[2,3,4,33,34],[2,3],[]⟩
def NF (N:Nat):Env:=DB [(42,MK),(41,MM)] [(4,⟨[2,3,4,33,34],[2,3],[]⟩)] 139 N
abbrev HJ:CU:=some (V.bool false,[])
abbrev J6 (m:Md) (q:Qy) (i:Int):St:=⟨[(2,.ptr 2 0 0),(3,.ptr 3 0 0),(4,.bool false),(33,.agg [.int .i64 q.a0,.int .i64 q.b0,.int .i64 q.a1,.int .i64 q.b1,.int .i64 q.a2,.int .i64 q.b2,.int .i64 q.a3,.int .i64 q.b3,.int .i64 q.a4,.int .i64 q.b4]),(34,.int .i64 i)],[(2,some (.box m.cs)),(3,some (.box q.cs))]⟩
def c6 (d i:Int) (s:Sp) (F rest:CU):CU:=
 cond (decide (i < d)) (cond (decide (s.lo > s.hi)) F (cond (!(DL s.lo)) F (cond (!(DL s.hi)) F (cond (decide (i≥d)) (cond (!((s.lo==0)&&((s.hi==0)&&true))) F rest) rest))))
  (cond (decide (i≥d)) (cond (!((s.lo==0)&&((s.hi==0)&&true))) F rest) rest)
noncomputable abbrev PU (N:Nat):Out→St→CU:=CY 0 (C0 (NF N) (CR NO [1,1,1]) (C1 (NF N) none [.tmp 4] [[.bool]]))
set_option maxRecDepth 100000
theorem Dd (N:Nat) (m:Md) (q:Qy):C6 (NF N) NO [.tmp 4] [[.bool]] [m.V,q.V] =
 cond (!(DX m)) HJ (cond (decide (q.c < 0)) HJ (cond (decide (q.c≥m.c)) HJ (cond (decide (q.bu < 0)) HJ (cond (decide (q.bu > 65536)) HJ
 (C4 (NF N) (CR NO [1,1,0,1,0,0]) UZ N (J6 m q 0) (PU N)))))):=by kernel_rfl
theorem Mj (N:Nat) (m:Md) (q:Qy) {j:Nat} (hj:j < 5) (again:St→CU) (k:Out→St→CU):D9 (NF N) (CR NO [1,1,0,1,0,0]) (J6 m q (j:Int)) (D4 again UZ k) =
 c6 m.d (j:Int) (q.bx.g j) (k .ret (J6 m q (j:Int))) (again (J6 m q (CZ ((j:Int)+1)))):=by
 obtain rfl | rfl | rfl | rfl | rfl:j=0∨j=1∨j=2∨j=3∨j=4:=by omega
 all_goals kernel_rfl
theorem Mk (N:Nat) (m:Md) (q:Qy) (again:St→CU) (k:Out→St→CU):D9 (NF N) (CR NO [1,1,0,1,0,0]) (J6 m q 5) (D4 again UZ k)=k (.exit 0) (J6 m q 5):=by kernel_rfl
theorem xB (N:Nat) (m:Md) (q:Qy) (i:Int):PU N .ret (J6 m q i)=HJ:=by kernel_rfl
theorem xA (N:Nat) (m:Md) (q:Qy) (i:Int):PU N (.exit 0) (J6 m q i) =
 cond (q.k==1) (cond (decide (q.lo≤q.hi)) (cond (q.ft==0) (some (.bool (!q.fl),[])) HJ) HJ)
 (cond (q.k==2) (cond (decide (m.c≥2)) (cond (q.lo==0) (cond (q.hi==0) (cond (q.ft==0) (some (.bool (!q.fl),[])) HJ) HJ) HJ) HJ)
 (cond (q.k==3) (cond (decide (q.ft≥0)) (cond (decide (q.ft < m.d)) (cond (q.lo==0) (some (.bool (q.hi==0),[])) HJ) HJ) HJ) HJ)):=by kernel_rfl
open Go Go.Proofs
set_option maxRecDepth 100000
theorem Iy (b:Bx):C6 (sK 6) gU [.tmp 2] [[.bool]] [b.V] =
 cond b.s0.emp (some (.bool true,[])) (cond b.s1.emp (some (.bool true,[])) (cond b.s2.emp (some (.bool true,[])) (cond b.s3.emp (some (.bool true,[])) (cond b.s4.emp (some (.bool true,[])) (some (.bool false,[])))))):=by kernel_rfl
theorem dS:C5 PR B0 43 MJ:=by
 refine DC [] [(2,⟨[2,5,6],[],[]⟩)] MJ [[.bool]] Tryz.func43 y8 trivial ?_;intro vs r hwf h;unfold MJ at h;split at h
 ·rename_i b;replace h:=FU h;obtain ⟨b,rfl,h⟩:=h;rw [R.get_ok] at h;refine ⟨6,?_⟩;rw [← h];refine (Iy b).trans ?_;unfold Bx.emp;cases b.s0.emp <;> cases b.s1.emp <;> cases b.s2.emp <;> cases b.s3.emp <;> cases b.s4.emp <;> rfl
 ·simp [R.get] at h
theorem Iz (b:Bx):C6 (sG 5) gQ [.cell 2 43] [[.z,.z,.z,.z]] [b.V]=some (b.low.V,[]):=by kernel_rfl
theorem Kh:C5 PR B0 25 S0:=by
 refine DC [] [(3,⟨[1,2,3,5],[1,2,3],[]⟩)] S0 [[.z,.z,.z,.z]] Tryz.func25 yZ trivial ?_;intro vs r hwf h;unfold S0 at h;split at h
 ·rename_i b;replace h:=FU h;obtain ⟨b,rfl,h⟩:=h;rw [R.get_ok] at h;exact ⟨5,(Iz b).trans h⟩
 ·simp [R.get] at h
theorem Kl:C5 PR B0 22 S4:=by
 refine DC [] [] S4 [[.z,.z,.z,.z,.z,.z,.z,.z,.z,.z]] Tryz.func22 y5 trivial ?_;intro vs r hwf h;unfold S4 at h;split at h
 ·rename_i q;replace h:=FV h;obtain ⟨q,rfl,h⟩:=h;rw [R.get_ok] at h;refine ⟨0,(Dh 0 q).trans ?_⟩;rw [← h];unfold II;cases hp:EL q with
  | true=>
   have hp':=hp;unfold EL at hp';simp only [AI] at hp';obtain ⟨h1,h2,h3⟩:=hp';rw [h1,h2,h3];rcases VJ hp with e | e | e | e <;> rw [e] <;> rfl
  | false=>
   cases h1:(q.k==3) <;> cases h2:decide (q.ft≥0) <;> cases h3:decide (q.ft < 4) <;> first | rfl | (unfold EL at hp; rw [h1,h2,h3] at hp; cases hp)
 ·simp [R.get] at h
theorem Id (d i:Int) (s:Sp) (F rest:CU):c6 d i s F rest=cond (F6 d i s) rest F:=by
 unfold c6 F6 Sp.emp;rw [vaI];by_cases hd:i < d
 ·rw [AE hd,AM (show ¬ i≥d by omega)];cases decide (s.lo > s.hi) <;> cases DL s.lo <;> cases DL s.hi <;> rfl
 ·rw [AM hd,AE (show i≥d by omega)];cases hz:((s.lo==0)&&(s.hi==0)) with
  | false=>rfl
  | true=>
   simp only [AI,BR] at hz;rw [hz.1,hz.2];rfl
theorem oC (N:Nat) (m:Md) (q:Qy) (R:CU) (hx:PU N (.exit 0) (J6 m q 5)=R):∀ (d j n:Nat),j+d=5→d < n→(∃ r,C4 (NF N) (CR NO [1,1,0,1,0,0]) UZ n (J6 m q (j:Int)) (PU N)=cond r R HJ∧r=((va1 j d).all fun i=>F6 m.d (i:Int) (q.bx.g i)))
 | 0,j,n+1,hd,_=>by
  obtain rfl:j=5:=by omega
  exact ⟨true,by rw [DD]; exact (Mk N m q _ _).trans hx,rfl⟩
 | d+1,j,n+1,hd,hn=>by
  obtain ⟨r,e1,e2⟩:=oC N m q R hx d (j+1) n (by omega) (by omega);refine ⟨F6 m.d (j:Int) (q.bx.g j)&&r,?_,?_⟩
  ·rw [DD,Mj N m q (by omega),show CZ ((j:Int)+1)=((j+1:Nat):Int) from FN (by omega),e1,xB,Id];cases F6 m.d (j:Int) (q.bx.g j) <;> rfl
  ·rw [List.range'_succ,List.all_cons,e2]
 | 0,_,0,_,h=>by omega
 | _+1,_,0,_,h=>by omega
theorem XW (a b:Int):decide (a≥b)=!decide (a < b):=by
 by_cases h:a < b
 ·rw [AE h,AM (by omega)]; rfl
 ·rw [AM h,AE (by omega)]; rfl
theorem Fz (a b:Int):decide (a < b)=!decide (a≥b):=by
 rw [XW,Bool.not_not]
theorem Ga (a b:Int):decide (a≤b)=!decide (a > b):=XW b a
theorem dR:C5 PR B0 21 MI:=by
 refine DC [(42,MK),(41,MM)] [(4,⟨[2,3,4,33,34],[2,3],[]⟩)] MI [[.bool]] Tryz.func21 y0 ⟨dT,dV,trivial⟩ ?_;intro vs r hwf h;unfold MI at h;split at h
 ·rename_i m q;replace h:=F8 h;obtain ⟨m,rfl,h⟩:=h;replace h:=FV h;obtain ⟨q,rfl,h⟩:=h;rw [R.get_ok] at h;refine ⟨6,(Dd 6 m q).trans ?_⟩;rw [← h];have er:EI m q=(DX m&&(decide (q.c≥0)&&(decide (q.c < m.c)&&(decide (q.bu≥0)&&(decide (q.bu≤65536)&&(((va1 0 5).all fun i=>F6 m.d (i:Int) (q.bx.g i))&&JC m q)))))):=by
   have:((va1 0 5).all fun i=>F6 m.d (i:Int) (q.bx.g i))=(F6 m.d 0 q.bx.s0&&(F6 m.d 1 q.bx.s1&&(F6 m.d 2 q.bx.s2&&(F6 m.d 3 q.bx.s3&&(F6 m.d 4 q.bx.s4&&true))))):=rfl
   rw [this,vaI];rfl
  have ek:PU 6 (.exit 0) (J6 m q 5)=some (V.bool (JC m q),[]):=by
   rw [xA];unfold JC;cases (q.k==1) <;> cases (q.k==2) <;> cases (q.k==3) <;> cases decide (q.lo≤q.hi) <;> cases (q.ft==0) <;> cases decide (m.c≥2) <;> cases (q.lo==0) <;> cases (q.hi==0) <;> cases decide (q.ft≥0) <;> cases decide (q.ft < m.d) <;> rfl
  obtain ⟨r,e1,e2⟩:=oC 6 m q _ ek 5 0 6 rfl (by omega);replace e1:C4 (NF 6) (CR NO [1,1,0,1,0,0]) UZ 6 (J6 m q 0) (PU 6)=cond r (some (V.bool (JC m q),[])) HJ:=e1;rw [e1,er,← e2,XW q.c 0,Fz q.c m.c,XW q.bu 0,Ga q.bu 65536];cases DX m <;> cases decide (q.c < 0) <;> cases decide (q.c≥m.c) <;> cases decide (q.bu < 0) <;> cases decide (q.bu > 65536) <;> cases r <;> rfl
 ·simp [R.get] at h
abbrev Nt (m:Md) (q:Qy) (p:Pt) (own i:Int):St:=
 ⟨[(4,(.ptr 4 0 0)),(5,(.ptr 5 0 0)),(6,(.ptr 6 0 0)),(8,(.bool false)),(9,(.int .i64 own)),(38,(.int .i64 (Md.c m))),(39,(.int .i64 i))],[(4,(some (.box (Md.cs m)))),(5,(some (.box (Qy.cs q)))),(6,(some (.box (Pt.cs p))))]⟩
theorem nN (N:Nat) (m:Md) (q:Qy) (p:Pt) (own:Int) (hc:0≤m.c∧m.c≤3):∀ (d i n:Nat),((i+d:Nat):Int)=m.c→d < n →
  C4 (H1 N) (CR JR [1,1,1,0,1,0,1,1,1,0,0,1,0,0]) ⟨[4,5,6,8,9,38,39],[4,5,6],[]⟩ n (Nt m q p own (i:Int)) (CY 1 (C0 (H1 N) (CR JR [1,1,1,0,1,0,1,1,1,0,1]) (CY 0 (C0 (H1 N) (CR JR [1,1,1,1]) (C1 (H1 N) none [(BD 8)] [[.bool]]))))) =
   some (.bool (PA m q p own d i),[])
 | d,i,0,_,h=>absurd h (by omega)
 | 0,i,n+1,hd,_=>by
  rw [DD,pV,AM (show ¬ (i:Int) < m.c by omega),CS];exact v9 N m q p _ _ _ _
 | d+1,i,n+1,hd,hn=>by
  have ei:AA AC ((i:Int)+1)=((i+1:Nat):Int):=FN (by omega);rw [DD,pV,ei,AE (show (i:Int) < m.c by omega),CP,PA];have ih:=nN N m q p own hc d (i+1) n (by omega) (by omega);have en:((i:Int) != q.c)=!((i:Int)==q.c):=rfl;rw [en];cases ((i:Int)==q.c) with
  | true=>exact ih
  | false=>
   rw [BJ,CP,BH];cases decide (CW m (i:Int) p≥own) with
   | true=>exact wA N m q p _ _ _ _
   | false=>exact ih
theorem Kc:C5 PR B0 24 SW:=by
 refine DC [(21,MI),(46,S8)] [(9,⟨[4,5,6,8,9,38,39],[4,5,6],[]⟩)] SW [[.bool]] Tryz.func24 yV ⟨dR,Kp,trivial⟩ ?_;intro vs r hwf h;unfold SW at h;split at h
 ·rename_i m q p t;replace h:=F8 h;obtain ⟨m,rfl,h⟩:=h;replace h:=FV h;obtain ⟨q,rfl,h⟩:=h;replace h:=L7 h;obtain ⟨p,rfl,h⟩:=h;rw [R.get_ok] at h;refine ⟨10,?_⟩;rw [← h];refine (Cz 10 m q p t).trans ?_;unfold F9;cases hr:EI m q with
  | false=>rfl
  | true=>
   obtain ⟨hm,_,_,_,hk⟩:=KL hr;have hmp:=G2 hm;rw [A5,CS,BH];cases h1:(q.k==1) with
   | true=>
    rw [CP,CP];unfold Sp.has;by_cases hlo:CW m q.c p < q.lo
    ·rw [AE hlo,CP,AM (show ¬ q.lo≤CW m q.c p by omega)];rfl
    ·rw [AM hlo,CS,AE (show q.lo≤CW m q.c p by omega),BH,← decide_not];refine congrArg (fun z=>some (V.bool z,([]:List (List V)))) ?_;rw [decide_eq_decide];show CW m q.c p > q.hi↔¬ CW m q.c p≤q.hi;omega
   | false=>
    rw [CS,CS];cases h2:(q.k==2) with
    | true=>
     rw [CP,CP];refine (nN 10 m q p _ (by omega) m.c.toNat 0 10 (by omega) (by omega)).trans ?_;rw [ZA,← List.range_eq_range'];rfl
    | false=>
     rw [CS,CS];rcases aZ hk with ⟨e,_⟩ | ⟨e,_⟩ | ⟨ek,⟨f0,fd⟩,_⟩
     ·rw [e] at h1; cases h1
     ·rw [e] at h2; cases h2
     ·have hp:EL q=true:=by
       unfold EL;rw [ek,AE (show q.ft≥0 from f0),AE (show q.ft < 4 by omega)];rfl
      have step:∀ (x:Int) (p':Pt),p'=F5 q p t→cond (decide (x≥t)) (some (V.bool false,[])) (cond q.fl (cond (decide (CW m q.c p < CW m q.c p')) (some (V.bool true,[])) (cond (!q.fl) (some (V.bool (decide (CW m q.c p > CW m q.c p')),[])) (some (V.bool false,[]))))
         (cond (!q.fl) (some (V.bool (decide (CW m q.c p > CW m q.c p')),[])) (some (V.bool false,[])))) =
        some (V.bool (cond (decide (x≥t)) false (cond q.fl (decide (CW m q.c (F5 q p t) > CW m q.c p)) (decide (CW m q.c (F5 q p t) < CW m q.c p)))),([]:List (List V))):=fun x p' e=>by
       subst e;cases decide (x≥t) with
       | true=>rfl
       | false=>
        cases q.fl with
        | true=>
         show cond (decide (CW m q.c p < CW m q.c (F5 q p t))) _ _=some (V.bool (decide (CW m q.c p < CW m q.c (F5 q p t))),[]);cases decide (CW m q.c p < CW m q.c (F5 q p t)) <;> rfl
        | false=>rfl
      have es:∀ n:Nat,q.ft.toNat=n→F5 q p t=p.p t n:=fun n e=>by unfold F5; rw [hp,CP,e]
      obtain e | e | e | e:q.ft=0∨q.ft=1∨q.ft=2∨q.ft=3:=by omega
      ·have e2:=es 0 (by rw [e]; rfl);rw [e];exact step _ _ e2.symm
      ·have e2:=es 1 (by rw [e]; rfl);rw [e];exact step _ _ e2.symm
      ·have e2:=es 2 (by rw [e]; rfl);rw [e];exact step _ _ e2.symm
      ·have e2:=es 3 (by rw [e]; rfl);rw [e];exact step _ _ e2.symm
 ·simp [R.get] at h
open Go
theorem Fx {w:Int} (hb:ES w=true) (hl:(CQ w).lf=false):(0≤(CQ w).f∧(CQ w).f < 4)∧(1≤(CQ w).l∧(CQ w).l < 31)∧(1≤(CQ w).r∧(CQ w).r < 31)∧DL (CQ w).a=true:=by
 have h:=(bY hb).2;unfold GG at h;rw [hl,BB] at h;unfold KX at h;simp only [AI,AO] at h;exact ⟨⟨h.2.1,h.2.2.1⟩,h.2.2.2.2.1,h.2.2.2.2.2,h.2.2.2.1⟩
theorem Hr {m:Md} {q:Qy} (hr:EI m q=true) (h1:(q.k==1)=false) (h2:(q.k==2)=false):EL q=true:=by
 obtain ⟨hm,_,_,_,hk⟩:=RX hr;unfold JC at hk;rw [h1,h2,BB,BB] at hk;cases h3:q.k==3 with
 | false=>rw [h3,BB] at hk; cases hk
 | true=>
  rw [h3,BO] at hk;simp only [AI,AO] at hk;exact Hs hm (by simpa using h3) ⟨hk.1,hk.2.1⟩
structure R4 (x y:IV):Prop where
 a0:(C8 x).s0=(C8 y).s0
 a1:(C8 x).s1=(C8 y).s1
 a2:(C8 x).s2=(C8 y).s2
 a3:(C8 x).s3=(C8 y).s3
 ex:(C8 x).s4.emp=false
 ey:(C8 y).s4.emp=false
theorem Ic {x y:IV} (h:R4 x y):(C8 x).emp=(C8 y).emp:=by
 unfold Bx.emp;rw [h.a0,h.a1,h.a2,h.a3,h.ex,h.ey]
theorem cX {a b:Bx} (h0:a.s0=b.s0) (h1:a.s1=b.s1) (h2:a.s2=b.s2) (h3:a.s3=b.s3) (h4:a.s4.emp=false) (h5:b.s4.emp=false):R4 a.I b.I:=⟨h0,h1,h2,h3,h4,h5⟩
theorem Ib {x y:IV} (h:R4 x y) {f:Int} (h0:0≤f) (h4:f < 4) (a:Int):R4 ((C8 x).cutL f a).I ((C8 y).cutL f a).I∧R4 ((C8 x).cutH f a).I ((C8 y).cutH f a).I:=by
 obtain ⟨a0,a1,a2,a3,ex,ey⟩:=h;generalize C8 x=b at *;generalize C8 y=c at *;obtain ⟨b0,b1,b2,b3,b4⟩:=b;obtain ⟨c0,c1,c2,c3,c4⟩:=c;simp only at a0 a1 a2 a3;subst a0 a1 a2 a3;obtain rfl | rfl | rfl | rfl:f=0∨f=1∨f=2∨f=3:=by omega
 all_goals exact ⟨cX rfl rfl rfl rfl ex ey,cX rfl rfl rfl rfl ex ey⟩
def Y7 (l m:LI):Prop:=l.length=m.length∧∀ k,R4 (l.getD k default) (m.getD k default)
theorem cY {l m:LI} (h:Y7 l m) {x y:IV} (hxy:R4 x y) (i:Nat):Y7 (l.set i x) (m.set i y):=by
 refine ⟨by rw [vas,vas]; exact h.1,fun k=>?_⟩;have hk:=h.2 k;have hl:=h.1;rw [BG,BG] at hk ⊢;by_cases e:i=k
 ·subst e;by_cases hi:i < l.length
  ·rw [va4 hi,va4 (by omega)];exact hxy
  ·rw [List.set_eq_of_length_le (by omega),List.set_eq_of_length_le (by omega)];exact hk
 ·rw [vaP e,vaP e];exact hk
theorem lS:∀ (l:LI) (i:Nat) (own own' out out':LI),(∀ w∈l,ES w.toInt=true)→Y7 own own'→out.map E4=out'.map E4→(HM l i own out).map E4=(HM l i own' out').map E4
 | [],_,_,_,_,_,_,_,h=>h
 | w :: r,i,own,own',out,out',hn,hR,h=>by
  rw [HM,HM];have hi:=hR.2 i;refine lS r (i+1) _ _ _ _ (fun x hx=>hn x (AY _ hx)) ?_ ?_
  ·unfold JW;cases hl:(CQ w.toInt).lf with
   | true=>exact hR
   | false=>
    obtain ⟨⟨f0,f4⟩,_⟩:=Fx (hn w (AS ..)) hl;obtain ⟨c1,c2⟩:=Ib hi f0 f4 (CQ w.toInt).a;exact cY (cY hR c1 _) c2 _
  ·rw [Ic hi];cases ((CQ w.toInt).lf&&!(C8 (own'.getD i default)).emp) with
   | true=>
    rw [BO,BO,List.map_append,List.map_append,h];rfl
   | false=>exact h
theorem bU:∀ (l:LI) (a:Int),LR l a=(l.map E4).foldl min a
 | [],_=>rfl
 | x :: r,a=>by rw [LR,A6,vam,bU r]
theorem bQ:∀ (l:LI) (a:Int),LQ l a=(l.map E4).foldl max a
 | [],_=>rfl
 | x :: r,a=>by rw [LQ,A6,vam,bQ r]
theorem m6 {l m:LI} (h:l.map E4=m.map E4):E4 (l.getD 0 default)=E4 (m.getD 0 default):=by
 cases l with
 | nil=>cases m with
  | nil=>rfl
  | cons y s=>cases h
 | cons x r=>cases m with
  | nil=>cases h
  | cons y s=>exact (List.cons.inj h).1
theorem Hv {l m:LI} (h:l.map E4=m.map E4):RS l=RS m:=by
 unfold RS;rw [bU,bU,h,m6 h]
theorem Hu {l m:LI} (h:l.map E4=m.map E4):RR l=RR m:=by
 unfold RR;rw [bQ,bQ,h,m6 h]
theorem mE {dim n:Int}:∀ {l:LI} {i:Nat},IF dim n i l=true→∀ w∈l,ES w.toInt=true
 | [],_,_,_,hw=>by cases hw
 | x :: r,i,h,w,hw=>by
  rw [IF] at h;simp only [AI] at h;rcases AR.1 hw with rfl | hw
  ·exact h.1.1
  ·exact mE h.2 w hw
theorem bG (l:LI) {b c:Bx} (h0:b.s0=c.s0) (h1:b.s1=c.s1) (h2:b.s2=c.s2) (h3:b.s3=c.s3) (hb:b.s4.emp=false) (hc:c.s4.emp=false):(EV l b).map E4=(EV l c).map E4:=by
 unfold EV;have e:b.emp=c.emp:=by
  unfold Bx.emp;rw [h0,h1,h2,h3,hb,hc]
 rw [e];cases ht:F7 l 4 with
 | false=>rfl
 | true=>
  cases c.emp with
  | true=>rfl
  | false=>
   show (HM l 0 _ []).map E4=(HM l 0 _ []).map E4;have hn:IF 4 (ic l.length) 0 l=true:=by
    unfold F7 at ht;simp only [AI] at ht;exact ht.2.1
   refine lS l 0 _ _ [] [] (mE hn) ?_ rfl;refine cY ⟨rfl,fun k=>?_⟩ (cX h0 h1 h2 h3 hb hc) 0;by_cases hk:k < l.length
   ·have e:(vad l.length NI.I).getD k default=NI.I:=by
     rw [BG,List.getElem?_replicate,B1 hk];rfl
    rw [e];exact ⟨rfl,rfl,rfl,rfl,rfl,rfl⟩
   ·have e:(vad l.length NI.I).getD k default=default:=by
     rw [BG,List.getElem?_replicate,A7 hk];rfl
    rw [e];exact ⟨rfl,rfl,rfl,rfl,rfl,rfl⟩
theorem qZ {m:Md} {k:Int} {b c:Bx} (h0:b.s0=c.s0) (h1:b.s1=c.s1) (h2:b.s2=c.s2) (h3:b.s3=c.s3) (hb:b.s4.emp=false) (hc:c.s4.emp=false):EX m k b=EX m k c∧D6 m k b=D6 m k c∧E9 m k b=E9 m k c:=by
 have e:b.emp=c.emp:=by
  unfold Bx.emp;rw [h0,h1,h2,h3,hb,hc]
 have eo:∀ l,L3 l b=L3 l c:=fun l=>by
  have:=bG l h0 h1 h2 h3 hb hc
  unfold L3;cases h1:EV l b with
  | nil=>rw [h1] at this; cases h2:EV l c with
   | nil=>rfl
   | cons y s=>rw [h2] at this; cases this
  | cons x r=>rw [h1] at this; cases h2:EV l c with
   | nil=>rw [h2] at this; cases this
   | cons y s=>rfl
 have el:(fun l=>GS l b)=fun l=>GS l c:=funext fun l=>by
  unfold GS;rw [eo l,Hv (bG l h0 h1 h2 h3 hb hc)]
 have eh:(fun l=>GR l b)=fun l=>GR l c:=funext fun l=>by
  unfold GR;rw [eo l,Hu (bG l h0 h1 h2 h3 hb hc)]
 have es:E9 m k b=E9 m k c:=by
  unfold E9;rw [e]
 refine ⟨?_,?_,es⟩
 ·unfold EX;rw [es,el]
 ·unfold D6;rw [es,eh]
theorem XQ (m:Md) (c lo:Int) (b:Bx):∀ (n:Nat) (i a:Int),K2 m c lo b n i a true > 0↔a > 0∧∀ k:Nat,k < n→i+(k:Int)=c∨lo - D6 m (i+(k:Int)) b > 0
 | 0,i,a=>by
  rw [K2];exact ⟨fun h=>⟨h,fun k hk=>absurd hk (Nat.not_lt_zero k)⟩,fun h=>h.1⟩
 | n+1,i,a=>by
  have sh:(∀ k:Nat,k < n+1→i+(k:Int)=c∨lo - D6 m (i+(k:Int)) b > 0)↔(i=c∨lo - D6 m i b > 0)∧∀ k:Nat,k < n→i+1+(k:Int)=c∨lo - D6 m (i+1+(k:Int)) b > 0:=by
   constructor
   ·intro h;refine ⟨by simpa using h 0 (by omega),fun k hk=>?_⟩
    have:=h (k+1) (by omega)
    rw [show i+((k+1:Nat):Int)=i+1+(k:Int) by omega] at this;exact this
   ·rintro ⟨h1,h2⟩ k hk;cases k with
    | zero=>simpa using h1
    | succ k=>
     have:=h2 k (by omega)
     rw [show i+((k+1:Nat):Int)=i+1+(k:Int) by omega];exact this
  rw [K2,sh];by_cases hc:i=c
  ·rw [show (i==c)=true by simpa using hc,BO,XQ m c lo b n];constructor
   ·rintro ⟨h1,h2⟩; exact ⟨h1,.inl hc,h2⟩
   ·rintro ⟨h1,_,h2⟩; exact ⟨h1,h2⟩
  ·rw [show (i==c)=false by simpa using hc,BB,A5,Bool.false_or];by_cases hd:lo - D6 m i b < a
   ·rw [AE hd,BO,XQ m c lo b n];constructor
    ·rintro ⟨h1,h2⟩; exact ⟨by omega,.inr h1,h2⟩
    ·rintro ⟨h1,h2,h3⟩;rcases h2 with h2 | h2
     ·exact absurd h2 hc
     ·exact ⟨h2,h3⟩
   ·rw [AM hd,BB,XQ m c lo b n];constructor
    ·rintro ⟨h1,h2⟩; exact ⟨h1,.inr (by omega),h2⟩
    ·rintro ⟨h1,_,h3⟩; exact ⟨h1,h3⟩
theorem lY (m:Md) (c lo:Int) (b:Bx):∀ (n:Nat) (i a:Int),(∃ k:Nat,k < n∧i+(k:Int)≠c)→(K2 m c lo b n i a false > 0↔∀ k:Nat,k < n→i+(k:Int)=c∨lo - D6 m (i+(k:Int)) b > 0)
 | 0,i,a,h=>by
  obtain ⟨k,hk,_⟩:=h;exact absurd hk (Nat.not_lt_zero k)
 | n+1,i,a,h=>by
  have sh:(∀ k:Nat,k < n+1→i+(k:Int)=c∨lo - D6 m (i+(k:Int)) b > 0)↔(i=c∨lo - D6 m i b > 0)∧∀ k:Nat,k < n→i+1+(k:Int)=c∨lo - D6 m (i+1+(k:Int)) b > 0:=by
   constructor
   ·intro h;refine ⟨by simpa using h 0 (by omega),fun k hk=>?_⟩
    have:=h (k+1) (by omega)
    rw [show i+((k+1:Nat):Int)=i+1+(k:Int) by omega] at this;exact this
   ·rintro ⟨h1,h2⟩ k hk;cases k with
    | zero=>simpa using h1
    | succ k=>
     have:=h2 k (by omega)
     rw [show i+((k+1:Nat):Int)=i+1+(k:Int) by omega];exact this
  rw [K2,sh];by_cases hc:i=c
  ·have hex:∃ k:Nat,k < n∧i+1+(k:Int)≠c:=by
    obtain ⟨k,hk,hne⟩:=h;cases k with
    | zero=>exact absurd (by simpa using hc) hne
    | succ k=>exact ⟨k,by omega,by omega⟩
   rw [show (i==c)=true by simpa using hc,BO,lY m c lo b n _ _ hex];constructor
   ·intro h2; exact ⟨.inl hc,h2⟩
   ·rintro ⟨_,h2⟩; exact h2
  ·rw [show (i==c)=false by simpa using hc,BB,BJ,Bool.true_or,BO,XQ];constructor
   ·rintro ⟨h1,h2⟩; exact ⟨.inr h1,h2⟩
   ·rintro ⟨h2,h3⟩;rcases h2 with h2 | h2
    ·exact absurd h2 hc
    ·exact ⟨h2,h3⟩
def mP (m:Md) (q:Qy) (b:Bx):Bool:=(List.range m.c.toNat).all fun c=>((c:Int)==q.c)||!(decide (D6 m (c:Int) b≥EX m q.c b))
def ZW (m:Md) (q:Qy) (b:Bx):Bool:=
 cond (q.k==1) (decide (EX m q.c b≥q.lo)&&decide (D6 m q.c b≤q.hi))
  (cond (q.k==2) (mP m q b)
   (cond (decide ((b.g q.ft.toNat).lo≥b.s4.hi)) true
    (cond q.fl (decide (D6 m q.c (LZ q b)≤EX m q.c b)) (decide (EX m q.c (LZ q b)≥D6 m q.c b)))))
theorem u7 {m:Md} {q:Qy} {b:Bx} (hr:EI m q=true) (hb:b.emp=false):FI m q b=ZW m q b:=by
 obtain ⟨hm,hc,_,_,hk⟩:=RX hr;have hsok:E9 m q.c b=true:=by
  unfold E9;rw [hm,hb];unfold FA;rw [AE hc.1,AE hc.2];rfl
 unfold FI ZW;rw [hr,hb,BH,BB];cases hk1:q.k==1 with
 | true=>rw [BO,BO,hsok,BH]
 | false=>
  rw [BB,BB];cases hk2:q.k==2 with
  | true=>
   rw [BO,BO];unfold JC at hk;rw [hk1,hk2,BB,BO] at hk;simp only [AI] at hk;have hc2:m.c≥2:=A4 hk.1;have hmg:NX m q.c b=true:=by
    unfold NX;rw [hsok,AE hc2];rfl
   unfold U9;rw [hmg,BO,BH];have hex:∃ k:Nat,k < m.c.toNat∧0+(k:Int)≠q.c:=by
    by_cases h0:q.c=0
    ·exact ⟨1,by omega,by omega⟩
    ·exact ⟨0,by omega,by omega⟩
   have key:=lY m q.c (EX m q.c b) b m.c.toNat 0 0 hex;rw [vaW,AO,key];unfold mP;rw [List.all_eq_true];constructor
   ·intro h k hk
    have:=h k (List.mem_range.1 hk)
    rw [Int.zero_add] at this;rcases this with h | h
    ·simp [h]
    ·simp; right; omega
   ·intro h k hk
    have:=h k (List.mem_range.2 hk)
    rw [Int.zero_add];simp only [Bool.or_eq_true,BR,CF,CO] at this;rcases this with h | h
    ·exact .inl h
    ·right; omega
  | false=>
   rw [BB,BB];have hpair:EL q=true:=Hr hr hk1 hk2;have hft:q.ft.toNat < 4:=by
    unfold EL at hpair;simp only [AI,AO] at hpair;omega
   unfold RN;rw [hpair,hb,BH,BJ,BH];by_cases ho:(b.g q.ft.toNat).lo < b.s4.hi
   ·rw [AE ho,AM (show ¬ (b.g q.ft.toNat).lo≥b.s4.hi by omega),A5,BB,BB];have h4:b.s4.emp=false:=by
     unfold Bx.emp at hb;simp only [vaE] at hb;exact hb.2.2.2.2
    have hz:(⟨0,0⟩:Sp).emp=false:=rfl;have e1:I9 q b=b.p ⟨0,0⟩ 4:=by unfold I9; rw [hpair,BO]
    have e2:JI q b=(b.p b.s4 q.ft.toNat).p ⟨0,0⟩ 4:=by unfold JI; rw [hpair,BO]
    have e3:LZ q b=b.p b.s4 q.ft.toNat:=by unfold LZ; rw [hpair,BO]
    have f1:=qZ (m:=m) (k:=q.c) (b:=b) (c:=b.p ⟨0,0⟩ 4) rfl rfl rfl rfl h4 hz;have h4':(b.p b.s4 q.ft.toNat).s4.emp=false:=by
     have:∀ n:Nat,n < 4→(b.p b.s4 n).s4=b.s4:=fun n hn=>by
      match n,hn with
      | 0,_=>rfl
      | 1,_=>rfl
      | 2,_=>rfl
      | 3,_=>rfl
      | n+4,h=>exact absurd h (by omega)
     rw [this _ hft];exact h4
    have f2:=qZ (m:=m) (k:=q.c) (b:=b.p b.s4 q.ft.toNat) (c:=(b.p b.s4 q.ft.toNat).p ⟨0,0⟩ 4) rfl rfl rfl rfl h4' hz;have hb2:(b.p b.s4 q.ft.toNat).emp=false:=by
     rw [gA] at hb ⊢;intro i hi;rw [uI b _ (show q.ft.toNat < 5 by omega) hi];split
     ·exact hb 4 (by omega)
     ·exact hb i hi
    have hs2:E9 m q.c (b.p b.s4 q.ft.toNat)=true:=by
     unfold E9;rw [hm,hb2];unfold FA;rw [AE hc.1,AE hc.2];rfl
    have hch:KW m q b=true:=by
     unfold KW;rw [hpair,e1,e2,← f1.2.2,← f2.2.2,hsok,hs2];rfl
    unfold UL UK;rw [hch,BO,BO,e1,e2,e3,← f1.1,← f1.2.1,← f2.1,← f2.2.1,BH,BH];cases q.fl with
    | true=>
     rw [BO,BO,vaW,AO,AO];omega
    | false=>
     rw [BB,BB,vaW,AO,AO];omega
   ·rw [AM ho,AE (show (b.g q.ft.toNat).lo≥b.s4.hi by omega),BJ,BO,BO]
open Go Go.Proofs
set_option maxRecDepth 100000
def LK (k:Int) (g:Nat→CU):CU:=cond (decide (k=ic 0)) (g 0) (cond (decide (k=ic 1)) (g 1) (cond (decide (k=ic 2)) (g 2) (cond (decide (k=ic 3)) (g 3) (cond (decide (k=ic 4)) (g 4) none))))
def QL (N:Nat):Env:=DB [(87,SZ)] [(6,⟨[4,5,6,8,9,26,27,28],[],[]⟩)] 43 N
abbrev a8:KP:=⟨[4,5,6,8,9,26,27,28],[],[]⟩
abbrev QK (lo hi:Int) (l:LI) (e i:Int):St:=⟨[(4,.i 0),(5,.i 0),(6,.bool false),(8,.i lo),(9,.i hi),(26,.list true FT l),(27,.i e),(28,.i i)],[]⟩
noncomputable abbrev aU (N:Nat):Out→St→CU:=CY 0 (C0 (QL N) (CR QW [1,1,1,1,1]) (C1 (QL N) none [.tmp 4,.tmp 5,.tmp 6] [[.z],[.z],[.bool]]))
abbrev QQ:CU:=some (.tup [.int .i64 0,.int .i64 0,.bool false],[])
def RP (l:LI) (i:Int):Int:=IV.toInt (IV.cell (AG l (AD i) default) 10)
theorem Cy (N:Nat) (l:LI) (b:Bx):C6 (QL N) QW [.tmp 4,.tmp 5,.tmp 6] [[.z],[.z],[.bool]] [.list false [.int .u64] l,b.V] =
 cond (!b.emp) (cond (ic (EV l b).length==0) QQ (cond (decide ((0:Int)≤0)&&decide (0 < ic (EV l b).length)) (cond (decide ((0:Int)≤0)&&decide (0 < ic (EV l b).length))
 (C4 (QL N) (CR QW [1,1,1,1,0,1,0,0]) a8 N (QK (RP (EV l b) 0) (RP (EV l b) 0) (EV l b) (ic (EV l b).length) 0) (aU N)) none) none)) none:=by kernel_rfl
theorem qF (N:Nat) (lo hi:Int) (l:LI) (e i:Int) (again:St→CU) (k:Out→St→CU):D9 (QL N) (CR QW [1,1,1,1,0,1,0,0]) (QK lo hi l e i) (D4 again a8 k) =
 cond (decide (i < e)) (cond (decide (0≤i)&&decide (i < ic l.length)) (again (QK (min lo (RP l i)) (max hi (RP l i)) l e (CZ (i+1)))) none) (k (.exit 0) (QK lo hi l e i)):=by kernel_rfl
theorem wU (N:Nat) (lo hi:Int) (l:LI) (e i:Int):aU N (.exit 0) (QK lo hi l e i)=some (.tup [.i lo,.i hi,.bool true],[]):=by kernel_rfl
def QO (N:Nat):Env:=DB [(68,SV),(43,MJ),(41,MM)] [(5,⟨[1,5,6,7,8,9,10,42,43,44],[5],[]⟩)] 69 N
abbrev bC:KP:=⟨[1,5,6,7,8,9,10,42,43,44],[5],[]⟩
abbrev ON (b:Bx) (k lo hi:Int) (ts:LI) (e i:Int):St:=⟨[(1,.i k),(5,.ptr 5 0 0),(6,.i 0),(7,.i 0),(8,.bool false),(9,.i lo),(10,.i hi),(42,.list true EU ts),(43,.i e),(44,.i i)],[(5,some (.box b.cs))]⟩
noncomputable abbrev aV (N:Nat):Out→St→CU:=CY 0 (C0 (QO N) (CR QZ [1,1,1,1]) (C1 (QO N) none [.tmp 6,.tmp 7,.tmp 8] [[.z],[.z],[.bool]]))
def kE (m:Md) (k:Int) (g:Int→CU):CU:=cond (decide (k=ic 0)) (g m.b0) (cond (decide (k=ic 1)) (g m.b1) (cond (decide (k=ic 2)) (g m.b2) none))
theorem Di (N:Nat) (m:Md) (k:Int) (b:Bx):C6 (QO N) QZ [.tmp 6,.tmp 7,.tmp 8] [[.z],[.z],[.bool]] [m.V,.i k,b.V] =
 cond (!DX m) QQ (cond (decide (k < 0)) QQ (cond (decide (k≥m.c)) QQ (cond b.emp QQ
 (kE m k fun x=>kE m k fun y=>C4 (QO N) (CR QZ [1,1,1,0,1,0,0]) bC N (ON b k x y m.ts (ic m.ts.length) 0) (aV N))))):=by kernel_rfl
theorem qO (N:Nat) (b:Bx) (c lo hi:Int) (ts:LI) (e i:Int) (again:St→CU) (k:Out→St→CU):D9 (QO N) (CR QZ [1,1,1,0,1,0,0]) (ON b c lo hi ts e i) (D4 again bC k) =
 cond (decide (i < e)) (cond (decide (0≤i)&&decide (i < ic ts.length)) (cond (OC (AG ts (AD i) default)==c)
 (cond (!b.emp) (again (ON b c (CZ (lo+GS (D2 (AG ts (AD i) default)) b)) (CZ (hi+GR (D2 (AG ts (AD i) default)) b)) ts e (CZ (i+1)))) none)
 (again (ON b c lo hi ts e (CZ (i+1))))) none) (k (.exit 0) (ON b c lo hi ts e i)):=by kernel_rfl
theorem xF (N:Nat) (b:Bx) (c lo hi:Int) (ts:LI) (e i:Int):aV N (.exit 0) (ON b c lo hi ts e i)=some (.tup [.i lo,.i hi,.bool true],[]):=by kernel_rfl
def sH (N:Nat):Env:=DB [] [] 24 N
theorem Df (N:Nat) (q:Qy) (b:Bx):C6 (sH N) gR [.cell 4 31] [D1] [q.V,b.V] =
 cond (q.k==3) (cond (decide (q.ft≥0)) (cond (decide (q.ft < 4)) (LK q.ft fun j=>some ((b.p b.s4 j).V,[])) (some (b.V,[]))) (some (b.V,[]))) (some (b.V,[])):=by kernel_rfl
def OR (N:Nat):Env:=DB [(21,MI),(45,S2),(44,S5),(43,MJ)] [(11,⟨[3,4,5,6,7,49,50],[3,4,5],[]⟩)] 108 N
abbrev a9:KP:=⟨[3,4,5,6,7,49,50],[3,4,5],[]⟩
abbrev L9 (m:Md) (q:Qy) (b:Bx) (own e i:Int):St:=⟨[(3,.ptr 3 0 0),(4,.ptr 4 0 0),(5,.ptr 5 0 0),(6,.bool false),(7,.i own),(49,.i e),(50,.i i)],[(3,some (.box m.cs)),(4,some (.box q.cs)),(5,some (.box b.cs))]⟩
noncomputable abbrev W7 (N:Nat):Out→St→CU:=CY 1 (C0 (OR N) (CR PE [1,1,1,1,0,1,0,1,1,1,0,1]) (CY 0 (C0 (OR N) (CR PE [1,1,1,1,1]) (C1 (OR N) none [.tmp 6] [[.bool]]))))
abbrev JZ (b:Bool):CU:=some (V.bool b,[])
theorem Da (N:Nat) (m:Md) (q:Qy) (b:Bx):C6 (OR N) PE [.tmp 6] [[.bool]] [m.V,q.V,b.V] =
 cond (!EI m q) (JZ false) (cond b.emp (JZ true) (cond (q.k==1) (cond (decide (EX m q.c b≥q.lo)) (JZ (decide (D6 m q.c b≤q.hi))) (JZ false))
 (cond (q.k==2) (C4 (OR N) (CR PE [1,1,1,1,0,1,0,1,1,1,0,0,1,0,0]) a9 N (L9 m q b (EX m q.c b) m.c 0) (W7 N))
 (LK q.ft fun j=>cond (decide ((b.g j).lo≥b.s4.hi)) (JZ true) (cond q.fl (cond (decide (D6 m q.c (LZ q b)≤EX m q.c b)) (JZ true) (cond (!q.fl) (JZ (decide (EX m q.c (LZ q b)≥D6 m q.c b))) (JZ false)))
 (cond (!q.fl) (JZ (decide (EX m q.c (LZ q b)≥D6 m q.c b))) (JZ false))))))):=by kernel_rfl
theorem qG (N:Nat) (m:Md) (q:Qy) (b:Bx) (own e i:Int) (again:St→CU) (k:Out→St→CU):D9 (OR N) (CR PE [1,1,1,1,0,1,0,1,1,1,0,0,1,0,0]) (L9 m q b own e i) (D4 again a9 k) =
 cond (decide (i < e)) (cond (i != q.c) (cond (decide (D6 m i b≥own)) (k .ret (L9 m q b own e i)) (again (L9 m q b own e (CZ (i+1))))) (again (L9 m q b own e (CZ (i+1))))) (k (.exit 1) (L9 m q b own e i)):=by kernel_rfl
theorem wV (N:Nat) (m:Md) (q:Qy) (b:Bx) (own e i:Int):W7 N (.exit 1) (L9 m q b own e i)=JZ true:=by kernel_rfl
theorem wW (N:Nat) (m:Md) (q:Qy) (b:Bx) (own e i:Int):W7 N .ret (L9 m q b own e i)=JZ false:=by kernel_rfl
def QN (N:Nat):Env:=DB [(47,SY)] [(2,⟨[3,4,5,6,7,8,11],[3,4,5],[]⟩)] 31 N
abbrev bA:KP:=⟨[3,4,5,6,7,8,11],[3,4,5],[]⟩
abbrev ND (m:Md) (q:Qy) (b:Bx) (x y:Int) (z:Bool) (i:Int):St:=⟨[(3,.ptr 3 0 0),(4,.ptr 4 0 0),(5,.ptr 5 0 0),(6,.i x),(7,.i y),(8,.bool z),(11,.i i)],[(3,some (.box m.cs)),(4,some (.box q.cs)),(5,some (.box b.cs))]⟩
noncomputable abbrev W9 (N:Nat):Out→St→CU:=CY 0 (C0 (QN N) (CR QY [1,1]) (C1 (QN N) none [.tmp 6,.tmp 7,.tmp 8] [[.z],[.z],[.bool]]))
theorem Dg (N:Nat) (m:Md) (q:Qy) (b:Bx):C6 (QN N) QY [.tmp 6,.tmp 7,.tmp 8] [[.z],[.z],[.bool]] [m.V,q.V,b.V] =
 C4 (QN N) (CR QY [1,0,1,0,0]) bA N (ND m q b 0 0 false 0) (W9 N):=by kernel_rfl
def VC (n:Nat):Int:=CZ (Int.tdiv (CZ (ic n - 1)) 2)
theorem qN (N:Nat) (m:Md) (q:Qy) (b:Bx) (i:Int) (again:St→CU) (k:Out→St→CU):D9 (QN N) (CR QY [1,0,1,0,0]) (ND m q b 0 0 false i) (D4 again bA k) =
 cond (decide (i < 5)) (cond (DX m&&E3 i) (cond (decide (ic (iZ (EB m q b (AD i))).length > 0))
 (cond (decide (0≤VC (iZ (EB m q b (AD i))).length)&&decide (VC (iZ (EB m q b (AD i))).length < ic (iZ (EB m q b (AD i))).length))
 (k .ret (ND m q b i (IV.toInt (AG (iZ (EB m q b (AD i))) (AD (VC (iZ (EB m q b (AD i))).length)) default)) true i)) none)
 (again (ND m q b 0 0 false (CZ (i+1))))) none) (k (.exit 0) (ND m q b 0 0 false i)):=by kernel_rfl
theorem xD (N:Nat) (m:Md) (q:Qy) (b:Bx) (i:Int):W9 N (.exit 0) (ND m q b 0 0 false i)=QQ:=by kernel_rfl
theorem xE (N:Nat) (m:Md) (q:Qy) (b:Bx) (x y:Int) (z:Bool) (i:Int):W9 N .ret (ND m q b x y z i)=some (.tup [.i x,.i y,.bool z],[]):=by kernel_rfl
def sJ (N:Nat):Env:=DB [(48,OW)] [] 35 N
theorem Dj (N:Nat) (b:Bx) {j:Nat} (hj:j < 5) (a:Int):C6 (sJ N) gT [.cell 6 31,.cell 7 31] [D1,D1] [b.V,.i (j:Int),.i a] =
 some (.tup [(b.p ((b.g j).meet ⟨(b.g j).lo,a⟩) j).V,(b.p ((b.g j).meet ⟨CZ (a+1),(b.g j).hi⟩) j).V],[]):=by
 obtain rfl | rfl | rfl | rfl | rfl:j=0∨j=1∨j=2∨j=3∨j=4:=by omega
 all_goals kernel_rfl
def QM (N:Nat):Env:=DB [(24,SW),(23,SX),(25,S0),(21,MI),(26,S3),(22,S4),(27,S6)] [(5,⟨[2,3,4,5,6],[2,3,4,6,500,501],[⟨.tmp 5,500,31,true,D1⟩,⟨.cell 6 1,501,71,true,DP⟩]⟩)] 109 N
abbrev bB:KP:=⟨[2,3,4,5,6],[2,3,4,6,500,501],[⟨.tmp 5,500,31,true,D1⟩,⟨.cell 6 1,501,71,true,DP⟩]⟩
def JL (m:Md) (q:Qy) (v:Vd) (n:Nat) (L:LI) (nP:Nat) (P:LI) (sp:Int):St:=
 ⟨[(2,.ptr 2 0 0),(3,.ptr 3 0 0),(4,.ptr 4 0 0),(5,.row 500 0 n),(6,.ptr 6 0 0)],[(2,some (.box m.cs)),(3,some (.box q.cs)),(4,some (.box [.int .i64 v.kind,.zs,.int .i64 v.w0,.int .i64 v.w1,.int .i64 v.w2,.int .i64 v.w3,.int .i64 v.twin,.int .i64 v.spent])),
  (6,some (.box [.int .i64 3,.row 501 0 nP,.int .i64 0,.int .i64 0,.int .i64 0,.int .i64 0,.int .i64 0,.int .i64 sp])),(500,some (.row true 31 true D1 L)),(501,some (.row true 71 true DP P))]⟩
noncomputable abbrev XA (N:Nat):Out→St→CU:=CY 0 (C0 (QM N) (CR QX [1,1,1,1,1]) (C1 (QM N) none [.cell 4 45] [[.z,.list true DP,.z,.z,.z,.z,.z,.z]]))
def J4 (n:Nat):Int:=CZ (ic (n - 0) - 1)
def GT (L:LI) (n:Nat):Bx:=C8 (AG L (0+AD (J4 n)) default)
theorem De (N:Nat) (m:Md) (q:Qy):C6 (QM N) QX [.cell 4 45] [[.z,.list true DP,.z,.z,.z,.z,.z,.z]] [m.V,q.V] =
 cond (!EI m q) (some (Vd.V ⟨4,[],0,0,0,0,0,0⟩,[])) (C4 (QM N) (CR QX [1,1,1,1,0,0,0]) bB N (JL m q Vd.none 1 [(II q).I] 0 [] 0) (XA N)):=by kernel_rfl
theorem qM (N:Nat) (m:Md) (q:Qy) (n:Nat) (L:LI) (nP:Nat) (P:LI) (sp:Int) (again:St→CU) (k:Out→St→CU):D9 (QM N) (CR QX [1,1,1,1,0,0,0]) (JL m q Vd.none n L nP P sp) (D4 again bB k) =
 cond (decide (ic (n - 0) > 0)) (cond (decide (sp≥q.bu)) (k .ret (JL m q ⟨3,[],0,0,0,0,0,sp⟩ n L nP P sp))
 (cond (decide (0≤J4 n)&&decide (J4 n < ic (n - 0))) (cond (decide (0≤J4 n)&&decide (J4 n≤ic (n - 0)))
 (cond (FI m q (GT L n)) (cond (decide ((nP+1)*24≤DJ)) (again (JL m q Vd.none (0+AD (J4 n)) L (nP+1) (AU nP P++[J1 true 0 0]) (CZ (sp+1)))) none)
 (cond (F9 m q (GT L n).low (GT L n).s4.hi) (k .ret (JL m q ⟨2,[],(GT L n).s0.lo,(GT L n).s1.lo,(GT L n).s2.lo,(GT L n).s3.lo,(GT L n).s4.hi,CZ (sp+1)⟩ (0+AD (J4 n)) L nP P (CZ (sp+1))))
 (cond (DX m) (cond (!(DF m q (GT L n)).isSome) (k .ret (JL m q ⟨3,[],0,0,0,0,0,CZ (sp+1)⟩ (0+AD (J4 n)) L nP P (CZ (sp+1))))
 (cond (decide ((nP+1)*24≤DJ)) (cond (E3 (E1 (DF m q (GT L n)))&&DL (FG (DF m q (GT L n)))) (cond (decide ((0+AD (J4 n)+2)*80≤DJ))
 (again (JL m q Vd.none (0+AD (J4 n)+2) (AU (0+AD (J4 n)) L++[((GT L n).cutH (E1 (DF m q (GT L n))) (FG (DF m q (GT L n)))).I,((GT L n).cutL (E1 (DF m q (GT L n))) (FG (DF m q (GT L n)))).I])
 (nP+1) (AU nP P++[J1 false (E1 (DF m q (GT L n))) (FG (DF m q (GT L n)))]) (CZ (sp+1)))) none) none) none)) none))) none) none))
 (k (.exit 0) (JL m q Vd.none n L nP P sp)):=by kernel_rfl
theorem xC (N:Nat) (m:Md) (q:Qy) (v:Vd) (n:Nat) (L:LI) (nP:Nat) (P:LI) (sp:Int):XA N (.exit 0) (JL m q v n L nP P sp)=some (Vd.V ⟨1,B5 0 (AU nP P),0,0,0,0,0,sp⟩,[]):=by kernel_rfl
theorem aF (N:Nat) (m:Md) (q:Qy) (v:Vd) (n:Nat) (L:LI) (nP:Nat) (P:LI) (sp:Int):XA N .ret (JL m q v n L nP P sp)=some (Vd.V ⟨v.kind,[],v.w0,v.w1,v.w2,v.w3,v.twin,v.spent⟩,[]):=by kernel_rfl
open Go Go.Proofs
set_option maxRecDepth 100000
def OS (N:Nat):Env:=DB [(43,MJ),(48,OW),(67,OY),(70,JP)] [(7,⟨[4,5,6,21,22,23],[17,500],[⟨.tmp 6,500,131,true,FT⟩]⟩)] 105 N
abbrev XC:KP:=⟨[4,5,6,21,22,23],[17,500],[⟨.tmp 6,500,131,true,FT⟩]⟩
abbrev MB (n5 n6:Nat) (l:LI) (e i:Int) (own out:LI):St:=⟨[(4,.zs),(5,.row 17 0 n5),(6,.row 500 0 n6),(21,.list false [.int .u64] l),(22,.i e),(23,.i i)],[(17,some (.row true 31 true D1 own)),(500,some (.row true 131 true FT out))]⟩
noncomputable abbrev W8 (N:Nat):Out→St→CU:=CY 0 (C0 (OS N) (CR PF [1,1,1,1,1,1]) (C1 (OS N) none [.tmp 4] [[.list true FT]]))
theorem Dc (N:Nat) (l:LI) (b:Bx):C6 (OS N) PF [.tmp 4] [[.list true FT]] [.list false [.int .u64] l,b.V] =
 cond (!F7 l 4) (some (.list true FT [],[])) (cond (true&&(true&&decide (0≤ic l.length))&&(decide (ic l.length=ic l.length)&&decide (ic l.length*ic 80≤ic DJ)))
 (cond (decide ((0:Int)≤0)&&decide (0 < ic (AD (ic l.length) - 0)))
 (C4 (OS N) (CR PF [1,1,1,1,1,0,1,0,0]) XC N (MB (AD (ic l.length)) 0 l (ic l.length) 0 (vaH (vad (AD (ic l.length)) NI.I) 0 b.I) []) (W8 N)) none) none):=by kernel_rfl
def n3 (n:Nd) (i:Nat) (own:LI):LI:=(own.set (0+n.l.toNat) (C8 (own.getD (0+i) default)).I).set (0+n.r.toNat) (C8 (own.getD (0+i) default)).I
def n2 (n:Nd) (s:Sp) (own:LI) (k:Nat):LI:=own.set (0+n.l.toNat) (HO true D1 (own.getD (0+n.l.toNat) default) (2*k) [.int (s.meet ⟨s.lo,n.a⟩).lo,.int (s.meet ⟨s.lo,n.a⟩).hi])
def n4 (n:Nd) (s:Sp) (own:LI) (k:Nat):LI:=own.set (0+n.r.toNat) (HO true D1 (own.getD (0+n.r.toNat) default) (2*k) [.int (s.meet ⟨CZ (n.a+1),s.hi⟩).lo,.int (s.meet ⟨CZ (n.a+1),s.hi⟩).hi])
def GA (x:Int) (n:Nat):Bool:=decide (0≤x)&&decide (x < ic (n - 0))
def dD (n:Nd) (n5:Nat) (i:Int) (own:LI) (K:LI→CU):CU:=
 LK n.f fun a=>cond (GA i n5) (cond (GA i n5) (cond (GA n.l n5) (cond (GA n.r n5) (cond (GA n.l n5) (LK n.f fun b=>cond (GA n.r n5) (LK n.f fun c=>
  K (n4 n ((C8 (own.getD (0+i.toNat) default)).g a) (n2 n ((C8 (own.getD (0+i.toNat) default)).g a) (n3 n i.toNat own) b) c)) none) none) none) none) none) none
theorem qL (N n5 n6:Nat) (l:LI) (e i:Int) (own out:LI) (again:St→CU) (k:Out→St→CU):D9 (OS N) (CR PF [1,1,1,1,1,0,1,0,0]) (MB n5 n6 l e i own out) (D4 again XC k) =
 cond (decide (i < e)) (cond (decide (0≤i)&&decide (i < ic l.length)) (cond (CQ (IV.toInt (AG l (AD i) default))).lf
 (cond (GA i n5) (cond (!(C8 (own.getD (0+i.toNat) default)).emp) (cond (GA i n5) (cond (decide ((n6+1)*88≤DJ))
 (again (MB n5 (n6+1) l e (CZ (i+1)) own (AU n6 out++[RQ (C8 (own.getD (0+i.toNat) default)) (CQ (IV.toInt (AG l (AD i) default))).v]))) none) none) (again (MB n5 n6 l e (CZ (i+1)) own out))) none)
 (cond (GA i n5) (dD (CQ (IV.toInt (AG l (AD i) default))) n5 i own fun o=>again (MB n5 n6 l e (CZ (i+1)) o out)) none)) none) (k (.exit 0) (MB n5 n6 l e i own out)):=by kernel_rfl
theorem w9 (N n5 n6:Nat) (l:LI) (e i:Int) (own out:LI):W8 N (.exit 0) (MB n5 n6 l e i own out)=some (.list true FT (B5 0 (AU n6 out)),[]):=by kernel_rfl
open Go Go.Proofs
set_option maxRecDepth 100000
theorem WV {j:Nat} (hj:j < 5) (g:Nat→CU):LK (j:Int) g=g j:=by
 obtain rfl | rfl | rfl | rfl | rfl:j=0∨j=1∨j=2∨j=3∨j=4:=by omega
 all_goals rfl
theorem kF {k:Int} (h0:0≤k) (h5:k < 5) (g:Nat→CU):LK k g=g k.toNat:=by
 obtain ⟨j,rfl⟩:=Int.eq_ofNat_of_zero_le h0;rw [WV (by omega)];rfl
theorem l5 (s:Sp) (a:Int):s.meet ⟨s.lo,a⟩=s.cutL a:=by
 unfold Sp.meet Sp.cutL;rw [Int.max_self]
theorem l4 {a:Int} (ha:DL a=true) (s:Sp):s.meet ⟨CZ (a+1),s.hi⟩=s.cutH a:=by
 have h:=IU ha;have e:CZ (a+1)=a+1:=DV (by omega) (by omega);unfold Sp.meet Sp.cutH;rw [Int.min_self,e];by_cases hd:a≥s.hi
 ·rw [AE hd,CP];unfold L1;rw [AE (show max s.lo (a+1) > s.hi by omega),CP]
 ·rw [AM hd,CS]
theorem nK (X:Bx) (lo hi:Int) {j:Nat} (hj:j < 5):HO true D1 X.I (2*j) [.int lo,.int hi]=(X.p ⟨lo,hi⟩ j).I:=by
 obtain rfl | rfl | rfl | rfl | rfl:j=0∨j=1∨j=2∨j=3∨j=4:=by omega
 all_goals rfl
theorem Ij {n:Nd} {own:LI} {i:Nat} (hi:i < own.length) (hl:n.lf=false) (hf:0≤n.f∧n.f < 4) (ha:DL n.a=true) (h1:0≤n.l∧n.l < ic own.length) (h2:0≤n.r∧n.r < ic own.length) (hne:n.l≠n.r) (K:LI→CU) :
  dD n own.length (i:Int) own K=K (JW n i own):=by
 obtain ⟨lf,v,f,a,l,r⟩:=n;replace hl:lf=false:=hl;subst hl;replace hf:0≤f∧f < 4:=hf;replace ha:DL a=true:=ha;replace h1:0≤l∧l < ic own.length:=h1;replace h2:0≤r∧r < ic own.length:=h2;replace hne:l≠r:=hne;obtain ⟨j,rfl⟩:=Int.eq_ofNat_of_zero_le hf.1;obtain ⟨x,rfl⟩:=Int.eq_ofNat_of_zero_le h1.1;obtain ⟨y,rfl⟩:=Int.eq_ofNat_of_zero_le h2.1;have hj:j < 5:=by omega
 have hx:x < own.length:=by have:=h1.2; simp only [ic] at this; omega
 have hy:y < own.length:=by have:=h2.2; simp only [ic] at this; omega
 have hxy:x≠y:=fun e=>hne (by rw [e])
 have g0:GA (i:Int) own.length=true:=by unfold GA; rw [AE (by omega),AE (by simp only [ic]; omega)]; rfl
 have g1:GA (x:Int) own.length=true:=by unfold GA; rw [AE (by omega),AE (by simp only [ic]; omega)]; rfl
 have g2:GA (y:Int) own.length=true:=by unfold GA; rw [AE (by omega),AE (by simp only [ic]; omega)]; rfl
 unfold dD;show LK (j:Int) (fun a_1=>cond (GA (i:Int) own.length) (cond (GA (i:Int) own.length) (cond (GA (x:Int) own.length) (cond (GA (y:Int) own.length) (cond (GA (x:Int) own.length) (LK (j:Int) fun b=>cond (GA (y:Int) own.length) (LK (j:Int) fun c=>K _) none) none) none) none) none) none)=_;rw [WV hj,g0,CP,CP,g1,CP,g2,CP,CP,WV hj,CP,WV hj];refine congrArg K ?_;unfold n4 n2 n3 JW;show (vaH (vaH (vaH (vaH own (0+(x:Int).toNat) _) (0+(y:Int).toNat) _) (0+(x:Int).toNat) (HO true D1 (AG (vaH (vaH own (0+(x:Int).toNat) _) (0+(y:Int).toNat) _) (0+(x:Int).toNat) default) _ _)) (0+(y:Int).toNat) (HO true D1 (AG (vaH (vaH (vaH own (0+(x:Int).toNat) _) (0+(y:Int).toNat) _) (0+(x:Int).toNat) _) (0+(y:Int).toNat) default) _ _))=(own.set (x:Int).toNat _).set (y:Int).toNat _;simp only [A0,BL];generalize C8 (own.getD i default)=X;have e1:AG ((own.set x X.I).set y X.I) x default=X.I:=by
  rw [BG,vaP (Ne.symm hxy),va4 hx];rfl
 rw [e1,nK X _ _ hj];have e2:∀ A:IV,AG (((own.set x X.I).set y X.I).set x A) y default=X.I:=fun A=>by
  rw [BG,vaP hxy,va4 (by rw [vas]; exact hy)];rfl
 rw [e2,nK X _ _ hj];have e3:∀ A B:IV,((((own.set x X.I).set y X.I).set x A).set y B)=(own.set x A).set y B:=fun A B=>by
  rw [List.set_comm _ _ (Ne.symm hxy),List.set_set,List.set_set]
 rw [e3];have eL:X.cutL (j:Int) a=X.p ⟨((X.g j).meet ⟨(X.g j).lo,a⟩).lo,((X.g j).meet ⟨(X.g j).lo,a⟩).hi⟩ j:=by
  unfold Bx.cutL;rw [BL,← l5]
 have eH:X.cutH (j:Int) a=X.p ⟨((X.g j).meet ⟨CZ (a+1),(X.g j).hi⟩).lo,((X.g j).meet ⟨CZ (a+1),(X.g j).hi⟩).hi⟩ j:=by
  unfold Bx.cutH;rw [BL,← l4 ha]
 rw [eL,eH]
theorem YB (N:Nat) (l:LI) (ht:F7 l 4=true):∀ (m i n:Nat) (own out:LI),i+m=l.length→m < n→own.length=l.length→out.length≤i →
  C4 (OS N) (CR PF [1,1,1,1,1,0,1,0,0]) XC n (MB l.length out.length l (ic l.length) (i:Int) own out) (W8 N)=some (.list true FT (HM (l.drop i) i own out),[])
 | m,i,0,_,_,_,h,_,_=>absurd h (by omega)
 | 0,i,n+1,own,out,hd,_,_,_=>by
  have hi:i=l.length:=by omega
  subst hi;rw [DD,qL,JB (AP _),CS,w9,CE,HM,CC,A9]
 | m+1,i,n+1,own,out,hd,hn,ho,hu=>by
  obtain ⟨⟨l1,l31⟩,hat,_⟩:=R8 ht;have hi:i < l.length:=by omega
  have ei:CZ ((i:Int)+1)=((i+1:Nat):Int):=FN (by omega);obtain ⟨hb,hf⟩:=hat i hi;have g0:GA (i:Int) l.length=true:=by unfold GA; rw [AE (by omega),AE (by simp only [ic]; omega)]; rfl
  rw [DD,qL,ei,IB hi,CP,IA,BE,CP,IW hi,g0,BL,BC hi,HM];cases hl:(CQ (l[i]).toInt).lf with
  | true=>
   rw [CP,CP,BH,A0];have e1:JW (CQ (l[i]).toInt) i own=own:=by unfold JW; rw [hl,CP]
   rw [e1];cases (C8 (own.getD i default)).emp with
   | true=>exact YB N l ht m (i+1) n own out (by omega) (by omega) ho (by omega)
   | false=>
    have ih:=YB N l ht m (i+1) n own (out++[RQ (C8 (own.getD i default)) (CQ (l[i]).toInt).v]) (by omega) (by omega) ho (by rw [AQ]; simp; omega);rw [AQ,CK] at ih;rw [BJ,CP,CP,AE (show (out.length+1)*88≤DJ by unfold DJ; omega),CP,A9];exact ih
  | false=>
   obtain ⟨f4,hne,_,⟨ln,rn⟩⟩:=kH hf hl;obtain ⟨⟨f0,_⟩,⟨a1,_⟩,⟨b1,_⟩,ha⟩:=PZ hb hl;have ih:=YB N l ht m (i+1) n (JW (CQ (l[i]).toInt) i own) out (by omega) (by omega) (by unfold JW; rw [hl,CS,vas,vas]; exact ho) (by omega);rw [CS,CP,BY,CS];have key:=Ij (n:=CQ (l[i]).toInt) (own:=own) (i:=i) (by omega) hl ⟨f0,f4⟩ ha ⟨by omega,by rw [ho]; exact ln⟩ ⟨by omega,by rw [ho]; exact rn⟩ hne (fun o=>C4 (OS N) (CR PF [1,1,1,1,1,0,1,0,0]) XC n (MB l.length out.length l (ic l.length) ((i+1:Nat):Int) o out) (W8 N));rw [ho] at key;exact key.trans ih
theorem Kg:C5 PR B0 87 SZ:=by
 refine DC [(43,MJ),(48,OW),(67,OY),(70,JP)] [(7,⟨[4,5,6,21,22,23],[17,500],[⟨.tmp 6,500,131,true,FT⟩]⟩)] SZ [[.list true [.z,.z,.z,.z,.z,.z,.z,.z,.z,.z,.z]]] Tryz.func87 yY ⟨dS,o0,o5,VT,trivial⟩ ?_;intro vs r hwf h;unfold SZ at h;split at h
 ·rename_i l b;replace h:=FU h;obtain ⟨b,rfl,h⟩:=h;cases hg:(!b.emp) with
  | false=>rw [hg] at h; simp [R.get] at h
  | true=>
  rw [hg,R.get_br,CP,R.get_ok] at h;refine ⟨40,(Dc 40 l b).trans ?_⟩;rw [← h];unfold EV;cases ht:F7 l 4 with
  | false=>rfl
  | true=>
   obtain ⟨⟨l1,l31⟩,_,_⟩:=R8 ht;have run:=YB 40 l ht l.length 0 40 ((vad l.length NI.I).set 0 b.I) [] (by omega) (by omega) (by simp) (B3 _);have g1:(true&&(true&&decide (0≤ic l.length))&&(decide (ic l.length=ic l.length)&&decide (ic l.length*ic 80≤ic DJ)))=true:=by
    rw [AE (show (0:Int)≤ic l.length by simp only [ic]; omega),AE (show ic l.length=ic l.length from rfl),AE (show ic l.length*ic 80≤ic DJ by unfold DJ; simp only [ic]; omega)];rfl
   have g2:(decide ((0:Int)≤0)&&decide (0 < ic (AD (ic l.length) - 0)))=true:=by
    rw [AE (show (0:Int)≤0 from Int.le_refl 0),AE (show (0:Int) < ic (AD (ic l.length) - 0) by simp only [ic]; omega)];rfl
   rw [A5,CS,hg,g1,CP,g2,CP];exact run
 ·simp [R.get] at h
theorem nM (N:Nat) (l:LI) (hl:l.length≤31):∀ (m i n:Nat) (lo hi:Int),i+m=l.length→m < n →
  C4 (QL N) (CR QW [1,1,1,1,0,1,0,0]) a8 n (QK lo hi l (ic l.length) (i:Int)) (aU N)=some (.tup [.int .i64 (LR (l.drop i) lo),.int .i64 (LQ (l.drop i) hi),.bool true],[])
 | m,i,0,_,_,_,h=>absurd h (by omega)
 | 0,i,n+1,lo,hi,hd,_=>by
  have hi:i=l.length:=by omega
  subst hi;rw [DD,qF,JB (AP _),CS,CE,wU];rfl
 | m+1,i,n+1,lo,hi,hd,hn=>by
  have hi:i < l.length:=by omega
  have ep:RP l (i:Int)=E4 l[i]:=by unfold RP; rw [IW hi]
  rw [DD,qF,show CZ ((i:Int)+1)=((i+1:Nat):Int) from FN (by omega),IB hi,CP,IA,BE,CP,ep,BC hi,LR,LQ];exact nM N l hl m (i+1) n _ _ (by omega) (by omega)
theorem Kb:C5 PR B0 68 SV:=by
 refine DC [(87,SZ)] [(6,⟨[4,5,6,8,9,26,27,28],[],[]⟩)] SV [[.z],[.z],[.bool]] Tryz.func68 yU ⟨Kg,trivial⟩ ?_;intro vs r hwf h;unfold SV at h;split at h
 ·rename_i l b;replace h:=FU h;obtain ⟨b,rfl,h⟩:=h;cases hg:(!b.emp) with
  | false=>rw [hg] at h; simp [R.get] at h
  | true=>
  rw [hg,R.get_br,CP,R.get_ok] at h;refine ⟨40,(Cy 40 l b).trans ?_⟩;rw [← h,hg,CP];have h31:=lL l b;unfold GS GR L3 RS RR;generalize EV l b=ps at h31 ⊢;cases ps with
  | nil=>rfl
  | cons x r=>
   have run:=nM 40 (x :: r) h31 (x :: r).length 0 40 (E4 x) (E4 x) (by omega) (by omega);have e0:(ic (x :: r).length==0)=false:=by
    simp only [ic,AT,CG];omega
   have e1:(decide ((0:Int)≤0)&&decide (0 < ic (x :: r).length))=true:=by
    rw [AE (show (0:Int)≤0 from Int.le_refl 0),AE (show 0 < ic (x :: r).length by simp only [ic,AT]; omega)];rfl
   rw [e0,CS,e1,CP,CP];exact run
 ·simp [R.get] at h
theorem dH (N:Nat) (ts:LI) (b:Bx) (hb:b.emp=false) (k:Int) (hts:ts.length≤8):∀ (m i n:Nat) (lo hi:Int),i+m=ts.length→m < n→(-2147483648*(i+1)≤lo∧lo≤2147483648*(i+1))→(-2147483648*(i+1)≤hi∧hi≤2147483648*(i+1)) →
  C4 (QO N) (CR QZ [1,1,1,0,1,0,0]) bC n (ON b k lo hi ts (ic ts.length) (i:Int)) (aV N) =
   some (.tup [.int .i64 (I2 (fun l=>GS l b) k (ts.drop i) lo),.int .i64 (I2 (fun l=>GR l b) k (ts.drop i) hi),.bool true],[])
 | m,i,0,_,_,_,h,_,_=>absurd h (by omega)
 | 0,i,n+1,lo,hi,hd,_,_,_=>by
  have hlt:i=ts.length:=by omega
  subst hlt;rw [DD,qO,JB (AP _),CS,CE,xF];rfl
 | m+1,i,n+1,lo,hi,hd,hn,h1,h2=>by
  have hlt:i < ts.length:=by omega
  rw [DD,qO,show CZ ((i:Int)+1)=((i+1:Nat):Int) from FN (by omega),IB hlt,CP,IA,BE,CP,IW hlt,BC hlt,I2,I2,hb];obtain ⟨q1,q2⟩:=YR (D2 ts[i]) b;have q1:=IU q1;have q2:=IU q2;cases (OC ts[i]==k) with
  | true=>
   rw [CP,BJ,CP,CP,CP];have ew:CZ (lo+GS (D2 ts[i]) b)=lo+GS (D2 ts[i]) b:=DV (by omega) (by omega);have ew2:CZ (hi+GR (D2 ts[i]) b)=hi+GR (D2 ts[i]) b:=DV (by omega) (by omega);rw [ew,ew2];exact dH N ts b hb k hts m (i+1) n (lo+GS (D2 ts[i]) b) (hi+GR (D2 ts[i]) b) (by omega) (by omega) (by omega) (by omega)
  | false=>
   rw [CS,CS,CS];exact dH N ts b hb k hts m (i+1) n lo hi (by omega) (by omega) (by omega) (by omega)
theorem Km:C5 PR B0 44 S5:=by
 refine DC [(68,SV),(43,MJ),(41,MM)] [(5,⟨[1,5,6,7,8,9,10,42,43,44],[5],[]⟩)] S5 [[.z],[.z],[.bool]] Tryz.func44 y6 ⟨Kb,dS,dV,trivial⟩ ?_;intro vs r hwf h;unfold S5 at h;split at h
 ·rename_i m k b;replace h:=F8 h;obtain ⟨m,rfl,h⟩:=h;replace h:=FU h;obtain ⟨b,rfl,h⟩:=h;rw [R.get_ok] at h;refine ⟨10,(Di 10 m k b).trans ?_⟩;rw [← h];unfold EX D6 E9;cases hm:DX m with
  | false=>rfl
  | true=>
   rw [A5,CS];cases h0:decide (k < 0) with
   | true=>
    have:FA m k=false:=by unfold FA; rw [AM (show ¬ 0≤k by have:=A4 h0; omega)]; rfl
    rw [this];rfl
   | false=>
    rw [CS];cases h1:decide (k≥m.c) with
    | true=>
     have:FA m k=false:=by unfold FA; rw [AM (show ¬ k < m.c by have:=A4 h1; omega),vax]
     rw [this];rfl
    | false=>
     have hc:FA m k=true:=by unfold FA; rw [AE (show 0≤k by have:=A8 h0; omega),AE (show k < m.c by have:=A8 h1; omega)]; rfl
     rw [CS,hc];cases hb:b.emp with
     | true=>rfl
     | false=>
      have hbi:=UF hm k;have run:=dH 10 m.ts b hb k (G2 hm).2.2.1 m.ts.length 0 10 (H5 m k) (H5 m k) (by omega) (by have:=(G2 hm).2.2.1; omega) (by omega) (by omega);rw [CS];rcases WK hm hc with rfl | rfl | rfl <;> exact run
 ·simp [R.get] at h
theorem Kj:C5 PR B0 45 S2:=by
 refine DC [] [] S2 [[.z,.z,.z,.z,.z,.z,.z,.z,.z,.z]] Tryz.func45 y3 trivial ?_;intro vs r hwf h;unfold S2 at h;split at h
 ·rename_i q b;replace h:=FV h;obtain ⟨q,rfl,h⟩:=h;replace h:=FU h;obtain ⟨b,rfl,h⟩:=h;rw [R.get_ok] at h;refine ⟨0,(Df 0 q b).trans ?_⟩;rw [← h];unfold LZ;cases hp:EL q with
  | true=>
   have hp':=hp;unfold EL at hp';simp only [AI] at hp';obtain ⟨h1,h2,h3⟩:=hp';rw [h1,h2,h3,CP,CP,CP,CP,kF (A4 h2) (by have:=A4 h3; omega)]
  | false=>
   cases h1:(q.k==3) <;> cases h2:decide (q.ft≥0) <;> cases h3:decide (q.ft < 4) <;> first | rfl | (unfold EL at hp; rw [h1,h2,h3] at hp; cases hp)
 ·simp [R.get] at h
def UB (m:Md) (q:Qy) (b:Bx) (own:Int):Nat→Nat→Bool
 | 0,_=>true
 | d+1,i=>(((i:Int)==q.c)||!(decide (D6 m (i:Int) b≥own)))&&UB m q b own d (i+1)
theorem fE (m:Md) (q:Qy) (b:Bx) (own:Int):∀ d i,UB m q b own d i=(va1 i d).all fun c=>((c:Int)==q.c)||!(decide (D6 m (c:Int) b≥own))
 | 0,_=>rfl
 | d+1,i=>by rw [UB,fE m q b own d (i+1),List.range'_succ,List.all_cons]
theorem nO (N:Nat) (m:Md) (q:Qy) (b:Bx) (own:Int) (hc:0≤m.c∧m.c≤3):∀ (d i n:Nat),((i+d:Nat):Int)=m.c→d < n →
  C4 (OR N) (CR PE [1,1,1,1,0,1,0,1,1,1,0,0,1,0,0]) a9 n (L9 m q b own m.c (i:Int)) (W7 N)=JZ (UB m q b own d i)
 | d,i,0,_,h=>absurd h (by omega)
 | 0,i,n+1,hd,_=>by
  rw [DD,qG,AM (show ¬ (i:Int) < m.c by omega),CS,wV];rfl
 | d+1,i,n+1,hd,hn=>by
  have ih:=nO N m q b own hc d (i+1) n (by omega) (by omega);rw [DD,qG,show CZ ((i:Int)+1)=((i+1:Nat):Int) from FN (by omega),AE (show (i:Int) < m.c by omega),CP,UB];have en:((i:Int) != q.c)=!((i:Int)==q.c):=rfl;rw [en];cases ((i:Int)==q.c) with
  | true=>
   rw [A5,CS,Bool.true_or,BH];exact ih
  | false=>
   rw [BJ,CP,Bool.false_or];cases decide (D6 m (i:Int) b≥own) with
   | true=>
    rw [CP,wW];rfl
   | false=>
    rw [CS,BJ,BH];exact ih
theorem Ke:C5 PR B0 23 SX:=by
 refine DC [(21,MI),(45,S2),(44,S5),(43,MJ)] [(11,⟨[3,4,5,6,7,49,50],[3,4,5],[]⟩)] SX [[.bool]] Tryz.func23 yW ⟨dR,Kj,Km,dS,trivial⟩ ?_;intro vs r hwf h;unfold SX at h;split at h
 ·rename_i m q b;replace h:=F8 h;obtain ⟨m,rfl,h⟩:=h;replace h:=FV h;obtain ⟨q,rfl,h⟩:=h;replace h:=FU h;obtain ⟨b,rfl,h⟩:=h;rw [R.get_ok] at h;refine ⟨10,(Da 10 m q b).trans ?_⟩;rw [← h];cases hr:EI m q with
  | false=>
   unfold FI;rw [hr];rfl
  | true=>
   cases hb:b.emp with
   | true=>
    unfold FI;rw [hr,hb];rfl
   | false=>
    obtain ⟨hm,_,_,_,hk⟩:=KL hr;have hmp:=G2 hm;rw [u7 hr hb];unfold ZW;rw [A5,CS,CS];cases h1:(q.k==1) with
    | true=>
     rw [CP,CP];cases decide (EX m q.c b≥q.lo) <;> rfl
    | false=>
     rw [CS,CS];cases h2:(q.k==2) with
     | true=>
      rw [CP,CP];refine (nO 10 m q b _ (by omega) m.c.toNat 0 10 (by omega) (by omega)).trans ?_;rw [fE,← List.range_eq_range'];rfl
     | false=>
      rw [CS,CS];rcases aZ hk with ⟨e,_⟩ | ⟨e,_⟩ | ⟨ek,⟨f0,fd⟩,_⟩
      ·rw [e] at h1; cases h1
      ·rw [e] at h2; cases h2
      ·rw [kF f0 (by omega)];cases decide ((b.g q.ft.toNat).lo≥b.s4.hi) with
       | true=>rfl
       | false=>
        cases q.fl with
        | true=>cases decide (D6 m q.c (LZ q b)≤EX m q.c b) <;> rfl
        | false=>rfl
 ·simp [R.get] at h
theorem oD (N:Nat) (m:Md) (hm:DX m=true) (q:Qy) (b:Bx):∀ (d i n:Nat),i+d=5→d < n →
  C4 (QN N) (CR QY [1,0,1,0,0]) bA n (ND m q b 0 0 false (i:Int)) (W9 N) =
   some (.tup [.int .i64 (E1 (HD m q b d i)),.int .i64 (FG (HD m q b d i)),.bool (HD m q b d i).isSome],[])
 | d,i,0,_,h=>absurd h (by omega)
 | 0,i,n+1,hd,_=>by
  have hi:i=5:=by omega
  subst hi;rw [DD,qN,AM (show ¬ ((5:Nat):Int) < 5 by omega),CS,xD];rfl
 | d+1,i,n+1,hd,hn=>by
  have hc:=jL hm q b i;rw [DD,qN,show CZ ((i:Int)+1)=((i+1:Nat):Int) from FN (by omega),AE (show (i:Int) < 5 by omega),CP,hm,kP (by omega),BE,CP,BL,HD,H9];generalize EB m q b i=cs at hc ⊢;have ed:decide (ic cs.length > 0)=decide (cs.length > 0):=by rw [vaW]; simp
  rw [ed];cases hpos:decide (cs.length > 0) with
  | true=>
   have hpos:=A4 hpos;have ew:VC cs.length=(((cs.length - 1) / 2:Nat):Int):=by
    unfold VC;have e1:CZ (ic cs.length - 1)=((cs.length - 1:Nat):Int):=by rw [show CZ (ic cs.length - 1)=ic cs.length - 1 from DV (by simp only [ic]; omega) (by simp only [ic]; omega)]; simp only [ic]; omega
    have e2:Int.tdiv ((cs.length - 1:Nat):Int) 2=(((cs.length - 1) / 2:Nat):Int):=by
     rw [Int.tdiv_eq_ediv_of_nonneg (by omega)];omega
    rw [e1,e2];exact DV (by omega) (by omega)
   have hlt:(cs.length - 1) / 2 < cs.length:=by omega
   rw [CP,ew,IA,AE (show (((cs.length - 1) / 2:Nat):Int) < ic cs.length by simp only [ic]; omega),BE,CP,CP,BL];have eg:IV.toInt (AG (iZ cs) ((cs.length - 1) / 2) default)=cs.getD ((cs.length - 1) / 2) 0:=by
    unfold iZ;rw [BG,BG,BZ,AV hlt];rfl
   rw [eg,xE];rfl
  | false=>
   rw [CS,CS];exact oD N m hm q b d (i+1) n (by omega) (by omega)
theorem Kk:C5 PR B0 26 S3:=by
 refine DC [(47,SY)] [(2,⟨[3,4,5,6,7,8,11],[3,4,5],[]⟩)] S3 [[.z],[.z],[.bool]] Tryz.func26 y4 ⟨Kf,trivial⟩ ?_;intro vs r hwf h;unfold S3 at h;split at h
 ·rename_i m q b;replace h:=F8 h;obtain ⟨m,rfl,h⟩:=h;replace h:=FV h;obtain ⟨q,rfl,h⟩:=h;replace h:=FU h;obtain ⟨b,rfl,h⟩:=h;cases hg:(DX m) with
  | false=>rw [hg] at h; simp [R.get] at h
  | true=>
  rw [hg,R.get_br,CP,R.get_ok] at h;refine ⟨10,?_⟩;rw [← h];exact (Dg 10 m q b).trans (oD 10 m hg q b 5 0 10 rfl (by omega))
 ·simp [R.get] at h
theorem Kn:C5 PR B0 27 S6:=by
 refine DC [(48,OW)] [] S6 [[.z,.z,.z,.z,.z,.z,.z,.z,.z,.z],[.z,.z,.z,.z,.z,.z,.z,.z,.z,.z]] Tryz.func27 y7 ⟨o0,trivial⟩ ?_;intro vs r hwf h;unfold S6 at h;split at h
 ·rename_i b i a;replace h:=FU h;obtain ⟨b,rfl,h⟩:=h;cases hg:(E3 i&&DL a) with
  | false=>rw [hg] at h; simp [R.get] at h
  | true=>
  rw [hg,R.get_br,CP,R.get_ok] at h;rw [AI] at hg;obtain ⟨j,hj,rfl⟩:∃ j:Nat,j < 5∧i=(j:Int):=by
   have hpl:=hg.1;unfold E3 at hpl;simp only [AI,AO] at hpl;exact ⟨i.toNat,by omega,by omega⟩
  refine ⟨0,(Dj 0 b hj a).trans ?_⟩;rw [← h,l5,l4 hg.2];rfl
 ·simp [R.get] at h
open Go Go.Proofs
def tI (N:Nat):Env:=DB [(29,MN),(16,TW)] [] 26 N
theorem Fa (N:Nat) (m:Md) (q:Qy):C6 (tI N) iR [.tmp 4] [[.list false []]] [(Md.V m),(Qy.V q)]=(cond (!EI m q) (some ((.bor (EE m q [.zs,.zs,.i 4,.zs,.i 0,.i 0,.i 0,.i 0,.i 0,.i 0,.i 0])),[])) (some ((.bor (EE m q [.vec 31 true D1 [(Bx.I (II q))],.zs,.i 0,.zs,.i 0,.i 0,.i 0,.i 0,.i 0,.i 0,.i 0])),[]))):=by kernel_rfl
def V3 (N:Nat):Env:=DB [(30,V7)] [] 22 N
theorem Fe (N:Nat) (m:Md) (q:Qy) (left u00:LI) (k w0 w1 w2 w3 tw vs sp:Int):C6 (V3 N) UI [.cell 2 45] [[.z,.list true [.bool,.z,.z],.z,.z,.z,.z,.z,.z]] [.bor (EE m q [.vec 31 true D1 left,.vec 71 true DP u00,.i k,.zs,.i w0,.i w1,.i w2,.i w3,.i tw,.i vs,.i sp])]=(cond (k==0) (some ((.agg [.i 3,.list true DP [],.i w0,.i w1,.i w2,.i w3,.i tw,.i sp]),[(EE m q [.vec 31 true D1 (AU (AF left) left),.vec 71 true DP (AU (AF u00) u00),.i k,.zs,.i w0,.i w1,.i w2,.i w3,.i tw,.i vs,.i sp])])) (some ((.agg [.i k,.list true DP [],.i w0,.i w1,.i w2,.i w3,.i tw,.i sp]),[(EE m q [.vec 31 true D1 (AU (AF left) left),.vec 71 true DP (AU (AF u00) u00),.i k,.zs,.i w0,.i w1,.i w2,.i w3,.i tw,.i vs,.i sp])]))):=by kernel_rfl
theorem Ff (N:Nat) (m:Md) (q:Qy) (left:LI) (k w0 w1 w2 w3 tw vs sp:Int):C6 (V3 N) UI [.cell 2 45] [[.z,.list true [.bool,.z,.z],.z,.z,.z,.z,.z,.z]] [.bor (EE m q [.vec 31 true D1 left,.zs,.i k,.zs,.i w0,.i w1,.i w2,.i w3,.i tw,.i vs,.i sp])]=(cond (k==0) (some ((.agg [.i 3,.list true DP [],.i w0,.i w1,.i w2,.i w3,.i tw,.i sp]),[(EE m q [.vec 31 true D1 (AU (AF left) left),.zs,.i k,.zs,.i w0,.i w1,.i w2,.i w3,.i tw,.i vs,.i sp])])) (some ((.agg [.i k,.list true DP [],.i w0,.i w1,.i w2,.i w3,.i tw,.i sp]),[(EE m q [.vec 31 true D1 (AU (AF left) left),.zs,.i k,.zs,.i w0,.i w1,.i w2,.i w3,.i tw,.i vs,.i sp])]))):=by kernel_rfl
theorem Fg (N:Nat) (m:Md) (q:Qy) (left u00 vp:LI) (k w0 w1 w2 w3 tw vs sp:Int):C6 (V3 N) UI [.cell 2 45] [[.z,.list true [.bool,.z,.z],.z,.z,.z,.z,.z,.z]] [.bor (EE m q [.vec 31 true D1 left,.list true DP u00,.i k,.list true DP vp,.i w0,.i w1,.i w2,.i w3,.i tw,.i vs,.i sp])]=(cond (k==0) (cond (BI (AF vp) 100000) (some ((.agg [.i 3,.list true DP (B5 0 (AU (AF vp) vp)),.i w0,.i w1,.i w2,.i w3,.i tw,.i sp]),[(EE m q [.vec 31 true D1 (AU (AF left) left),.list true DP u00,.i k,.list true DP vp,.i w0,.i w1,.i w2,.i w3,.i tw,.i vs,.i sp])])) none) (cond (BI (AF vp) 100000) (some ((.agg [.i k,.list true DP (B5 0 (AU (AF vp) vp)),.i w0,.i w1,.i w2,.i w3,.i tw,.i sp]),[(EE m q [.vec 31 true D1 (AU (AF left) left),.list true DP u00,.i k,.list true DP vp,.i w0,.i w1,.i w2,.i w3,.i tw,.i vs,.i sp])])) none)):=by kernel_rfl
theorem Fh (N:Nat) (m:Md) (q:Qy) (k w0 w1 w2 w3 tw vs sp:Int):C6 (V3 N) UI [.cell 2 45] [[.z,.list true [.bool,.z,.z],.z,.z,.z,.z,.z,.z]] [.bor (EE m q [.zs,.zs,.i k,.zs,.i w0,.i w1,.i w2,.i w3,.i tw,.i vs,.i sp])]=(cond (k==0) (some ((.agg [.i 3,.list true DP [],.i w0,.i w1,.i w2,.i w3,.i tw,.i sp]),[(EE m q [.zs,.zs,.i k,.zs,.i w0,.i w1,.i w2,.i w3,.i tw,.i vs,.i sp])])) (some ((.agg [.i k,.list true DP [],.i w0,.i w1,.i w2,.i w3,.i tw,.i sp]),[(EE m q [.zs,.zs,.i k,.zs,.i w0,.i w1,.i w2,.i w3,.i tw,.i vs,.i sp])]))):=by kernel_rfl
def V2 (N:Nat):Env:=DB [(35,OV),(31,TG),(32,TH),(34,TJ),(33,TU)] [] 165 N
theorem mA (N:Nat) (m:Md) (q:Qy) (left u00:LI) (k w0 w1 w2 w3 tw vs sp:Int):C6 (V2 N) UH [.tmp 2] [[.bool]] [.bor (EE m q [.vec 31 true D1 left,.vec 71 true DP u00,.i k,.zs,.i w0,.i w1,.i w2,.i w3,.i tw,.i vs,.i sp])]=(cond (k != 0) (some ((.bool false),[(EE m q [.vec 31 true D1 (AU (AF left) left),.vec 71 true DP (AU (AF u00) u00),.i k,.zs,.i w0,.i w1,.i w2,.i w3,.i tw,.i vs,.i sp])])) (cond (decide (sp≥Qy.bu q)) (some ((.bool false),[(EE m q [.vec 31 true D1 (AU (AF left) left),.vec 71 true DP (AU (AF u00) u00),.i k,.zs,.i w0,.i w1,.i w2,.i w3,.i tw,.i vs,.i sp])])) (cond (decide (0≤AA AC (ic (AF left - 0) - 1))&&decide (AA AC (ic (AF left - 0) - 1) < ic (AF left - 0))) (cond (decide (0≤AA AC (ic (AF left - 0) - 1))&&decide (AA AC (ic (AF left - 0) - 1)≤ic (AF left - 0))) (cond (FI m q (C8 (AG left (0+AD (AA AC (ic (AF left - 0) - 1))) default))) (cond (decide ((AF u00+1)*24≤DJ)) (cond (ic (0+AD (AA AC (ic (AF left - 0) - 1)) - 0)==0) (some ((.bool true),[(EE m q [.vec 31 true D1 (AU (0+AD (AA AC (ic (AF left - 0) - 1))) left),.list true DP (B5 0 (AU (AF u00+1) (AU (AF u00) u00++[IV.agg [IV.bool true,IV.int 0,IV.int 0]]))),.i 1,.list true DP (B5 0 (AU (AF u00+1) (AU (AF u00) u00++[IV.agg [IV.bool true,IV.int 0,IV.int 0]]))),.i 0,.i 0,.i 0,.i 0,.i 0,.i 0,.i (AA AC (sp+1))])])) (some ((.bool true),[(EE m q [.vec 31 true D1 (AU (0+AD (AA AC (ic (AF left - 0) - 1))) left),.vec 71 true DP (AU (AF u00+1) (AU (AF u00) u00++[IV.agg [IV.bool true,IV.int 0,IV.int 0]])),.i k,.zs,.i w0,.i w1,.i w2,.i w3,.i tw,.i vs,.i (AA AC (sp+1))])]))) none) (cond (F9 m q (Bx.low (C8 (AG left (0+AD (AA AC (ic (AF left - 0) - 1))) default))) (Sp.hi (Bx.s4 (C8 (AG left (0+AD (AA AC (ic (AF left - 0) - 1))) default))))) (some ((.bool true),[(EE m q [.vec 31 true D1 (AU (0+AD (AA AC (ic (AF left - 0) - 1))) left),.vec 71 true DP (AU (AF u00) u00),.i 2,.zs,.i (Pt.p0 (Bx.low (C8 (AG left (0+AD (AA AC (ic (AF left - 0) - 1))) default)))),.i (Pt.p1 (Bx.low (C8 (AG left (0+AD (AA AC (ic (AF left - 0) - 1))) default)))),.i (Pt.p2 (Bx.low (C8 (AG left (0+AD (AA AC (ic (AF left - 0) - 1))) default)))),.i (Pt.p3 (Bx.low (C8 (AG left (0+AD (AA AC (ic (AF left - 0) - 1))) default)))),.i (Sp.hi (Bx.s4 (C8 (AG left (0+AD (AA AC (ic (AF left - 0) - 1))) default)))),.i 0,.i (AA AC (sp+1))])])) (cond (DX m) (cond (!Option.isSome (DF m q (C8 (AG left (0+AD (AA AC (ic (AF left - 0) - 1))) default)))) (some ((.bool true),[(EE m q [.vec 31 true D1 (AU (0+AD (AA AC (ic (AF left - 0) - 1))) left),.vec 71 true DP (AU (AF u00) u00),.i 3,.zs,.i 0,.i 0,.i 0,.i 0,.i 0,.i 0,.i (AA AC (sp+1))])])) (cond (E3 (E1 (DF m q (C8 (AG left (0+AD (AA AC (ic (AF left - 0) - 1))) default))))) (cond (decide ((0+AD (AA AC (ic (AF left - 0) - 1))+2)*80≤DJ)) (cond (decide ((AF u00+1)*24≤DJ)) (some ((.bool true),[(EE m q [.vec 31 true D1 (AU (0+AD (AA AC (ic (AF left - 0) - 1))+2) (AU (0+AD (AA AC (ic (AF left - 0) - 1))) left++[(Bx.I (Bx.cutH (C8 (AG left (0+AD (AA AC (ic (AF left - 0) - 1))) default)) (E1 (DF m q (C8 (AG left (0+AD (AA AC (ic (AF left - 0) - 1))) default)))) (FG (DF m q (C8 (AG left (0+AD (AA AC (ic (AF left - 0) - 1))) default)))))),(Bx.I (Bx.cutL (C8 (AG left (0+AD (AA AC (ic (AF left - 0) - 1))) default)) (E1 (DF m q (C8 (AG left (0+AD (AA AC (ic (AF left - 0) - 1))) default)))) (FG (DF m q (C8 (AG left (0+AD (AA AC (ic (AF left - 0) - 1))) default))))))])),.vec 71 true DP (AU (AF u00+1) (AU (AF u00) u00++[IV.agg [IV.bool false,IV.int (E1 (DF m q (C8 (AG left (0+AD (AA AC (ic (AF left - 0) - 1))) default)))),IV.int (FG (DF m q (C8 (AG left (0+AD (AA AC (ic (AF left - 0) - 1))) default))))]])),.i k,.zs,.i w0,.i w1,.i w2,.i w3,.i tw,.i vs,.i (AA AC (sp+1))])])) none) none) none)) none))) none) none))):=by kernel_rfl
theorem mB (N:Nat) (m:Md) (q:Qy) (left:LI) (k w0 w1 w2 w3 tw vs sp:Int):C6 (V2 N) UH [.tmp 2] [[.bool]] [.bor (EE m q [.vec 31 true D1 left,.zs,.i k,.zs,.i w0,.i w1,.i w2,.i w3,.i tw,.i vs,.i sp])]=(cond (k != 0) (some ((.bool false),[(EE m q [.vec 31 true D1 (AU (AF left) left),.zs,.i k,.zs,.i w0,.i w1,.i w2,.i w3,.i tw,.i vs,.i sp])])) (cond (decide (sp≥Qy.bu q)) (some ((.bool false),[(EE m q [.vec 31 true D1 (AU (AF left) left),.zs,.i k,.zs,.i w0,.i w1,.i w2,.i w3,.i tw,.i vs,.i sp])])) (cond (decide (0≤AA AC (ic (AF left - 0) - 1))&&decide (AA AC (ic (AF left - 0) - 1) < ic (AF left - 0))) (cond (decide (0≤AA AC (ic (AF left - 0) - 1))&&decide (AA AC (ic (AF left - 0) - 1)≤ic (AF left - 0))) (cond (FI m q (C8 (AG left (0+AD (AA AC (ic (AF left - 0) - 1))) default))) (cond (ic (0+AD (AA AC (ic (AF left - 0) - 1)) - 0)==0) (some ((.bool true),[(EE m q [.vec 31 true D1 (AU (0+AD (AA AC (ic (AF left - 0) - 1))) left),.list true DP [(IV.agg [IV.bool true,IV.int 0,IV.int 0])],.i 1,.list true DP [(IV.agg [IV.bool true,IV.int 0,IV.int 0])],.i 0,.i 0,.i 0,.i 0,.i 0,.i 0,.i (AA AC (sp+1))])])) (some ((.bool true),[(EE m q [.vec 31 true D1 (AU (0+AD (AA AC (ic (AF left - 0) - 1))) left),.vec 71 true DP [(IV.agg [IV.bool true,IV.int 0,IV.int 0])],.i k,.zs,.i w0,.i w1,.i w2,.i w3,.i tw,.i vs,.i (AA AC (sp+1))])]))) (cond (F9 m q (Bx.low (C8 (AG left (0+AD (AA AC (ic (AF left - 0) - 1))) default))) (Sp.hi (Bx.s4 (C8 (AG left (0+AD (AA AC (ic (AF left - 0) - 1))) default))))) (some ((.bool true),[(EE m q [.vec 31 true D1 (AU (0+AD (AA AC (ic (AF left - 0) - 1))) left),.zs,.i 2,.zs,.i (Pt.p0 (Bx.low (C8 (AG left (0+AD (AA AC (ic (AF left - 0) - 1))) default)))),.i (Pt.p1 (Bx.low (C8 (AG left (0+AD (AA AC (ic (AF left - 0) - 1))) default)))),.i (Pt.p2 (Bx.low (C8 (AG left (0+AD (AA AC (ic (AF left - 0) - 1))) default)))),.i (Pt.p3 (Bx.low (C8 (AG left (0+AD (AA AC (ic (AF left - 0) - 1))) default)))),.i (Sp.hi (Bx.s4 (C8 (AG left (0+AD (AA AC (ic (AF left - 0) - 1))) default)))),.i 0,.i (AA AC (sp+1))])])) (cond (DX m) (cond (!Option.isSome (DF m q (C8 (AG left (0+AD (AA AC (ic (AF left - 0) - 1))) default)))) (some ((.bool true),[(EE m q [.vec 31 true D1 (AU (0+AD (AA AC (ic (AF left - 0) - 1))) left),.zs,.i 3,.zs,.i 0,.i 0,.i 0,.i 0,.i 0,.i 0,.i (AA AC (sp+1))])])) (cond (E3 (E1 (DF m q (C8 (AG left (0+AD (AA AC (ic (AF left - 0) - 1))) default))))) (cond (decide ((0+AD (AA AC (ic (AF left - 0) - 1))+2)*80≤DJ)) (some ((.bool true),[(EE m q [.vec 31 true D1 (AU (0+AD (AA AC (ic (AF left - 0) - 1))+2) (AU (0+AD (AA AC (ic (AF left - 0) - 1))) left++[(Bx.I (Bx.cutH (C8 (AG left (0+AD (AA AC (ic (AF left - 0) - 1))) default)) (E1 (DF m q (C8 (AG left (0+AD (AA AC (ic (AF left - 0) - 1))) default)))) (FG (DF m q (C8 (AG left (0+AD (AA AC (ic (AF left - 0) - 1))) default)))))),(Bx.I (Bx.cutL (C8 (AG left (0+AD (AA AC (ic (AF left - 0) - 1))) default)) (E1 (DF m q (C8 (AG left (0+AD (AA AC (ic (AF left - 0) - 1))) default)))) (FG (DF m q (C8 (AG left (0+AD (AA AC (ic (AF left - 0) - 1))) default))))))])),.vec 71 true DP [(IV.agg [IV.bool false,IV.int (E1 (DF m q (C8 (AG left (0+AD (AA AC (ic (AF left - 0) - 1))) default)))),IV.int (FG (DF m q (C8 (AG left (0+AD (AA AC (ic (AF left - 0) - 1))) default))))])],.i k,.zs,.i w0,.i w1,.i w2,.i w3,.i tw,.i vs,.i (AA AC (sp+1))])])) none) none)) none))) none) none))):=by kernel_rfl
theorem Fc (N:Nat) (m:Md) (q:Qy) (left u00 vp:LI) (k w0 w1 w2 w3 tw vs sp:Int):C6 (V2 N) UH [.tmp 2] [[.bool]] [.bor (EE m q [.vec 31 true D1 left,.list true DP u00,.i k,.list true DP vp,.i w0,.i w1,.i w2,.i w3,.i tw,.i vs,.i sp])]=(cond (k != 0) (some ((.bool false),[(EE m q [.vec 31 true D1 (AU (AF left) left),.list true DP u00,.i k,.list true DP vp,.i w0,.i w1,.i w2,.i w3,.i tw,.i vs,.i sp])])) (cond (decide (sp≥Qy.bu q)) (some ((.bool false),[(EE m q [.vec 31 true D1 (AU (AF left) left),.list true DP u00,.i k,.list true DP vp,.i w0,.i w1,.i w2,.i w3,.i tw,.i vs,.i sp])])) (cond (decide (0≤AA AC (ic (AF left - 0) - 1))&&decide (AA AC (ic (AF left - 0) - 1) < ic (AF left - 0))) (cond (decide (0≤AA AC (ic (AF left - 0) - 1))&&decide (AA AC (ic (AF left - 0) - 1)≤ic (AF left - 0))) (cond (FI m q (C8 (AG left (0+AD (AA AC (ic (AF left - 0) - 1))) default))) none (cond (F9 m q (Bx.low (C8 (AG left (0+AD (AA AC (ic (AF left - 0) - 1))) default))) (Sp.hi (Bx.s4 (C8 (AG left (0+AD (AA AC (ic (AF left - 0) - 1))) default))))) (some ((.bool true),[(EE m q [.vec 31 true D1 (AU (0+AD (AA AC (ic (AF left - 0) - 1))) left),.list true DP u00,.i 2,.zs,.i (Pt.p0 (Bx.low (C8 (AG left (0+AD (AA AC (ic (AF left - 0) - 1))) default)))),.i (Pt.p1 (Bx.low (C8 (AG left (0+AD (AA AC (ic (AF left - 0) - 1))) default)))),.i (Pt.p2 (Bx.low (C8 (AG left (0+AD (AA AC (ic (AF left - 0) - 1))) default)))),.i (Pt.p3 (Bx.low (C8 (AG left (0+AD (AA AC (ic (AF left - 0) - 1))) default)))),.i (Sp.hi (Bx.s4 (C8 (AG left (0+AD (AA AC (ic (AF left - 0) - 1))) default)))),.i 0,.i (AA AC (sp+1))])])) (cond (DX m) (cond (!Option.isSome (DF m q (C8 (AG left (0+AD (AA AC (ic (AF left - 0) - 1))) default)))) (some ((.bool true),[(EE m q [.vec 31 true D1 (AU (0+AD (AA AC (ic (AF left - 0) - 1))) left),.list true DP u00,.i 3,.zs,.i 0,.i 0,.i 0,.i 0,.i 0,.i 0,.i (AA AC (sp+1))])])) (cond (E3 (E1 (DF m q (C8 (AG left (0+AD (AA AC (ic (AF left - 0) - 1))) default))))) (cond (decide ((0+AD (AA AC (ic (AF left - 0) - 1))+2)*80≤DJ)) none none) none)) none))) none) none))):=by kernel_rfl
theorem Fd (N:Nat) (m:Md) (q:Qy) (k w0 w1 w2 w3 tw vs sp:Int):C6 (V2 N) UH [.tmp 2] [[.bool]] [.bor (EE m q [.zs,.zs,.i k,.zs,.i w0,.i w1,.i w2,.i w3,.i tw,.i vs,.i sp])]=(cond (k != 0) (some ((.bool false),[(EE m q [.zs,.zs,.i k,.zs,.i w0,.i w1,.i w2,.i w3,.i tw,.i vs,.i sp])])) (cond (decide (sp≥Qy.bu q)) (some ((.bool false),[(EE m q [.zs,.zs,.i k,.zs,.i w0,.i w1,.i w2,.i w3,.i tw,.i vs,.i sp])])) none)):=by kernel_rfl
open Go Go.Proofs Go.RowKit Go.Sort Go.Lib
theorem Mo:(PR.info? 71).map (fun i=>(i.zero,i.size,i.bytes))=some (some (.agg #[.bool false,.int .i64 0,.int .i64 0]),3,24):=by kernel_rfl
set_option maxHeartbeats 4000000 in
theorem u5 (b:Addr) (n c:Nat) (news:List Value) (w:World) (hl:news.length=n*3) (hn:n≤maxLen) (hbig:n*24≤140737488355328)
  (hc:∀ j u,news[j]?=some u→w.cell? (b.add j)=some u) (h1:∀ u∈news,u.oneCell'=true) :
  Calls Tryz.prog 30 #[.slice (some b) n c] w fun e w'=>∃ v',e = .returned v'∧w'.ownsRow w.heap.size 71 3 v' n news∧Below w.heap.size w w':=by
 obtain ⟨i0,hi,hz0,hz1,hz2⟩:∃ i,PR.info? 71=some i∧i.zero=some (.agg #[.bool false,.int .i64 0,.int .i64 0])∧i.size=3∧i.bytes=24:=by
  have h:=Mo;rw [Option.map_eq_some_iff] at h;obtain ⟨i,hi,he⟩:=h;simp only [Prod.mk.injEq] at he;exact ⟨i,hi,he⟩
 have qS:∀ (w:World) (a:Option Addr) (n c n' c':Nat),(binOp .eql 41 (.slice a n c) (.slice none n' c')).run Tryz.prog w = .ok (.bool a.isNone) w:=fun w a n c n' c'=>Lib.run_eql_slice_nil w _ _ a n c n' c' Tryz.underlying41
 have A:Aside (∀ j u,news[j]?=some u→w.cell? (b.add j)=some u):=hc;clear hc
 go_enter Tryz.func30,Tryz.ntmps30
 go_wp2_with (at_builtin; refine wpList_append_own _ rfl _ _ 41 rfl w.heap.size 71 i0 (.agg #[.bool false,.int .i64 0,.int .i64 0]) 3 24 Tryz.underlying41 hi hz0 hz1 hz2 rfl (by decide) _ _ _ rfl (World.ownsRow_made w #[] 0 (Nat.le_refl _) (Nat.zero_le _) (by simp)) b n c news rfl ?qc1 ?qc2 ?qc3 ?qc4 ?qc5 ?qc6 ?_)
 case qc1=>exact hl
 case qc2=>
  intro j u hj;exact Lib.cell?_alloc_some _ (A.out j u hj)
 case qc3=>exact h1
 case qc4=>rw [Nat.zero_add]; exact hn
 case qc5=>rw [Nat.zero_add]; exact hbig
 case qc6=>simp
 intro v' w1 hown hgrow hnil
 go_wp2
 go_ret
 refine ⟨v',rfl,by simpa using hown,?_⟩;exact ((Below.refl _ w).alloc (Nat.le_refl _) _).grown hgrow (by simp) (by intro k hk; simp [Value.ownBlock] at hk; omega)
set_option maxHeartbeats 1000000 in
theorem u6 (n c:Nat) (w:World):Calls Tryz.prog 30 #[.slice none n c] w fun e w'=>e = .returned (.slice none 0 0)∧w'=w:=by
 have qS:∀ (w:World) (a:Option Addr) (n c n' c':Nat),(binOp .eql 41 (.slice a n c) (.slice none n' c')).run Tryz.prog w = .ok (.bool a.isNone) w:=fun w a n c n' c'=>Lib.run_eql_slice_nil w _ _ a n c n' c' Tryz.underlying41
 go_enter Tryz.func30,Tryz.ntmps30
 go_wp2
 go_ret
 exact ⟨rfl,rfl⟩
def KO (y:IV):Nat→Value
 | 0=>.bool (R5 y)
 | 1=>.int .i64 (L2 y)
 | _=>.int .i64 (OB y)
def K8 (l:LI):List Value:=l.flatMap fun y=>[KO y 0,KO y 1,KO y 2]
theorem dY:∀ l:LI,(K8 l).length=l.length*3
 | []=>rfl
 | y :: r=>by
  have:=dY r
  unfold K8 at this ⊢;rw [vaY,AQ,this,AT];simp;omega
theorem YL:∀ (l:LI) (j:Nat) (u:Value),(K8 l)[j]?=some u→∃ i y k,j=i*3+k∧k < 3∧l[i]?=some y∧u=KO y k
 | [],j,u,h=>by simp [K8] at h
 | y :: r,j,u,h=>by
  have e:K8 (y :: r)=[KO y 0,KO y 1,KO y 2]++K8 r:=by unfold K8; rw [vaY]
  rw [e] at h
  match j,h with
  | 0,h=>exact ⟨0,y,0,rfl,by omega,rfl,by simpa using h.symm⟩
  | 1,h=>exact ⟨0,y,1,rfl,by omega,rfl,by simpa using h.symm⟩
  | 2,h=>exact ⟨0,y,2,rfl,by omega,rfl,by simpa using h.symm⟩
  | j+3,h=>
   obtain ⟨i,z,k,rfl,hk,hi,hu⟩:=YL r j u (by simpa using h);exact ⟨i+1,z,k,by omega,hk,by simpa using hi,hu⟩
theorem Mh (l:LI) (i:Nat) (y:IV) (hy:l[i]?=some y) (k:Nat) (hk:k < 3):(K8 l)[i*3+k]?=some (KO y k):=by
 have hi:i < l.length:=(BV.1 hy).1;have hlt:i*3+k < (K8 l).length:=by rw [dY]; omega
 obtain ⟨i',y',k',h1,h2,h3,h4⟩:=YL l (i*3+k) _ (AV hlt);obtain rfl:i'=i:=by omega
 obtain rfl:k'=k:=by omega
 rw [hy] at h3;simp only [AB] at h3;subst h3;rw [AV hlt,h4]
theorem Lt:C5 PR B0 30 V7:=by
 intro w X γ vs xs r out hsp hg hx hR hV;unfold V7 at hsp;simp only at hsp;split at hsp
 ·rename_i l;cases hc:BI l.length 100000 with
  | false=>rw [hc] at hsp; simp [R.get] at hsp
  | true=>
   rw [hc] at hsp;have hc:=AK hc;simp only [R.get,AB,AL] at hsp;obtain ⟨rfl,rfl⟩:=hsp;obtain ⟨x0,rfl⟩:∃ x0,xs=[x0]:=by
    have:=hV.length
    simp at this
    match xs,this with
    | [a],_=>exact ⟨a,rfl⟩
   simp only [A6,vab,DS,VRels,VRel,B9] at hV;simp only [Kd.Rel,IV.toList] at hV;obtain ⟨p,c,rfl,hc1,hc2,hc3,hcell⟩:=hV;have key:∀ i y,l[i]?=some y→∃ b o,p=some ⟨b,o,none⟩∧(∀ k,k < 3→w.cell? ⟨b,o+i*3+k,none⟩=some (KO y k))∧(AC.min≤L2 y∧L2 y≤AC.max)∧(AC.min≤OB y∧OB y≤AC.max):=fun i y hy=>by
    obtain ⟨b,o,rfl,_,_,hr⟩:=hcell i y hy;simp only [Kd.RelAll,B9,AT,B8,A0,vaa] at hr;obtain ⟨⟨u0,a0,b0⟩,⟨u1,a1,b1⟩,⟨u2,a2,b2⟩⟩:=hr;simp only [Kd.Rel,EN] at b0 b1 b2;refine ⟨b,o,rfl,fun k hk=>?_,b1.2,b2.2⟩
    match k,hk with
    | 0,_=>rw [b0] at a0; exact a0
    | 1,_=>rw [b1.1] at a1; exact a1
    | 2,_=>rw [b2.1] at a2; exact a2
   have hel:∀ (w':World) (O:Nat→Prop) i y,l[i]?=some y→Kd.RelAll w' O DP (EN true y) 0 (fun j u=>(K8 l)[i*DP.length+j]?=some u):=fun w' O i y hy=>by
    obtain ⟨_,_,_,_,k1,k2⟩:=key i y hy;simp only [Kd.RelAll,AT,B8,A0,vaa,B9];have g:=Mh l i y hy;refine ⟨⟨_,g 0 (by omega),?_⟩,⟨_,g 1 (by omega),?_⟩,⟨_,g 2 (by omega),?_⟩⟩
    ·simp only [Kd.Rel,EN,KO,R5]
    ·simp only [Kd.Rel,EN,KO,L2]; exact ⟨trivial,k1⟩
    ·simp only [Kd.Rel,EN,KO,OB]; exact ⟨trivial,k2⟩
   refine Kw hR rfl (by decide) (by decide) hc3 (Does.of_calls Tryz.func30 (by kernel_rfl) (by kernel_rfl) ?_);cases p with
   | none=>
    have h0:l=[]:=by
     cases l with
     | nil=>rfl
     | cons y r=>
      obtain ⟨b,o,hp,_⟩:=key 0 y rfl;cases hp
    subst h0;refine (u6 _ c w).mono ?_;rintro e w' ⟨rfl,rfl⟩;exact ⟨_,[],rfl,Keep.refl _ _,⟨rfl,.inl ⟨rfl,rfl⟩⟩,hel _⟩
   | some a=>
    refine (u5 a l.length c (K8 l) w (dY l) (by unfold maxLen; omega) (by omega) (fun j u hj=>?_) (fun u hu=>?_)).mono ?_
    ·obtain ⟨i,y,k,rfl,hk,hi,rfl⟩:=YL l j u hj;obtain ⟨b,o,hp,hu,_⟩:=key i y hi;simp only [AB] at hp;subst hp;rw [Addr.add_lit,← va2];exact hu k hk
    ·obtain ⟨j,hj⟩:=List.getElem?_of_mem hu;obtain ⟨i,y,k,_,hk,_,rfl⟩:=YL l j u hj
     match k,hk with
     | 0,_=>rfl
     | 1,_=>rfl
     | 2,_=>rfl
    ·rintro e w' ⟨v',rfl,hown,hw⟩;exact ⟨v',_,rfl,Keep.below hw,hown,hel _⟩
 ·simp [R.get] at hsp
open Go Go.Proofs
set_option maxRecDepth 100000
theorem Bw {l:List V} {m:Md} (h:mdOf? l=some m):l=m.cs:=by
 unfold mdOf? at h;split at h
 ·simp only [AB] at h;subst h;rfl
 ·cases h
theorem Ia {l:List V} {q:Qy} (h:qyOf? l=some q):l=q.cs:=by
 unfold qyOf? at h;split at h
 ·simp only [AB] at h;subst h;rfl
 ·cases h
theorem Jd {l r:List V} {m:Md} {q:Qy} (h:seOf? l=some (m,q,r)):l=EE m q r:=by
 unfold seOf? at h;split at h
 ·rename_i m' q' h1 h2;simp only [AB,AL] at h;obtain ⟨rfl,rfl,rfl⟩:=h;unfold EE;rw [← Bw h1,← Ia h2,List.take_append_drop,List.take_append_drop]
 ·cases h
def pK (t:Nat) (s:Sr):Prop:=t≤3∧(t=3→s.left=[])∧(t=1∨t=3→s.proof=[])∧(t≠2→s.v.proof=[])
theorem Mg {r:List V} {t:Nat} {s:Sr} (h:srT? r=some (t,s)) (m:Md) (q:Qy):EE m q r=KN t m q s∧pK t s:=by
 unfold srT? at h;split at h
 case h_5=>cases h
 all_goals
  simp only [AB,AL] at h;obtain ⟨rfl,rfl⟩:=h;refine ⟨rfl,by omega,?_,?_,?_⟩ <;> intro h <;> first | rfl | (exfalso; omega)
theorem rQ {v:V} {k:Nat→Md→Qy→Sr→R} {z:V × List (List V)} (h:(Y1 v k).get=some z):∃ t m q s,v = .bor (KN t m q s)∧pK t s∧(k t m q s).get=some z:=by
 unfold Y1 at h;split at h
 ·rename_i l;split at h
  ·rename_i m q r hl;split at h
   ·rename_i t s hr;obtain ⟨e,hw⟩:=Mg hr m q;exact ⟨t,m,q,s,by rw [Jd hl,e],hw,h⟩
   ·simp [R.get] at h
  ·simp [R.get] at h
 ·simp [R.get] at h
theorem pA:C5 PR B0 11 O3:=by
 refine DC [(29,MN),(16,TW)] [] O3 [[.list false []]] Tryz.func11 Ah ⟨dW,Lq,trivial⟩ ?_;intro vs r hwf h;unfold O3 at h;split at h
 ·rename_i m q;replace h:=F8 h;obtain ⟨m,rfl,h⟩:=h;replace h:=FV h;obtain ⟨q,rfl,h⟩:=h;refine ⟨0,(Fa 0 m q).trans ?_⟩;cases hr:EI m q with
  | true=>rw [hr,R.get_br,CP,R.get_ok] at h; exact h
  | false=>rw [hr,R.get_br,CS,R.get_ok] at h; exact h
 ·simp [R.get] at h
theorem pD:C5 PR B0 12 O6:=by
 refine DC [(30,V7)] [] O6 [[.z,.list true [.bool,.z,.z],.z,.z,.z,.z,.z,.z]] Tryz.func12 Al ⟨Lt,trivial⟩ ?_;intro vs r hwf h;unfold O6 at h;split at h
 ·replace h:=rQ h;obtain ⟨t,m,q,s,rfl,hw,h⟩:=h;cases hg:BI s.v.proof.length 100000 with
  | false=>rw [hg] at h; simp [R.get] at h
  | true=>
   rw [hg,R.get_br,CP,R.get_ok] at h;refine ⟨0,?_⟩;rw [← h];obtain ⟨left,proof,⟨k,vp,a,b,c,d,tw,vs⟩,sp⟩:=s;replace hg:BI vp.length 100000=true:=hg
   match t,hw with
   | 0,hw=>
    obtain rfl:vp=[]:=hw.2.2.2 (by omega);refine (Fe 0 m q left proof k a b c d tw vs sp).trans ?_;rw [A9,A9];unfold GH;cases (k==0) <;> rfl
   | 1,hw=>
    obtain rfl:vp=[]:=hw.2.2.2 (by omega);refine (Ff 0 m q left k a b c d tw vs sp).trans ?_;rw [A9];unfold GH;cases (k==0) <;> rfl
   | 2,_=>
    refine (Fg 0 m q left proof vp k a b c d tw vs sp).trans ?_;rw [A9,hg,CP,CP,CC,A9];unfold GH;cases (k==0) <;> rfl
   | 3,hw=>
    obtain rfl:vp=[]:=hw.2.2.2 (by omega);refine (Fh 0 m q k a b c d tw vs sp).trans ?_;unfold GH;cases (k==0) <;> rfl
   | t+4,hw=>exact absurd hw.1 (by omega)
 ·simp [R.get] at h
theorem pH (m:Md) (q:Qy) (b:Bx):∀ (d i:Nat),i+d=5→(HD m q b d i).isSome=true→E3 (E1 (HD m q b d i))=true
 | 0,i,_,h=>by rw [HD] at h; cases h
 | d+1,i,hd,h=>by
  rw [HD] at h ⊢;cases hc:decide ((EB m q b i).length > 0) with
  | true=>
   rw [CP];show E3 (i:Int)=true;unfold E3;rw [AE (show (0:Int)≤(i:Int) by omega),AE (show (i:Int) < 5 by omega)];rfl
  | false=>
   rw [hc,CS] at h;rw [CS];exact pH m q b d (i+1) (by omega) h
theorem pC:C5 PR B0 13 O5:=by
 refine DC [(35,OV),(31,TG),(32,TH),(34,TJ),(33,TU)] [] O5 [[.bool]] Tryz.func13 Aj ⟨oZ,Kx,Ky,Kz,Ln,trivial⟩ ?_;intro vs r hwf h;unfold O5 at h;split at h
 ·replace h:=rQ h;obtain ⟨t,m,q,s,rfl,hw,h⟩:=h;refine ⟨0,?_⟩;obtain ⟨left,proof,⟨k,vp,a,b,c,d,tw,vs⟩,sp⟩:=s;cases ho:EJ q ⟨left,proof,⟨k,vp,a,b,c,d,tw,vs⟩,sp⟩ with
  | true=>
   rw [ho,R.get_br,CP,R.get_ok] at h;rw [← h];have hk:(k != 0)=true∨(k != 0)=false∧decide (sp≥q.bu)=true:=by
    unfold EJ at ho;have e:(k != 0)=!(k==0):=rfl;rw [e];cases hk:(k==0) with
    | false=>exact .inl rfl
    | true=>
     replace ho:(!(k==0)||decide (sp≥q.bu))=true:=ho;rw [hk,A5,Bool.false_or] at ho;exact .inr ⟨rfl,ho⟩
   match t,hw with
   | 0,hw=>
    refine (mA 0 m q left proof k a b c d tw vs sp).trans ?_;rcases hk with hk | ⟨hk,hs⟩
    ·rw [hk,CP,A9,A9]; rfl
    ·rw [hk,CS,hs,CP,A9,A9]; rfl
   | 1,hw=>
    refine (mB 0 m q left k a b c d tw vs sp).trans ?_;rcases hk with hk | ⟨hk,hs⟩
    ·rw [hk,CP,A9]; rfl
    ·rw [hk,CS,hs,CP,A9]; rfl
   | 2,hw=>
    refine (Fc 0 m q left proof vp k a b c d tw vs sp).trans ?_;rcases hk with hk | ⟨hk,hs⟩
    ·rw [hk,CP,A9]; rfl
    ·rw [hk,CS,hs,CP,A9]; rfl
   | 3,hw=>
    refine (Fd 0 m q k a b c d tw vs sp).trans ?_;rcases hk with hk | ⟨hk,hs⟩
    ·rw [hk,CP]; rfl
    ·rw [hk,CS,hs,CP]; rfl
   | t+4,hw=>exact absurd hw.1 (by omega)
  | false=>
   rw [ho,R.get_br,CS] at h;unfold EJ at ho;replace ho:(!(k==0)||decide (sp≥q.bu))=false:=ho;rw [vaE] at ho;have hk:(k != 0)=false:=ho.1;have hsp:decide (sp≥q.bu)=false:=ho.2;cases hg:(BI t 1&&(EI m q&&(decide (0≤sp)&&(A2 0 left.length&&(BI left.length 100000&&BI proof.length 100000))))) with
   | false=>
    replace h:(R.br (BI t 1&&(EI m q&&(decide (0≤sp)&&(A2 0 left.length&&(BI left.length 100000&&BI proof.length 100000))))) _ R.no).get=some r:=h;rw [hg] at h;simp [R.get] at h
   | true=>
    replace h:(R.br (BI t 1&&(EI m q&&(decide (0≤sp)&&(A2 0 left.length&&(BI left.length 100000&&BI proof.length 100000))))) _ R.no).get=some r:=h;rw [hg,R.get_br,CP] at h;have hst:some (.bool true,[KN (YP m q t ⟨left,proof,⟨k,vp,a,b,c,d,tw,vs⟩,sp⟩) m q (D5 m q ⟨left,proof,⟨k,vp,a,b,c,d,tw,vs⟩,sp⟩)])=some r:=by
     rw [← h];unfold YP;simp only [R.get_br,R.get_ok];cases FI m q (C7 left) with
     | true=>cases (ic (left.length - 1)==0) <;> rfl
     | false=>
      cases F9 m q (C7 left).low (C7 left).s4.hi with
      | true=>rfl
      | false=>cases (DF m q (C7 left)).isSome <;> rfl
    rw [← hst];simp only [AI] at hg;obtain ⟨ht,hr,h0,hl,hl5,hp5⟩:=hg;obtain ⟨hm,_,⟨_,hbu⟩,_,_⟩:=KL hr;have h0:=A4 h0;have hs1:=A8 hsp;have hl:0 < left.length:=AK hl;have hl5:=AK hl5;have hp5:=AK hp5;have esp:AA AC (sp+1)=sp+1:=DV (by omega) (by omega);have etop:AA AC (ic (left.length - 0) - 1)=((left.length - 1:Nat):Int):=by
     rw [DV (by simp only [ic]; omega) (by simp only [ic]; omega)];simp only [ic];omega
    have ed:(decide (0≤((left.length - 1:Nat):Int))&&decide (((left.length - 1:Nat):Int) < ic (left.length - 0)))=true:=by
     rw [AE (by omega),AE (by simp only [ic]; omega)];rfl
    have ee:(decide (0≤((left.length - 1:Nat):Int))&&decide (((left.length - 1:Nat):Int)≤ic (left.length - 0)))=true:=by
     rw [AE (by omega),AE (by simp only [ic]; omega)];rfl
    have epop:left.take (left.length - 1+2)=left.take (left.length - 1+2):=rfl;have hlen:(HA left).length=left.length - 1:=by unfold HA; rw [A1]; omega
    have htk:∀ (x y:IV),AU (left.length - 1+2) (AU (left.length - 1) left++[x,y])=HA left++[x,y]:=fun x y=>vav (by rw [AQ]; unfold HA at hlen; rw [hlen]; simp)
    have hb80:decide ((left.length - 1+2)*80≤DJ)=true:=AE (by unfold DJ; omega);have hin:=pH m q (C7 left) 5 0 rfl;replace hin:(DF m q (C7 left)).isSome=true→E3 (E1 (DF m q (C7 left)))=true:=hin
    match t,ht,hw with
    | 0,_,_=>
     have hb24:decide ((proof.length+1)*24≤DJ)=true:=AE (by unfold DJ; omega);have htp:∀ x:IV,AU (proof.length+1) (proof++[x])=proof++[x]:=fun x=>vav (by rw [AQ]; simp)
     refine (mA 0 m q left proof k a b c d tw vs sp).trans ?_;rw [hk,CS,hsp,CS,etop,ed,CP,ee,CP,esp,BL];simp only [A0,vaq,A9];rw [hb24,hb80,hm];unfold D5 YP;show cond (FI m q (C7 left)) _ (cond (F9 m q (C7 left).low (C7 left).s4.hi) _ _)=_;cases FI m q (C7 left) with
     | true=>
      simp only [htp,CC];rw [CP,CP];show cond (ic (left.length - 1)==0) _ _=_;cases (ic (left.length - 1)==0) <;> rfl
     | false=>
      rw [CS];cases F9 m q (C7 left).low (C7 left).s4.hi with
      | true=>rfl
      | false=>
       rw [CS,CP];show cond (!(DF m q (C7 left)).isSome) _ (cond (E3 (E1 (DF m q (C7 left)))) _ _)=_;cases hs:(DF m q (C7 left)).isSome with
       | false=>rfl
       | true=>
        rw [A5,CS,hin hs,CP,CP,CP];simp only [htp,htk];rfl
    | 1,_,hw=>
     obtain rfl:proof=[]:=hw.2.2.1 (.inl rfl);refine (mB 0 m q left k a b c d tw vs sp).trans ?_;rw [hk,CS,hsp,CS,etop,ed,CP,ee,CP,esp,BL];simp only [A0,vaq];rw [hb80,hm];unfold D5 YP;show cond (FI m q (C7 left)) _ (cond (F9 m q (C7 left).low (C7 left).s4.hi) _ _)=_;cases FI m q (C7 left) with
     | true=>
      rw [CP];show cond (ic (left.length - 1)==0) _ _=_;cases (ic (left.length - 1)==0) <;> rfl
     | false=>
      rw [CS];cases F9 m q (C7 left).low (C7 left).s4.hi with
      | true=>rfl
      | false=>
       rw [CS,CP];show cond (!(DF m q (C7 left)).isSome) _ (cond (E3 (E1 (DF m q (C7 left)))) _ _)=_;cases hs:(DF m q (C7 left)).isSome with
       | false=>rfl
       | true=>
        rw [A5,CS,hin hs,CP,CP];simp only [htk];rfl
    | t+2,ht,_=>exact absurd (AK ht) (by omega)
 ·simp [R.get] at h
open Go Go.Proofs
def NG (N:Nat):Env:=DB [(11,O3),(13,O5),(12,O6)] [(2,⟨[4,5],[4,8,500,501],[⟨.cell 8 23,500,31,true,D1⟩,⟨.cell 8 24,501,71,true,DP⟩]⟩)] 13 N
open Go Go.Proofs
set_option maxRecDepth 100000
abbrev UY:KP:=⟨[4,5],[4,8,500,501],[⟨.cell 8 23,500,31,true,D1⟩,⟨.cell 8 24,501,71,true,DP⟩]⟩
def oF (sh:Bool) (s:Sr):List V:=match sh with
 | false=>.row 500 0 s.left.length :: .row 501 0 s.proof.length :: SA s.v .zs s.spent
 | true=>.row 500 0 s.left.length :: WT s.proof :: SA s.v (WT s.v.proof) s.spent
def oG (sh:Bool) (s:Sr):Option Ob:=match sh with
 | false=>some (.row true 71 true DP s.proof)
 | true=>none
def I1 (m:Md) (q:Qy) (sh:Bool) (s:Sr):St:=
 ⟨[(4,.ptr 4 0 0),(5,.ptr 8 0 0)],[(4,some (.box [.int .i64 0,.zs,.int .i64 0,.int .i64 0,.int .i64 0,.int .i64 0,.int .i64 0,.int .i64 0])),(8,some (.box (EE m q (oF sh s)))),(500,some (.row true 31 true D1 s.left)),(501,oG sh s)]⟩
def HZ (s:Sr):Sr:=⟨s.left.take s.left.length,s.proof.take s.proof.length,⟨s.v.kind,[],s.v.w0,s.v.w1,s.v.w2,s.v.w3,s.v.twin,s.v.spent⟩,s.spent⟩
def R6 (s:Sr):Sr:=⟨s.left.take s.left.length,s.proof,s.v,s.spent⟩
theorem R7 {s:Sr} (h:s.v.proof=[]):HZ s=s:=by
 obtain ⟨left,proof,⟨k,vp,a,b,c,d,tw,vs⟩,sp⟩:=s;obtain rfl:vp=[]:=h;unfold HZ;simp only [A9]
theorem eD (s:Sr):R6 s=s:=by
 obtain ⟨left,proof,v,sp⟩:=s;unfold R6;simp only [A9]
def XZ (m:Md) (q:Qy) (s:Sr):Bool:=EI m q&&(decide (0≤s.spent)&&(A2 0 s.left.length&&(BI s.left.length 100000&&BI s.proof.length 100000)))
noncomputable abbrev UV (N:Nat):Out→St→CU:=CY 0 (C0 (NG N) (CR NQ [1,1,1]) (C1 (NG N) none [.cell 4 45] [[.z,.list true DP,.z,.z,.z,.z,.z,.z]]))
theorem Fb (N:Nat) (m:Md) (q:Qy):C6 (NG N) NQ [.cell 4 45] [[.z,.list true [.bool,.z,.z],.z,.z,.z,.z,.z,.z]] [m.V,q.V] =
 cond (EI m q) (C4 (NG N) (CR NQ [1,1,0,0,0]) UY N (I1 m q false ⟨[(II q).I],[],Vd.none,0⟩) (UV N))
 (C4 (NG N) (CR NQ [1,1,0,0,0]) UY N (I1 m q false ⟨[],[],⟨4,[],0,0,0,0,0,0⟩,0⟩) (UV N)):=by kernel_rfl
theorem d5 (N:Nat) (m:Md) (q:Qy) (s:Sr) (again:St→CU) (k:Out→St→CU):D9 (NG N) (CR NQ [1,1,0,0,0]) (I1 m q false s) (D4 again UY k) =
 cond (EJ q (HZ s)) (k (.exit 0) (I1 m q false (HZ s)))
 (cond (XZ m q (HZ s))
 (cond (FI m q (C7 (HZ s).left)) (cond (ic ((HZ s).left.length - 1)==0) (again (I1 m q true (D5 m q (HZ s)))) (again (I1 m q false (D5 m q (HZ s)))))
 (cond (F9 m q (C7 (HZ s).left).low (C7 (HZ s).left).s4.hi) (again (I1 m q false (D5 m q (HZ s))))
 (cond (DF m q (C7 (HZ s).left)).isSome (again (I1 m q false (D5 m q (HZ s)))) (again (I1 m q false (D5 m q (HZ s))))))) none):=by kernel_rfl
theorem Ml (N:Nat) (m:Md) (q:Qy) (s:Sr) (again:St→CU) (k:Out→St→CU):D9 (NG N) (CR NQ [1,1,0,0,0]) (I1 m q true s) (D4 again UY k) =
 cond (EJ q (R6 s)) (k (.exit 0) (I1 m q true (R6 s))) none:=by kernel_rfl
theorem j6 (N:Nat) (m:Md) (q:Qy) (s:Sr):UV N (.exit 0) (I1 m q false s)=some ((GH (HZ s)).V,[]):=by kernel_rfl
theorem xG (N:Nat) (m:Md) (q:Qy) (s:Sr):UV N (.exit 0) (I1 m q true s)=cond (BI s.v.proof.length 100000) (some ((GH (R6 s)).V,[])) none:=by kernel_rfl
structure SrInv (q:Qy) (sh:Bool) (s:Sr):Prop where
 sp0:0≤s.spent
 sp1:s.spent≤max 0 q.bu
 left:(s.left.length:Int)≤s.spent+1
 proof:(s.proof.length:Int)≤s.spent
 vp:(s.v.proof.length:Int)≤s.spent
 own:sh=false→s.v.proof=[]
 open_:s.v.kind=0→0 < s.left.length
 shut:sh=true→s.v.kind≠0
theorem m7 (l:LI):(HA l).length=l.length - 1:=by
 unfold HA;rw [A1];omega
theorem SrInv.step {m:Md} {q:Qy} {s:Sr} (h:SrInv q false s) (ho:EJ q s=false) :
  SrInv q (FI m q (C7 s.left)&&(ic (s.left.length - 1)==0)) (D5 m q s)∧(D5 m q s).spent=s.spent+1:=by
 unfold EJ at ho;rw [vaE] at ho;have hk:s.v.kind=0:=by simpa using ho.1
 have hs:=A8 ho.2;have h1:=h.sp0;have h2:=h.left;have h3:=h.proof;have h4:=h.vp;have h5:=h.own rfl;have h6:=h.open_ hk;have hp:=m7 s.left;have h5':s.v.proof.length=0:=by rw [h5]; rfl
 unfold D5;cases FI m q (C7 s.left) with
 | true=>
  rw [CP];cases he:(ic (s.left.length - 1)==0) with
  | true=>
   refine ⟨⟨?_,?_,?_,?_,?_,fun h=>(by cases h),fun h=>(by cases h),fun _=>(show (1:Int)≠0 by decide)⟩,rfl⟩ <;> simp only [BO,AQ,CK] <;> omega
  | false=>
   have hne:s.left.length - 1≠0:=by simpa [ic] using he
   refine ⟨⟨?_,?_,?_,?_,?_,fun _=>h5,fun _=>?_,fun h=>(by cases h)⟩,rfl⟩ <;> simp only [BB,AQ,CK] <;> omega
 | false=>
  rw [CS,BY];cases F9 m q (C7 s.left).low (C7 s.left).s4.hi with
  | true=>refine ⟨⟨?_,?_,?_,?_,?_,fun _=>rfl,fun h=>(by cases h),fun h=>(by cases h)⟩,rfl⟩ <;> simp only [BO,B8] <;> omega
  | false=>
   rw [CS];cases (DF m q (C7 s.left)).isSome with
   | true=>refine ⟨⟨?_,?_,?_,?_,?_,fun _=>h5,fun _=>?_,fun h=>(by cases h)⟩,rfl⟩ <;> simp only [BO,AQ,AT,B8] <;> omega
   | false=>refine ⟨⟨?_,?_,?_,?_,?_,fun _=>rfl,fun h=>(by cases h),fun h=>(by cases h)⟩,rfl⟩ <;> simp only [BB,B8] <;> omega
theorem mI {m:Md} {q:Qy} {s:Sr} (hr:EI m q=true) (h:SrInv q false s) (hk:s.v.kind=0):XZ m q s=true:=by
 have hb:=(KL hr).2.2.1;have h1:=h.sp0;have h2:=h.left;have h3:=h.proof;have h6:=h.open_ hk;have h7:=h.sp1;unfold XZ;rw [hr,AE h1,BX (show s.left.length≤100000 by omega),BX (show s.proof.length≤100000 by omega)]
 have:A2 0 s.left.length=true:=BX h6
 rw [this];rfl
theorem oJ (N:Nat) (m:Md) (q:Qy) (hr:EI m q=true) (K:Out→St→CU):∀ (d n:Nat) (sh:Bool) (s:Sr),SrInv q sh s→q.bu < s.spent+d→d < n →
  ∃ sh',SrInv q sh' (FL m q d s)∧C4 (NG N) (CR NQ [1,1,0,0,0]) UY n (I1 m q sh s) K=K (.exit 0) (I1 m q sh' (FL m q d s))
 | d,0,sh,s,_,_,h=>absurd h (by omega)
 | 0,n+1,sh,s,hi,hd,_=>by
  have h1:=hi.sp1;have h2:=hi.sp0;have h3:=(KL hr).2.2.1;omega
 | d+1,n+1,sh,s,hi,hd,hn=>by
  rw [FL];cases ho:EJ q s with
  | true=>
   rw [CP];refine ⟨sh,hi,?_⟩;cases sh with
   | false=>rw [DD,d5,R7 (hi.own rfl),ho,CP]
   | true=>rw [DD,Ml,eD,ho,CP]
  | false=>
   rw [CS];cases sh with
   | true=>
    unfold EJ at ho;rw [vaE] at ho
    have:=hi.shut rfl
    simp at ho;exact absurd ho.1 this
   | false=>
    obtain ⟨hi',hs'⟩:=hi.step (m:=m) ho;have hk:s.v.kind=0:=by
     unfold EJ at ho;rw [vaE] at ho;simpa using ho.1
    obtain ⟨sh',hi2,hrun⟩:=oJ N m q hr K d n _ (D5 m q s) hi' (by rw [hs']; omega) (by omega);refine ⟨sh',hi2,?_⟩;rw [← hrun,DD,d5,R7 (hi.own rfl),ho,CS,mI hr hi hk,CP];cases FI m q (C7 s.left) with
    | true=>
     rw [CP,BH];cases (ic (s.left.length - 1)==0) <;> rfl
    | false=>
     rw [CS,BY];cases F9 m q (C7 s.left).low (C7 s.left).s4.hi with
     | true=>rfl
     | false=>cases (DF m q (C7 s.left)).isSome <;> rfl
theorem bW {m:Md} {q:Qy} (hr:EI m q=true):SrInv q false ⟨[(II q).I],[],Vd.none,0⟩:=
 ⟨Int.le_refl _,by have:=(KL hr).2.2.1; show (0:Int)≤_; omega,by simp,by simp,by simp [Vd.none],fun _=>rfl,fun _=>by simp,fun h=>by cases h⟩
theorem pB:C5 PR B0 10 O4:=by
 refine DC [(11,O3),(13,O5),(12,O6)] [(2,⟨[4,5],[4,8,500,501],[⟨.cell 8 23,500,31,true,D1⟩,⟨.cell 8 24,501,71,true,DP⟩]⟩)] O4 [[.z,.list true [.bool,.z,.z],.z,.z,.z,.z,.z,.z]] Tryz.func10 Ai ⟨pA,pC,pD,trivial⟩ ?_;intro vs r hwf h;unfold O4 at h;split at h
 ·rename_i m q;replace h:=F8 h;obtain ⟨m,rfl,h⟩:=h;replace h:=FV h;obtain ⟨q,rfl,h⟩:=h;rw [R.get_ok] at h;refine ⟨70000,?_⟩;rw [← h];refine (Fb 70000 m q).trans ?_;unfold LY NY;cases hr:EI m q with
  | true=>
   have hb:=(KL hr).2.2.1;rw [CP,CP];obtain ⟨sh',hi,hrun⟩:=oJ 70000 m q hr (UV 70000) (q.bu.toNat+1) 70000 false _ (bW hr) (by show q.bu < 0+_; omega) (by omega);rw [hrun];generalize FL m q (q.bu.toNat+1) _=s at hi ⊢;cases sh' with
   | false=>rw [j6,R7 (hi.own rfl)]
   | true=>
    have h1:=hi.vp;have h2:=hi.sp1;rw [xG,eD,BX (show s.v.proof.length≤100000 by omega),CP]
  | false=>
   rw [CS,CS];have e:EJ q ⟨[],[],⟨4,[],0,0,0,0,0,0⟩,0⟩=true:=rfl;rw [DD,d5,R7 rfl,e,CP,j6,R7 rfl,FL,e,CP]
 ·simp [R.get] at h
open Go Go.Proofs
set_option maxRecDepth 100000
theorem Mc {m:Md} (hm:DX m=true) {q:Qy} {b:Bx} (h:(DF m q b).isSome=true):(E3 (E1 (DF m q b))&&DL (FG (DF m q b)))=true:=by
 obtain ⟨j,hj,ei,_,_,hmem⟩:=Me h;obtain ⟨_,ht,_,_⟩:=jM.1 hmem;obtain ⟨t,ht,w,hw,hl,_,ha⟩:=q8.1 ht;have hf:=(PZ ((VO hm t ht).2 w hw) hl).2.2.2;rw [ei,kP hj,← ha,hf];rfl
theorem rC {n:Nat} (h0:0 < n) (h1:n≤100000):J4 n=((n - 1:Nat):Int):=by
 unfold J4;rw [vaq,show CZ (ic n - 1)=ic n - 1 from DV (by simp only [ic]; omega) (by simp only [ic]; omega)];simp only [ic];omega
theorem My {L l:LI} (h:L.take l.length=l) (h0:0 < l.length) (h1:l.length≤100000):GT L l.length=C7 l:=by
 unfold GT C7;rw [rC h0 h1,BL,A0];refine congrArg C8 ?_
 conv=>rhs; rw [← h]
 rw [BG,BG,List.getElem?_take_of_lt (by rw [A1]; have:=congrArg AF h; rw [A1] at this; omega)];congr 2
 have:=congrArg AF h
 rw [A1] at this;rw [A1];omega
theorem dF (N:Nat) (m:Md) (q:Qy) (hr:EI m q=true):∀ (d n:Nat) (s:Sr) (L:LI),SrInv q false s→s.v=Vd.none→L.take s.left.length=s.left→q.bu < s.spent+d→d < n →
  C4 (QM N) (CR QX [1,1,1,1,0,0,0]) bB n (JL m q Vd.none s.left.length L s.proof.length s.proof s.spent) (XA N)=some ((GH (FL m q d s)).V,[])
 | d,0,_,_,_,_,_,_,h=>absurd h (by omega)
 | 0,n+1,s,L,hi,_,_,hd,_=>by
  have h1:=hi.sp1;have h3:=(KL hr).2.2.1;omega
 | d+1,n+1,s,L,hi,hv,hL,hd,hn=>by
  have hk0:s.v.kind=0:=by rw [hv]; rfl
  have hopen:=hi.open_ hk0;have h1:=hi.sp0;have h2:=hi.left;have h3:=hi.proof;have h4:=hi.sp1;have hbu:=(KL hr).2.2.1;have hm:=(KL hr).1;have hlen:s.left.length≤100000:=by omega
  rw [DD,qM,vaq,AE (show ic s.left.length > 0 by simp only [ic]; omega),CP,FL];cases ho:EJ q s with
  | true=>
   have hs:s.spent≥q.bu:=by
    unfold EJ at ho;rw [hk0] at ho;simpa using ho
   rw [AE hs,CP,CP,aF];unfold GH;rw [hk0,hv];rfl
  | false=>
   have hs:¬ s.spent≥q.bu:=by
    unfold EJ at ho;rw [vaE] at ho;exact A8 ho.2
   obtain ⟨hi',hs'⟩:=hi.step (m:=m) ho;have e1:=rC hopen hlen;have e2:=My hL hopen hlen;have e3:CZ (s.spent+1)=s.spent+1:=DV (by omega) (by omega);have hLp:L.take (s.left.length - 1)=HA s.left:=by
    have e:(L.take s.left.length).take (s.left.length - 1)=L.take (s.left.length - 1):=by rw [List.take_take,vao (by omega)]
    rw [hL] at e;exact e.symm
   have hpl:=m7 s.left;rw [AM hs,CS,CS,e2,e1,AE (show (0:Int)≤((s.left.length - 1:Nat):Int) by omega),AE (show ((s.left.length - 1:Nat):Int) < ic s.left.length by simp only [ic]; omega),AE (show ((s.left.length - 1:Nat):Int)≤ic s.left.length by simp only [ic]; omega),BE,CP,CP,BL,A0,A9,e3,
    AE (show (s.proof.length+1)*24≤DJ by unfold DJ; omega),AE (show (s.left.length - 1+2)*80≤DJ by unfold DJ; omega),hLp]
   cases hc:FI m q (C7 s.left) with
   | true=>
    rw [CP,CP];have est:D5 m q s=⟨HA s.left,s.proof++[J1 true 0 0],cond (ic (s.left.length - 1)==0) ⟨1,s.proof++[J1 true 0 0],0,0,0,0,0,0⟩ s.v,s.spent+1⟩:=by
     unfold D5;rw [hc,CP]
    have epl:(s.proof++[J1 true 0 0]).length=s.proof.length+1:=by rw [AQ,CK]
    cases he:(ic (s.left.length - 1)==0) with
    | true=>
     have hz:s.left.length - 1=0:=by simpa [ic] using he
     have ekind:(D5 m q s).v.kind=1:=by rw [est,he]; rfl
     have hov:EJ q (D5 m q s)=true:=by unfold EJ; rw [ekind]; rfl
     have hrun:FL m q d (D5 m q s)=D5 m q s:=by
      cases d with
      | zero=>rfl
      | succ d=>rw [FL,hov,CP]
     rw [hrun];obtain ⟨n',rfl⟩:∃ k,n=k+1:=⟨n - 1,by omega⟩;rw [hz,DD,qM];rw [AM (show ¬ ic (0 - 0) > 0 by decide),CS,xC,CC,← epl,A9];unfold GH;rw [est,he];rfl
    | false=>
     rw [hc,he] at hi';have ev:(D5 m q s).v=Vd.none:=by rw [est,he]; exact hv
     have ih:=dF N m q hr d n (D5 m q s) L hi' ev (by rw [est]; show L.take (HA s.left).length=HA s.left; rw [hpl]; exact hLp) (by rw [hs']; omega) (by omega);rw [← ih,est];show C4 _ _ _ _ (JL m q Vd.none (s.left.length - 1) L (s.proof.length+1) (s.proof++[J1 true 0 0]) (s.spent+1)) _=C4 _ _ _ _ (JL m q Vd.none (HA s.left).length L (s.proof++[J1 true 0 0]).length (s.proof++[J1 true 0 0]) (s.spent+1)) _;rw [hpl,epl]
   | false=>
    rw [CS];cases hb:F9 m q (C7 s.left).low (C7 s.left).s4.hi with
    | true=>
     have est:D5 m q s=⟨HA s.left,s.proof,⟨2,[],(C7 s.left).s0.lo,(C7 s.left).s1.lo,(C7 s.left).s2.lo,(C7 s.left).s3.lo,(C7 s.left).s4.hi,0⟩,s.spent+1⟩:=by
      unfold D5;rw [hc,CS,hb,CP]
     have hov:EJ q (D5 m q s)=true:=by unfold EJ; rw [est]; rfl
     have hrun:FL m q d (D5 m q s)=D5 m q s:=by
      cases d with
      | zero=>rfl
      | succ d=>rw [FL,hov,CP]
     rw [CP,hrun,aF];unfold GH;rw [est];rfl
    | false=>
     rw [CS,hm,CP];cases hsp:(DF m q (C7 s.left)).isSome with
     | false=>
      have est:D5 m q s=⟨HA s.left,s.proof,⟨3,[],0,0,0,0,0,0⟩,s.spent+1⟩:=by
       unfold D5;rw [hc,CS,hb,CS,hsp,CS]
      have hov:EJ q (D5 m q s)=true:=by unfold EJ; rw [est]; rfl
      have hrun:FL m q d (D5 m q s)=D5 m q s:=by
       cases d with
       | zero=>rfl
       | succ d=>rw [FL,hov,CP]
      rw [BJ,CP,hrun,aF];unfold GH;rw [est];rfl
     | true=>
      have est:D5 m q s=⟨HA s.left++[((C7 s.left).cutH (E1 (DF m q (C7 s.left))) (FG (DF m q (C7 s.left)))).I,((C7 s.left).cutL (E1 (DF m q (C7 s.left))) (FG (DF m q (C7 s.left)))).I],
        s.proof++[J1 false (E1 (DF m q (C7 s.left))) (FG (DF m q (C7 s.left)))],s.v,s.spent+1⟩:=by
       unfold D5;rw [hc,CS,hb,CS,hsp,CP]
      rw [hc,BY] at hi';have ev:(D5 m q s).v=Vd.none:=by rw [est]; exact hv
      have ih:=dF N m q hr d n (D5 m q s) (D5 m q s).left hi' ev (A9 ..) (by rw [hs']; omega) (by omega);rw [A5,CS,CP,Mc hm hsp,CP,CP,← ih,est];have e4:(HA s.left++[((C7 s.left).cutH (E1 (DF m q (C7 s.left))) (FG (DF m q (C7 s.left)))).I,((C7 s.left).cutL (E1 (DF m q (C7 s.left))) (FG (DF m q (C7 s.left)))).I]).length=s.left.length - 1+2:=by
       rw [AQ,hpl];rfl
      have e5:(s.proof++[J1 false (E1 (DF m q (C7 s.left))) (FG (DF m q (C7 s.left)))]).length=s.proof.length+1:=by rw [AQ,CK]
      simp only [e4,e5]
theorem Ki:C5 PR B0 8 S1:=by
 refine DC [(24,SW),(23,SX),(25,S0),(21,MI),(26,S3),(22,S4),(27,S6)] [(5,⟨[2,3,4,5,6],[2,3,4,6,500,501],[⟨.tmp 5,500,31,true,D1⟩,⟨.cell 6 1,501,71,true,DP⟩]⟩)] S1 [[.z,.list true [.bool,.z,.z],.z,.z,.z,.z,.z,.z]] Tryz.func8 y2 ⟨Kc,Ke,Kh,dR,Kk,Kl,Kn,trivial⟩ ?_;intro vs r hwf h;unfold S1 at h;split at h
 ·rename_i m q;replace h:=F8 h;obtain ⟨m,rfl,h⟩:=h;replace h:=FV h;obtain ⟨q,rfl,h⟩:=h;rw [R.get_ok] at h;refine ⟨70000,(De 70000 m q).trans ?_⟩;rw [← h];unfold LY NY;cases hr:EI m q with
  | true=>
   have hb:=(KL hr).2.2.1;rw [A5,CS,CP];exact dF 70000 m q hr (q.bu.toNat+1) 70000 ⟨[(II q).I],[],Vd.none,0⟩ [(II q).I] (bW hr) rfl rfl (by show q.bu < 0+_; omega) (by omega)
  | false=>rfl
 ·simp [R.get] at h
open Go Go.Proofs
def sC (N:Nat):Env:=DB [(40,ML)] [] 14 N
theorem Ct (N:Nat):C6 (sC N) gM [.cell 0 37] [[.z,.z,.z,.z,.z,.list true [.z,.list false [.int .u64]]]] []=(some ((.agg [.i 1,.i 1,.i 3,.i 0,.i 0,.list true EU [(IV.agg [IV.int 0,IV.list [IV.int (G9 false 0 0 5 1 2),IV.int (G9 true 10 0 0 0 0),IV.int (G9 true 20 0 0 0 0)]])]]),[])):=by kernel_rfl
def LF (N:Nat):Env:=DB [] [(4,⟨[0,1,4,5],[],[]⟩)] 26 N
abbrev OH (l0 l1:LI) (b4:Bool) (x5:Int):St:=⟨[(0,(.list true DP l0)),(1,(.list true DP l1)),(4,(.bool b4)),(5,(.i x5))],[]⟩
theorem Co (N:Nat) (a b:LI):C6 (LF N) NL [.tmp 4] [[.bool]] [.list true [.bool,.z,.z] a,.list true [.bool,.z,.z] b]=(cond (ic (AF a) != ic (AF b)) (some ((.bool false),[])) (C4 (LF N) (CR NL [1,1,0,1,0,0]) ⟨[0,1,4,5],[],[]⟩ N (OH a b false 0) (CY 0 (C0 (LF N) (CR NL [1,1,1]) (C1 (LF N) none [.tmp 4] [[.bool]]))))):=by kernel_rfl
theorem pP (N:Nat) (l0 l1:LI) (b4:Bool) (x5:Int) (again:St→CU) (k:Out→St→CU):D9 (LF N) (CR NL [1,1,0,1,0,0]) (OH l0 l1 b4 x5) (D4 again ⟨[0,1,4,5],[],[]⟩ k)=(cond (decide (x5 < ic (AF l0))) (cond (decide (0≤x5)&&decide (x5 < ic (AF l0))) (cond (decide (0≤x5)&&decide (x5 < ic (AF l1))) (cond (! (IV.toBool (IV.cell (AG l0 (AD x5) default) 0)==IV.toBool (IV.cell (AG l1 (AD x5) default) 0)&&(IV.toInt (IV.cell (AG l0 (AD x5) default) 1)==IV.toInt (IV.cell (AG l1 (AD x5) default) 1)&&(IV.toInt (IV.cell (AG l0 (AD x5) default) 2)==IV.toInt (IV.cell (AG l1 (AD x5) default) 2)&&true)))) (k .ret (OH l0 l1 false x5)) (again (OH l0 l1 b4 (AA AC (x5+1))))) none) none) (k (.exit 0) (OH l0 l1 b4 x5))):=by kernel_rfl
theorem vX (N:Nat) (l0 l1:LI) (b4:Bool) (x5:Int):(CY 0 (C0 (LF N) (CR NL [1,1,1]) (C1 (LF N) none [.tmp 4] [[.bool]]))) (.exit 0) (OH l0 l1 b4 x5)=(some ((.bool true),[])):=by kernel_rfl
theorem vY (N:Nat) (l0 l1:LI) (b4:Bool) (x5:Int):(CY 0 (C0 (LF N) (CR NL [1,1,1]) (C1 (LF N) none [.tmp 4] [[.bool]]))) .ret (OH l0 l1 b4 x5)=(some ((.bool b4),[])):=by kernel_rfl
def sD (N:Nat):Env:=DB [(28,SP)] [] 38 N
theorem Cv (N:Nat) (a b:Vd):C6 (sD N) gN [.tmp 4] [[.bool]] [(Vd.V a),(Vd.V b)]=(cond (Vd.kind a==Vd.kind b) (cond (HX (Vd.proof a) (Vd.proof b)) (cond (Vd.w0 a==Vd.w0 b&&(Vd.w1 a==Vd.w1 b&&(Vd.w2 a==Vd.w2 b&&(Vd.w3 a==Vd.w3 b&&true)))) (cond (Vd.twin a==Vd.twin b) (some ((.bool (Vd.spent a==Vd.spent b)),[])) (some ((.bool false),[]))) (some ((.bool false),[]))) (some ((.bool false),[]))) (some ((.bool false),[]))):=by kernel_rfl
def sF (N:Nat):Env:=DB [(36,SR),(10,O4)] [] 60 N
theorem Cx (N:Nat):C6 (sF N) gP [.tmp 0] [[.bool]] []=(some ((.bool true),[])):=by kernel_rfl
open Go Go.Proofs
theorem oM (N:Nat) (l m:LI) (K:Out→St→CU) (hlm:l.length=m.length) (hl:l.length≤strMax)
  (hx:∀ b4 x5,K (.exit 0) ⟨[(0,(.list true DP l)),(1,(.list true DP m)),(4,(.bool b4)),(5,(.int .i64 x5))],[]⟩=some (.bool true,[]))
  (hr:∀ b4 x5,K .ret ⟨[(0,(.list true DP l)),(1,(.list true DP m)),(4,(.bool b4)),(5,(.int .i64 x5))],[]⟩=some (.bool b4,[])) :
  ∀ (d i n:Nat),i+d=l.length→d < n→C4 (LF N) (CR NL [1,1,0,1,0,0]) ⟨[0,1,4,5],[],[]⟩ n ⟨[(0,(.list true DP l)),(1,(.list true DP m)),(4,(.bool false)),(5,(.int .i64 (i:Int)))],[]⟩ K=some (.bool (HX (l.drop i) (m.drop i)),[])
 | 0,i,n+1,hd,_=>by
  rw [DD,pP,JB (by omega),List.drop_of_length_le (by omega),List.drop_of_length_le (by omega)];simp only [BB,HX];exact hx ..
 | d+1,i,n+1,hd,hn=>by
  have hi:i < l.length:=by omega
  have hm:i < m.length:=by omega
  unfold strMax at hl;rw [DD,pP,IB hi,IB hm,IA,FN (by omega),IW hi,IW hm,BC hi,BC hm];generalize l[i]=x;generalize m[i]=y;have ih:=oM N l m K hlm (by unfold strMax; omega) hx hr d (i+1) n (by omega) (by omega);rw [ih];simp only [HX];generalize HX (B5 (i+1) l) (B5 (i+1) m)=rest;unfold YM R5 L2 OB;simp only [BO,vaI];cases IV.toBool (IV.cell x 0)==IV.toBool (IV.cell y 0) <;> cases IV.toInt (IV.cell x 1)==IV.toInt (IV.cell y 1) <;> cases IV.toInt (IV.cell x 2)==IV.toInt (IV.cell y 2) <;>
   (simp only [BO,BB,A5,BJ,vaI,vax,BH,BY,hr]
    try rfl)
 | 0,_,0,_,h=>by omega
 | _+1,_,0,_,h=>by omega
theorem oK:∀ {l m:LI},HX l m=true→l.length=m.length
 | [],[],_=>rfl
 | [],_ :: _,h=>by simp [HX] at h
 | _ :: _,[],h=>by simp [HX] at h
 | x :: l,y :: m,h=>by
  simp only [HX,AI] at h;simp [oK h.2]
theorem Js:C5 PR B0 28 SP:=by
 refine DC [] [(4,⟨[0,1,4,5],[],[]⟩)] SP [[.bool]] Tryz.func28 yJ trivial ?_;intro vs r hwf h;unfold SP at h;split at h
 ·rename_i l m;rw [R.get_ok] at h;refine ⟨l.length+1,?_⟩;rw [← h];refine (Co (l.length+1) l m).trans ?_;have hl:=(hwf (by simp [K4])).1;simp only [QG,wfL] at hl;by_cases hlm:l.length=m.length
  ·have e:(ic l.length != ic m.length)=false:=by simp [ic,hlm]
   rw [e];simp only [BB]
   have:=oM (l.length+1) l m _ hlm hl.1 (fun b4 x5=>vX (l.length+1) l m b4 x5) (fun b4 x5=>vY (l.length+1) l m b4 x5) l.length 0 (l.length+1) (by omega) (by omega)
   rw [CC,CC] at this;exact this
  ·have e:(ic l.length != ic m.length)=true:=by simp [ic]; omega
   rw [e]
   have:HX l m=false:=by
    cases hs:HX l m with
    | false=>rfl
    | true=>exact absurd (oK hs) hlm
   rw [this];rfl
 ·simp [R.get] at h
theorem Jy:C5 PR B0 9 ST:=by
 refine DC [(28,SP)] [] ST [[.bool]] Tryz.func9 yQ ⟨Js,trivial⟩ ?_;intro vs r hwf h;unfold ST at h;split at h
 ·rename_i k p a b c d t s k' p' a' b' c' d' t' s';rw [R.get_ok] at h;refine ⟨0,?_⟩;rw [← h];refine (Cv 0 ⟨k,p,a,b,c,d,t,s⟩ ⟨k',p',a',b',c',d',t',s'⟩).trans ?_;simp only [R9,vaI];cases k==k'
  ·rfl
  cases HX p p'
  ·rfl
  cases a==a' <;> cases b==b' <;> cases c==c' <;> cases d==d' <;> cases t==t' <;> rfl
 ·simp [R.get] at h
open Go Go.Proofs
@[reducible] def IJ (m:Md) (q:Qy) (sh:Bool) (s:Sr) (over K:Bool→Sr→CU):CU:=match sh with
 | false=>cond (EJ q s) (over false s) (cond (XZ m q s)
  (cond (FI m q (C7 s.left)) (cond (ic (s.left.length - 1)==0) (K true (D5 m q s)) (K false (D5 m q s)))
   (cond (F9 m q (C7 s.left).low (C7 s.left).s4.hi) (K false (D5 m q s))
    (cond (DF m q (C7 s.left)).isSome (K false (D5 m q s)) (K false (D5 m q s))))) none)
 | true=>cond (EJ q s) (over true s) none
def L5 (sh:Bool) (s:Sr):Sr:=match sh with | false=>HZ s | true=>R6 s
@[reducible] def UT (sh:Bool) (s:Sr) (X:CU):CU:=match sh with | false=>X | true=>cond (BI s.v.proof.length 100000) X none
theorem Mi (x:IV):YM x x=true:=by unfold YM; simp
theorem oL:∀ (l:LI),HX l l=true
 | []=>rfl
 | x :: l=>by simp only [HX,Mi,oL l,BE]
theorem eO (v:Vd):R9 v v=true:=by unfold R9; simp [oL]
theorem cH {m:Md} {q:Qy} {s:Sr} (h:EJ q s=true):∀ d,FL m q d s=s
 | 0=>rfl
 | d+1=>by rw [FL,h,CP]
theorem qU (m:Md) (q:Qy) (s:Sr):(D5 m q s).spent=s.spent+1:=by
 unfold D5;cases FI m _ _ <;> cases F9 m _ _ _ <;> cases (DF m _ _).isSome <;> rfl
theorem oI (m:Md) (q:Qy):∀ (d:Nat) (s:Sr),q.bu < s.spent+d→FL m q d s=FL m q (d+1) s
 | 0,s,h=>by
  have ho:EJ q s=true:=by
   unfold EJ;rw [AE (show s.spent≥q.bu by omega)];simp
  rw [cH ho,cH ho]
 | d+1,s,h=>by
  rw [FL,FL];cases EJ q s with
  | true=>rfl
  | false=>
   rw [CS,CS];exact oI m q d (D5 m q s) (by rw [qU]; omega)
structure Jn (m:Md) (q:Qy) (sh:Bool) (s fin:Sr):Prop where
 inv:SrInv q sh s
 right:EI m q=true
 run:∀ d:Nat,q.bu < s.spent+d→FL m q d s=fin
theorem PT {m:Md} {q:Qy} {sh:Bool} {s fin:Sr} (h:Jn m q sh s fin):L5 sh s=s:=by
 cases sh with
 | false=>exact R7 (h.inv.own rfl)
 | true=>exact eD s
theorem Bf {m:Md} {q:Qy} (hr:EI m q=true):Jn m q false ⟨[(II q).I],[],Vd.none,0⟩ (FL m q (q.bu.toNat+1) (NY m q)):=by
 refine ⟨bW hr,hr,fun d hd=>?_⟩;have h0:=(RX hr).2.2.1.1;have e:NY m q=⟨[(II q).I],[],Vd.none,0⟩:=by unfold NY; rw [hr,CP]
 rw [e];replace hd:q.bu < 0+(d:Int):=hd;obtain ⟨j,rfl⟩:∃ j,d=q.bu.toNat+1+j:=⟨d - (q.bu.toNat+1),by omega⟩;clear hd
 induction j with
 | zero=>rfl
 | succ j ih=>rw [← ih]; exact (oI m q _ _ (by show q.bu < 0+((q.bu.toNat+1+j:Nat):Int); omega)).symm
theorem Bg {m:Md} {q:Qy} {sh:Bool} {s fin:Sr} (h:Jn m q sh s fin) (X:Bool→Sr→CU) :
  ∃ sh' s',Jn m q sh' s' fin∧IJ m q sh (L5 sh s) X X=X sh' s'∧((EJ q s=true∧s'=s)∨(EJ q s=false∧s'.spent=s.spent+1)):=by
 rw [PT h];cases ho:EJ q s with
 | true=>
  refine ⟨sh,s,h,?_,.inl ⟨rfl,rfl⟩⟩;cases sh <;> simp only [IJ] <;> rw [ho,CP]
 | false=>
  cases sh with
  | true=>
   unfold EJ at ho;rw [vaE] at ho
   have:=h.inv.shut rfl
   simp at ho;exact absurd ho.1 this
  | false=>
   have hk0:s.v.kind=0:=by
    unfold EJ at ho;rw [vaE] at ho;simpa using ho.1
   obtain ⟨hi',hs'⟩:=h.inv.step (m:=m) ho;refine ⟨_,D5 m q s,⟨hi',h.right,fun d hd=>?_⟩,?_,.inr ⟨rfl,hs'⟩⟩
   ·have:=h.run (d+1) (by rw [hs'] at hd; omega)
    rw [FL,ho,CS] at this;exact this
   ·simp only [IJ];rw [ho,CS,mI h.right h.inv hk0,CP];cases FI m q (C7 s.left) with
    | true=>
     rw [CP,BH];cases (ic (s.left.length - 1)==0) <;> rfl
    | false=>
     rw [CS,BY];cases F9 m q (C7 s.left).low (C7 s.left).s4.hi with
     | true=>rfl
     | false=>cases (DF m q (C7 s.left)).isSome <;> rfl
open Go Go.Proofs
theorem Jw:C5 PR B0 36 SR:=by
 refine DC [(40,ML)] [] SR [[.z,.z,.z,.z,.z,.list true [.z,.list false [.int .u64]]]] Tryz.func36 yO ⟨dU,trivial⟩ ?_;intro vs r hwf h;unfold SR at h;split at h
 ·skip
  rw [R.get_ok] at h;refine ⟨0,(Ct 0).trans ?_⟩;rw [← h];rfl
 ·simp [R.get] at h
theorem Jz:C5 PR B0 14 SU:=by
 refine DC [(36,SR),(10,O4)] [] SU [[.bool]] Tryz.func14 yS ⟨Jw,pB,trivial⟩ ?_;intro vs r hwf h;unfold SU at h;split at h
 ·skip
  rw [R.get_ok] at h;refine ⟨0,(Cx 0).trans ?_⟩;rw [← h]
 ·simp [R.get] at h
open Go Go.Proofs
def FC (N:Nat):Env:=DB [(7,JO),(18,MH),(40,ML)] [(4,⟨[1,2,4,5,6,7],[2,500,501],[⟨.tmp 5,500,89,true,[.bool,.z,.z,.z,.z,.z]⟩,⟨.tmp 6,501,3,false,[.z]⟩]⟩),(14,⟨[4,11,100,101,102],[500,502],[⟨.tmp 11,502,91,false,[.int .u64]⟩]⟩)] 113 N
abbrev QJ (x1:Int) (n5 n6:Nat) (x7 u06:Int) (u00 u01 u02 u03 u04 u05:LI):St:=⟨[(1,(.i x1)),(2,(.ptr 2 0 0)),(4,.zs),(5,(.row 500 0 n5)),(6,(.row 501 0 n6)),(7,(.i x7))],[(2,(some (.box [.i u06,.list false [.z] u00,.list false [.z] u01,.list false [.z] u02,.list false [.z] u03]))),(500,(some (.row true 89 true [.bool,.z,.z,.z,.z,.z] u04))),(501,(some (.row true 3 false [.z] u05)))]⟩
abbrev SG (n11 n100:Nat) (x101 x102:Int) (u00 u01:LI):St:=⟨[(4,.zs),(11,(.row 502 0 n11)),(100,(.row 500 0 n100)),(101,(.i x101)),(102,(.i x102))],[(500,(some (.row true 89 true [.bool,.z,.z,.z,.z,.z] u00))),(502,(some (.row true 91 false [.int .u64] u01)))]⟩
theorem Cu (N:Nat) (u00:Int) (u01 t_By t_At u02:LI) (a1:Int):C6 (FC N) IP [.tmp 4] [[.list false [.int .u64]]] [.agg [.i u00,.list false [.z] u01,.list false [.z] t_By,.list false [.z] t_At,.list false [.z] u02],.i a1]=(C4 (FC N) (CR IP [1,1,1,0,1,0,0]) ⟨[1,2,4,5,6,7],[2,500,501],[⟨(.tmp 5),500,89,true,[.bool,.z,.z,.z,.z,.z]⟩,⟨(.tmp 6),501,3,false,[.z]⟩]⟩ N (QJ a1 1 1 0 u00 u01 t_By t_At u02 [(IV.agg [IV.bool true,IV.int (CX (D3 u02 0) (-3000) 3000),IV.int 0,IV.int 0,IV.int 0,IV.int 0])] [(IV.int 0)]) (CY 0 (C0 (FC N) (CR IP [1,1,1,1]) (C1 (FC N) none [.tmp 4] [[.list false [.int .u64]]])))):=by kernel_rfl
theorem pT (N:Nat) (x1:Int) (n5 n6:Nat) (x7 u06:Int) (u00 u01 u02 u03 u04 u05:LI) (again:St→CU) (k:Out→St→CU):D9 (FC N) (CR IP [1,1,1,0,1,0,0]) (QJ x1 n5 n6 x7 u06 u00 u01 u02 u03 u04 u05) (D4 again ⟨[1,2,4,5,6,7],[2,500,501],[⟨(.tmp 5),500,89,true,[.bool,.z,.z,.z,.z,.z]⟩,⟨(.tmp 6),501,3,false,[.z]⟩]⟩ k)=(cond (decide (x7 < ic (AF u00))) (cond (decide (x7 < 7)) (cond (decide (0≤x7)&&decide (x7 < ic (AF u00))) (cond (decide (JK 0 (AA AC (ic (n6 - 0) - 1))=0)) none (cond (decide (0≤CX (IV.toInt (AG u00 (AD x7) default)) 0 (AA AC (ic (n6 - 0) - 1)))&&decide (CX (IV.toInt (AG u00 (AD x7) default)) 0 (AA AC (ic (n6 - 0) - 1)) < ic (n6 - 0))) (cond (decide (0≤x7)) (cond (decide (JK 0 (AA AC (x1 - 1))=0)) none (cond (decide (0≤x7)) (cond (decide (0≤IV.toInt (AG u05 (0+AD (CX (IV.toInt (AG u00 (AD x7) default)) 0 (AA AC (ic (n6 - 0) - 1)))) default))&&decide (IV.toInt (AG u05 (0+AD (CX (IV.toInt (AG u00 (AD x7) default)) 0 (AA AC (ic (n6 - 0) - 1)))) default) < ic (n5 - 0))) (cond (decide (0≤AA AC (AA AC (2*x7)+1))) (cond (decide (0≤AA AC (AA AC (2*x7)+2))) (cond (decide ((n5+AF (B5 0 (AU 2 [IV.agg [IV.bool true,IV.int (CX (D3 u03 (AA AC (AA AC (2*x7)+1))) (-3000) 3000),IV.int 0,IV.int 0,IV.int 0,IV.int 0],IV.agg [IV.bool true,IV.int (CX (D3 u03 (AA AC (AA AC (2*x7)+2))) (-3000) 3000),IV.int 0,IV.int 0,IV.int 0,IV.int 0]])))*TI.bytes (Env.tyd (FC N) 89)≤DJ)) (cond (decide (0≤CX (IV.toInt (AG u00 (AD x7) default)) 0 (AA AC (ic (n6 - 0) - 1)))&&decide (CX (IV.toInt (AG u00 (AD x7) default)) 0 (AA AC (ic (n6 - 0) - 1))≤ic (n6 - 0))) (cond (decide ((0+AF (B5 0 (AU (0+AD (CX (IV.toInt (AG u00 (AD x7) default)) 0 (AA AC (ic (n6 - 0) - 1)))) u05)))*TI.bytes (Env.tyd (FC N) 3)≤DJ)) (cond (decide (0≤AA AC (CX (IV.toInt (AG u00 (AD x7) default)) 0 (AA AC (ic (n6 - 0) - 1))+1))&&decide (AA AC (CX (IV.toInt (AG u00 (AD x7) default)) 0 (AA AC (ic (n6 - 0) - 1))+1)≤ic (n6 - 0))) (cond (decide ((0+AF (B5 0 (AU (0+AD (CX (IV.toInt (AG u00 (AD x7) default)) 0 (AA AC (ic (n6 - 0) - 1)))) u05))+AF (B5 (0+AD (AA AC (CX (IV.toInt (AG u00 (AD x7) default)) 0 (AA AC (ic (n6 - 0) - 1))+1))) (AU (0+(n6 - 0)) u05)))*TI.bytes (Env.tyd (FC N) 3)≤DJ)) (cond (decide ((0+AF (B5 0 (AU (0+AD (CX (IV.toInt (AG u00 (AD x7) default)) 0 (AA AC (ic (n6 - 0) - 1)))) u05))+AF (B5 (0+AD (AA AC (CX (IV.toInt (AG u00 (AD x7) default)) 0 (AA AC (ic (n6 - 0) - 1))+1))) (AU (0+(n6 - 0)) u05))+AF (B5 0 (AU 2 [IV.int (ic (n5 - 0)),IV.int (AA AC (ic (n5 - 0)+1))])))*TI.bytes (Env.tyd (FC N) 3)≤DJ)) (again (QJ x1 (n5+AF (B5 0 (AU 2 [IV.agg [IV.bool true,IV.int (CX (D3 u03 (AA AC (AA AC (2*x7)+1))) (-3000) 3000),IV.int 0,IV.int 0,IV.int 0,IV.int 0],IV.agg [IV.bool true,IV.int (CX (D3 u03 (AA AC (AA AC (2*x7)+2))) (-3000) 3000),IV.int 0,IV.int 0,IV.int 0,IV.int 0]]))) (0+AF (B5 0 (AU (0+AD (CX (IV.toInt (AG u00 (AD x7) default)) 0 (AA AC (ic (n6 - 0) - 1)))) u05))+AF (B5 (0+AD (AA AC (CX (IV.toInt (AG u00 (AD x7) default)) 0 (AA AC (ic (n6 - 0) - 1))+1))) (AU (0+(n6 - 0)) u05))+AF (B5 0 (AU 2 [IV.int (ic (n5 - 0)),IV.int (AA AC (ic (n5 - 0)+1))]))) (AA AC (x7+1)) u06 u00 u01 u02 u03 (AU n5 (vaH u04 (0+AD (IV.toInt (AG u05 (0+AD (CX (IV.toInt (AG u00 (AD x7) default)) 0 (AA AC (ic (n6 - 0) - 1)))) default))) (HO true [Kd.bool,Kd.int AC,Kd.int AC,Kd.int AC,Kd.int AC,Kd.int AC] (AG u04 (0+AD (IV.toInt (AG u05 (0+AD (CX (IV.toInt (AG u00 (AD x7) default)) 0 (AA AC (ic (n6 - 0) - 1)))) default))) default) 0 [IV.bool false,IV.int 0,IV.int (CX (D3 u01 x7) 0 (AA AC (x1 - 1))),IV.int (CX (D3 u02 x7) 0 9),IV.int (ic (n5 - 0)),IV.int (AA AC (ic (n5 - 0)+1))]))++B5 0 (AU 2 [IV.agg [IV.bool true,IV.int (CX (D3 u03 (AA AC (AA AC (2*x7)+1))) (-3000) 3000),IV.int 0,IV.int 0,IV.int 0,IV.int 0],IV.agg [IV.bool true,IV.int (CX (D3 u03 (AA AC (AA AC (2*x7)+2))) (-3000) 3000),IV.int 0,IV.int 0,IV.int 0,IV.int 0]])) (AU (0+AF (B5 0 (AU (0+AD (CX (IV.toInt (AG u00 (AD x7) default)) 0 (AA AC (ic (n6 - 0) - 1)))) u05))+AF (B5 (0+AD (AA AC (CX (IV.toInt (AG u00 (AD x7) default)) 0 (AA AC (ic (n6 - 0) - 1))+1))) (AU (0+(n6 - 0)) u05))) (AU (0+AF (B5 0 (AU (0+AD (CX (IV.toInt (AG u00 (AD x7) default)) 0 (AA AC (ic (n6 - 0) - 1)))) u05))) (AU 0 []++B5 0 (AU (0+AD (CX (IV.toInt (AG u00 (AD x7) default)) 0 (AA AC (ic (n6 - 0) - 1)))) u05))++B5 (0+AD (AA AC (CX (IV.toInt (AG u00 (AD x7) default)) 0 (AA AC (ic (n6 - 0) - 1))+1))) (AU (0+(n6 - 0)) u05))++B5 0 (AU 2 [IV.int (ic (n5 - 0)),IV.int (AA AC (ic (n5 - 0)+1))])))) none) none) none) none) none) none) none) none) none) none)) none) none)) none) (k (.exit 0) (QJ x1 n5 n6 x7 u06 u00 u01 u02 u03 u04 u05))) (k (.exit 0) (QJ x1 n5 n6 x7 u06 u00 u01 u02 u03 u04 u05))):=by kernel_rfl
theorem v7 (N:Nat) (x1:Int) (n5 n6:Nat) (x7 u06:Int) (u00 u01 u02 u03 u04 u05:LI):(CY 0 (C0 (FC N) (CR IP [1,1,1,1]) (C1 (FC N) none [.tmp 4] [[.list false [.int .u64]]]))) (.exit 0) (QJ x1 n5 n6 x7 u06 u00 u01 u02 u03 u04 u05)=(C4 (FC N) (CR IP [1,1,1,1,1,0,1,0,0]) ⟨[4,11,100,101,102],[500,502],[⟨(.tmp 11),502,91,false,[.int .u64]⟩]⟩ N (SG 0 n5 (ic (n5 - 0)) 0 u04 []) (CY 2 (C0 (FC N) (CR IP [1,1,1,1,1,1]) (C1 (FC N) none [.tmp 4] [[.list false [.int .u64]]])))):=by kernel_rfl
theorem pU (N n11 n100:Nat) (x101 x102:Int) (u00 u01:LI) (again:St→CU) (k:Out→St→CU):D9 (FC N) (CR IP [1,1,1,1,1,0,1,0,0]) (SG n11 n100 x101 x102 u00 u01) (D4 again ⟨[4,11,100,101,102],[500,502],[⟨(.tmp 11),502,91,false,[.int .u64]⟩]⟩ k)=(cond (decide (x102 < x101)) (cond (decide (0≤x102)&&decide (x102 < ic (n100 - 0))) (cond (decide ((n11+AF (B5 0 (AU 1 [IV.int (G9 (IV.toBool (IV.cell (AG u00 (0+AD x102) default) 0)) (IV.toInt (IV.cell (AG u00 (0+AD x102) default) 1)) (IV.toInt (IV.cell (AG u00 (0+AD x102) default) 2)) (IV.toInt (IV.cell (AG u00 (0+AD x102) default) 3)) (IV.toInt (IV.cell (AG u00 (0+AD x102) default) 4)) (IV.toInt (IV.cell (AG u00 (0+AD x102) default) 5)))])))*TI.bytes (Env.tyd (FC N) 91)≤DJ)) (again (SG (n11+AF (B5 0 (AU 1 [IV.int (G9 (IV.toBool (IV.cell (AG u00 (0+AD x102) default) 0)) (IV.toInt (IV.cell (AG u00 (0+AD x102) default) 1)) (IV.toInt (IV.cell (AG u00 (0+AD x102) default) 2)) (IV.toInt (IV.cell (AG u00 (0+AD x102) default) 3)) (IV.toInt (IV.cell (AG u00 (0+AD x102) default) 4)) (IV.toInt (IV.cell (AG u00 (0+AD x102) default) 5)))]))) n100 x101 (AA AC (x102+1)) u00 (AU n11 u01++B5 0 (AU 1 [IV.int (G9 (IV.toBool (IV.cell (AG u00 (0+AD x102) default) 0)) (IV.toInt (IV.cell (AG u00 (0+AD x102) default) 1)) (IV.toInt (IV.cell (AG u00 (0+AD x102) default) 2)) (IV.toInt (IV.cell (AG u00 (0+AD x102) default) 3)) (IV.toInt (IV.cell (AG u00 (0+AD x102) default) 4)) (IV.toInt (IV.cell (AG u00 (0+AD x102) default) 5)))])))) none) none) (k (.exit 2) (SG n11 n100 x101 x102 u00 u01))):=by kernel_rfl
theorem v8 (N n11 n100:Nat) (x101 x102:Int) (u00 u01:LI):(CY 2 (C0 (FC N) (CR IP [1,1,1,1,1,1]) (C1 (FC N) none [.tmp 4] [[.list false [.int .u64]]]))) (.exit 2) (SG n11 n100 x101 x102 u00 u01)=(some ((.list false [.int .u64] (B5 0 (AU n11 u01))),[])):=by kernel_rfl
open Go Go.Proofs
structure Ns.At (i:Nat) (s:Ns):Prop where
 nl:s.nodes.length=2*i+1
 ll:s.leaves.length=i+1
 lt:∀ x∈s.leaves,0≤x.toInt∧x.toInt < (2*i+1:Nat)
theorem bZ {part:LI} {i:Nat} {s:Ns} (h:s.At i) (hi:i≤100):0≤GB part i s∧GB part i s < ((i+1:Nat):Int)∧JK 0 (ic s.leaves.length - 1)=((i+1:Nat):Int):=by
 have e:ic s.leaves.length=((i+1:Nat):Int):=by rw [h.ll]
 obtain ⟨m,a,b⟩:=I3 (n:=(part.getD i default).toInt) (lo:=0) (hi:=ic s.leaves.length - 1) (by rw [e]; omega) (by omega) (by rw [e]; omega);unfold GB;rw [e] at a b m ⊢;exact ⟨a,by omega,by rw [m]; omega⟩
theorem Gc {part:LI} {i:Nat} {s:Ns} (h:s.At i) (hi:i≤100):0≤NZ part i s∧NZ part i s < (2*i+1:Nat):=by
 obtain ⟨k0,k1,_⟩:=bZ (part:=part) h hi;have hk:(GB part i s).toNat < s.leaves.length:=by rw [h.ll]; omega
 have e:s.leaves.getD (GB part i s).toNat default=s.leaves[(GB part i s).toNat]:=by simp [hk]
 unfold NZ;rw [e];exact h.lt _ (List.getElem_mem hk)
theorem Ns.At.step {part byl atl val:LI} {dim:Int} {i:Nat} {s:Ns} (h:s.At i) (hi:i≤100):(IG part byl atl val dim i s).At (i+1):=by
 obtain ⟨k0,k1,_⟩:=bZ (part:=part) h hi;refine ⟨?_,?_,?_⟩
 ·simp only [IG,AQ,vas,AT,B8,h.nl];omega
 ·simp only [IG,AQ,A1,vaf,AT,B8,h.ll];omega
 ·intro x hx;simp only [IG,AW] at hx;rcases hx with (hx | hx) | hx
  ·have:=h.lt x (List.mem_of_mem_take hx)
   omega
  ·have:=h.lt x (List.mem_of_mem_drop hx)
   omega
  ·simp only [AR,List.not_mem_nil,or_false] at hx;rcases hx with rfl | rfl
   ·simp only [IV.toInt,ic,h.nl]; omega
   ·simp only [IV.toInt,ic,h.nl]; omega
abbrev kN:List Kd:=[.bool,.z,.z,.z,.z,.z]
abbrev a7:KP:=⟨[1,2,4,5,6,7],[2,500,501],[⟨(.tmp 5),500,89,true,[.bool,.z,.z,.z,.z,.z]⟩,⟨(.tmp 6),501,3,false,[.z]⟩]⟩
abbrev VU (cl:Int) (part byl atl val:LI) (dim:Int) (s:Ns) (i:Int):St:=
 ⟨[(1,(.int .i64 dim)),(2,(.ptr 2 0 0)),(4,.zs),(5,(.row 500 0 s.nodes.length)),(6,(.row 501 0 s.leaves.length)),(7,(.int .i64 i))],[(2,(some (.box [(.int .i64 cl),(.list false [.z] part),(.list false [.z] byl),(.list false [.z] atl),(.list false [.z] val)]))),(500,(some (.row true 89 true kN s.nodes))),(501,(some (.row true 3 false [.z] s.leaves)))]⟩
theorem Fw (N:Nat):TI.bytes (Env.tyd (FC N) 89)=48:=by rfl
theorem Ba (N:Nat):TI.bytes (Env.tyd (FC N) 3)=8:=by rfl
theorem Hw (x a b c d e f:IV):HO true kN x 0 [a,b,c,d,e,f] = .agg [a,b,c,d,e,f]:=rfl
set_option maxHeartbeats 4000000 in
theorem Fy (N:Nat) (cl:Int) (part byl atl val:LI) (dim:Int) (h1:1≤dim) (h4:dim≤4) (s:Ns) (i:Nat) (hs:s.At i) (hi:i < part.length) (h7:i < 7) (again:St→CU) (k:Out→St→CU) :
  D9 (FC N) (CR IP [1,1,1,0,1,0,0]) (VU cl part byl atl val dim s (i:Int)) (D4 again a7 k)=again (VU cl part byl atl val dim (IG part byl atl val dim i s) ((i+1:Nat):Int)):=by
 refine (pT N dim s.nodes.length s.leaves.length i cl part byl atl val s.nodes s.leaves again k).trans ?_;obtain ⟨k0,k1,km⟩:=bZ (part:=part) hs (by omega);obtain ⟨a0,a1⟩:=Gc (part:=part) hs (by omega);obtain ⟨dm,_,_⟩:=I3 (n:=0) (lo:=0) (hi:=dim - 1) (by omega) (by omega) (by omega);have eL:ic (s.leaves.length - 0)=ic s.leaves.length:=rfl;have eN:ic (s.nodes.length - 0)=ic s.nodes.length:=rfl;have hL:ic s.leaves.length=((i+1:Nat):Int):=by rw [hs.ll]
 have hN:ic s.nodes.length=((2*i+1:Nat):Int):=by rw [hs.nl]
 have w1:IntKind.wrap IntKind.i64 (ic s.leaves.length - 1)=ic s.leaves.length - 1:=DV (by rw [hL]; omega) (by rw [hL]; omega);have w2:IntKind.wrap IntKind.i64 (dim - 1)=dim - 1:=DV (by omega) (by omega);have w3:IntKind.wrap IntKind.i64 (2*(i:Int))=2*(i:Int):=DV (by omega) (by omega);have w4:IntKind.wrap IntKind.i64 (2*(i:Int)+1)=2*(i:Int)+1:=DV (by omega) (by omega);have w5:IntKind.wrap IntKind.i64 (2*(i:Int)+2)=2*(i:Int)+2:=DV (by omega) (by omega);have w6:IntKind.wrap IntKind.i64 (ic s.nodes.length+1)=ic s.nodes.length+1:=DV (by rw [hN]; omega) (by rw [hN]; omega);rw [eL,eN,w1,w2,w3,w4,w5,w6,Int.toNat_natCast];have eK:CX (IV.toInt (List.getD part i default)) 0 (ic s.leaves.length - 1)=GB part i s:=rfl;rw [eK];have w7:IntKind.wrap IntKind.i64 (GB part i s+1)=GB part i s+1:=DV (by omega) (by omega);rw [w7];have e0:∀ n:Nat,0+n=n:=Nat.zero_add;simp only [e0];have eA:IV.toInt (List.getD s.leaves (GB part i s).toNat default)=NZ part i s:=rfl;rw [eA,Fw,Ba];obtain ⟨q,hq⟩:∃ q:Nat,GB part i s=q:=⟨(GB part i s).toNat,by omega⟩;have eq1:(GB part i s+1).toNat=q+1:=by omega
 have eq0:(GB part i s).toNat=q:=by omega
 have hq1:q < i+1:=by omega
 have lt2:∀ x y:IV,(List.drop 0 (List.take 2 [x,y]))=[x,y]:=fun _ _=>rfl
 have lk:List.drop 0 (List.take q s.leaves)=List.take q s.leaves:=List.drop_zero;have lk2:List.drop (q+1) (List.take (s.leaves.length - 0) s.leaves)=List.drop (q+1) s.leaves:=by rw [Nat.sub_zero,List.take_length]
 rw [eq1,eq0,lt2,lt2,lk,lk2];have zA:(List.take q s.leaves).length=q:=by rw [List.length_take,hs.ll]; omega
 have zB:(List.drop (q+1) s.leaves).length=i - q:=by rw [List.length_drop,hs.ll]; omega
 rw [zA,zB];simp only [List.length_cons,List.length_nil];rw [decide_eq_true (show (i:Int) < ic part.length by simp only [ic]; omega),decide_eq_true (show (i:Int) < 7 by omega),decide_eq_true (show 0≤(i:Int) by omega),km,decide_eq_false (show ¬ ((i+1:Nat):Int)=0 by omega),
  decide_eq_true k0,decide_eq_true (show GB part i s < ic s.leaves.length by rw [hL]; exact k1),dm,decide_eq_false (show ¬ (dim - 1 - 0+1=0) by omega),decide_eq_true a0,decide_eq_true (show NZ part i s < ic s.nodes.length by rw [hN]; exact a1),
  decide_eq_true (show 0≤2*(i:Int)+1 by omega),decide_eq_true (show 0≤2*(i:Int)+2 by omega),decide_eq_true (show (s.nodes.length+(0+1+1))*48≤DJ by rw [hs.nl]; unfold DJ; omega),
  decide_eq_true (show GB part i s≤ic s.leaves.length by rw [hL]; omega),decide_eq_true (show q*8≤DJ by unfold DJ; omega),decide_eq_true (show 0≤GB part i s+1 by omega),decide_eq_true (show GB part i s+1≤ic s.leaves.length by rw [hL]; omega),
  decide_eq_true (show (q+(i - q))*8≤DJ by unfold DJ; omega),decide_eq_true (show (q+(i - q)+(0+1+1))*8≤DJ by unfold DJ; omega)]
 simp only [Bool.and_true,CP,CS];have g1:(IG part byl atl val dim i s).nodes.length=s.nodes.length+(0+1+1):=by rw [(hs.step (by omega)).nl,hs.nl]; omega
 have g2:(IG part byl atl val dim i s).leaves.length=q+(i - q)+(0+1+1):=by rw [(hs.step (by omega)).ll]; omega
 have g3:(IG part byl atl val dim i s).nodes=List.take s.nodes.length (List.set s.nodes (NZ part i s).toNat (HO true kN (List.getD s.nodes (NZ part i s).toNat default) 0 [IV.bool false,IV.int 0,IV.int (CX (D3 byl (i:Int)) 0 (dim - 1)),IV.int (CX (D3 atl (i:Int)) 0 9),IV.int (ic s.nodes.length),IV.int (ic s.nodes.length+1)])) ++
   [IV.agg [IV.bool true,IV.int (CX (D3 val (2*(i:Int)+1)) (-3000) 3000),IV.int 0,IV.int 0,IV.int 0,IV.int 0],IV.agg [IV.bool true,IV.int (CX (D3 val (2*(i:Int)+2)) (-3000) 3000),IV.int 0,IV.int 0,IV.int 0,IV.int 0]]:=by
  rw [Hw,List.take_of_length_le (by rw [List.length_set]; exact Nat.le_refl _)];rfl
 have g4:(IG part byl atl val dim i s).leaves=List.take (q+(i - q)) (List.take q (List.take 0 []++List.take q s.leaves)++List.drop (q+1) s.leaves)++[IV.int (ic s.nodes.length),IV.int (ic s.nodes.length+1)]:=by
  rw [List.take_zero,List.nil_append,List.take_take,Nat.min_self,List.take_of_length_le (by rw [List.length_append,zA,zB]; exact Nat.le_refl _)];show List.take (GB part i s).toNat s.leaves++List.drop ((GB part i s).toNat+1) s.leaves++_=_;rw [eq0]
 rw [show VU cl part byl atl val dim (IG part byl atl val dim i s) ((i+1:Nat):Int)=⟨[(1,(.int .i64 dim)),(2,(.ptr 2 0 0)),(4,.zs),(5,(.row 500 0 (IG part byl atl val dim i s).nodes.length)),(6,(.row 501 0 (IG part byl atl val dim i s).leaves.length)),(7,(.int .i64 ((i+1:Nat):Int)))],[(2,(some (.box [(.int .i64 cl),(.list false [.z] part),(.list false [.z] byl),(.list false [.z] atl),(.list false [.z] val)]))),(500,(some (.row true 89 true kN (IG part byl atl val dim i s).nodes))),(501,(some (.row true 3 false [.z] (IG part byl atl val dim i s).leaves)))]⟩ from rfl,g1,g2,g3,g4,FN (by omega)]
theorem mF (N:Nat) (cl:Int) (part byl atl val:LI) (dim:Int) (h1:1≤dim) (h4:dim≤4) (K:Out→St→CU):∀ (d i n:Nat) (s:Ns),i+d=min part.length 7→d < n→s.At i →
  (∃ j,C4 (FC N) (CR IP [1,1,1,0,1,0,0]) a7 n (VU cl part byl atl val dim s (i:Int)) K=K (.exit 0) (VU cl part byl atl val dim (VD part byl atl val dim d i s) j))∧(VD part byl atl val dim d i s).At (i+d)
 | 0,i,n+1,s,hd,hn,hs=>by
  refine ⟨⟨(i:Int),?_⟩,hs⟩;rw [DD];refine (pT N dim s.nodes.length s.leaves.length i cl part byl atl val s.nodes s.leaves _ _).trans ?_;by_cases hp:i < part.length
  ·rw [AE (show (i:Int) < ic part.length by simp only [ic]; omega),CP,AM (show ¬ (i:Int) < 7 by omega),CS];rfl
  ·rw [AM (show ¬ (i:Int) < ic part.length by simp only [ic]; omega),CS];rfl
 | d+1,i,n+1,s,hd,hn,hs=>by
  obtain ⟨⟨j,ih⟩,ih2⟩:=mF N cl part byl atl val dim h1 h4 K d (i+1) n (IG part byl atl val dim i s) (by omega) (by omega) (hs.step (by omega));refine ⟨⟨j,?_⟩,by rw [show i+(d+1)=i+1+d by omega]; exact ih2⟩;rw [DD,Fy N cl part byl atl val dim h1 h4 s i hs (by omega) (by omega)];exact ih
 | _,_,0,_,_,h,_=>by omega
theorem Ng (N:Nat):TI.bytes (Env.tyd (FC N) 91)=8:=by rfl
abbrev lB:KP:=⟨[4,11,100,101,102],[500,502],[⟨(.tmp 11),502,91,false,[(.int .u64)]⟩]⟩
theorem mQ (N:Nat) (L:LI) (hL:L.length≤1000):∀ (d i n:Nat) (O:LI),i+d=L.length→d < n→O.length=i →
  C4 (FC N) (CR IP [1,1,1,1,1,0,1,0,0]) lB n ⟨[(4,.zs),(11,(.row 502 0 O.length)),(100,(.row 500 0 L.length)),(101,(.int .i64 (ic (L.length - 0)))),(102,(.int .i64 (i:Int)))],[(500,(some (.row true 89 true kN L))),(502,(some (.row true 91 false [(.int .u64)] O)))]⟩
   (CY 2 (C0 (FC N) (CR IP [1,1,1,1,1,1]) (C1 (FC N) none [(BD 4)] [[(.list false [(.int .u64)])]])))=some (.list false [.int .u64] (O++(L.drop i).map cP),[])
 | 0,i,n+1,O,hd,hn,hO=>by
  rw [DD];refine (pU N O.length L.length (ic (L.length - 0)) i L O _ _).trans ?_;rw [AM (show ¬ (i:Int) < ic (L.length - 0) by simp only [ic]; omega),CS];refine (v8 N O.length L.length (ic (L.length - 0)) i L O).trans ?_;rw [CC,A9,List.drop_of_length_le (by omega),vab,List.append_nil]
 | d+1,i,n+1,O,hd,hn,hO=>by
  have hi:i < L.length:=by omega
  rw [DD];refine (pU N O.length L.length (ic (L.length - 0)) i L O _ _).trans ?_;have ih:=mQ N L hL d (i+1) n (O++[cP L[i]]) (by omega) (by omega) (by simp [hO]);have l1:∀ x:IV,B5 0 (AU 1 [x])=[x]:=fun _=>rfl
  have eg:AG L (0+AD (i:Int)) default=L[i]:=by rw [A0,BL]; simp [hi]
  rw [AE (show (i:Int) < ic (L.length - 0) by simp only [ic]; omega),AE (show 0≤(i:Int) by omega),vaI,CP,CP,eg,l1,Ng,CK,AE (show (O.length+1)*8≤DJ by rw [hO]; unfold DJ; omega),CP,A9,FN (by omega)];rw [BC hi,A6];rw [AQ,CK,List.append_assoc] at ih;exact ih
 | _,_,0,_,_,h,_=>by omega
theorem Jx:C5 PR B0 19 SS:=by
 refine DC [(7,JO),(18,MH),(40,ML)] [(4,a7),(14,lB)] SS [[.list false [.int .u64]]] Tryz.func19 yP
  ⟨VS,dQ,dU,trivial⟩ ?_
 intro vs r hwf h;unfold SS at h;split at h
 ·rename_i cl part byl atl val dim;cases hc:(decide (1≤dim)&&decide (dim≤4)) with
  | false=>rw [hc] at h; simp [R.get] at h
  | true=>
   rw [hc,R.get_br,CP,R.get_ok] at h;simp only [AI,AO] at hc;refine ⟨30,?_⟩;rw [← h];refine (Cu 30 cl part byl atl val dim).trans ?_;have h0:(⟨[U0 (CX (D3 val 0) (-3000) 3000)],[.int 0]⟩:Ns).At 0:=⟨rfl,rfl,fun x hx=>by
    rw [vaz] at hx;subst hx;exact ⟨by decide,by decide⟩⟩
   obtain ⟨⟨j,run⟩,hat⟩:=mF 30 cl part byl atl val dim hc.1 hc.2 (CY 0 (C0 (FC 30) (CR IP [1,1,1,1]) (C1 (FC 30) none [(BD 4)] [[(.list false [(.int .u64)])]]))) (min part.length 7) 0 30 _ (by omega) (by omega) h0;refine run.trans ?_;have e:VD part byl atl val dim (min part.length 7) 0 ⟨[U0 (CX (D3 val 0) (-3000) 3000)],[.int 0]⟩=N0 part byl atl val dim:=rfl;rw [e] at hat ⊢;have hn:=hat.nl;refine (v7 30 dim (N0 part byl atl val dim).nodes.length (N0 part byl atl val dim).leaves.length j cl part byl atl val (N0 part byl atl val dim).nodes (N0 part byl atl val dim).leaves).trans ?_
   have:=mQ 30 (N0 part byl atl val dim).nodes (by omega) (N0 part byl atl val dim).nodes.length 0 30 [] (by omega) (by omega) rfl
   rw [CC,List.nil_append] at this;exact this
 ·simp [R.get] at h
open Go Go.Proofs
def GI (N:Nat):Env:=DB [(7,JO),(19,SS),(18,MH)] [(3,⟨[1,2,3,14,15],[1,2,3],[]⟩),(8,⟨[1,2,3,5],[1,2,3,500],[⟨.cell 3 5,500,65,true,[.z,.list false [.int .u64]]⟩]⟩)] 63 N
abbrev OI (x14 x15 u02 u03:Int) (u00 u01:LI) (u04 u05 u06 u07 u08 u09 u0a u0b u0c u0d:Int):St:=⟨[(1,(.ptr 1 0 0)),(2,(.ptr 2 0 0)),(3,(.ptr 3 0 0)),(14,(.i x14)),(15,(.i x15))],[(1,(some (.box [.i u02,.i u03,.list false [.z] u00,.list true [.z,.list false [.z],.list false [.z],.list false [.z],.list false [.z]] u01]))),(2,(some (.box [.i u04,.i u05,.i u06,.i u07,.i u08,.zs]))),(3,(some (.box [.i u09,.i u0a,.i u0b,.i u0c,.i u0d,.zs])))]⟩
abbrev QI (x5 u04 u05:Int) (u00 u01:LI) (u06 u07 u08 u09 u0a u0b u0c u0d u0e u0f:Int) (u03:Nat) (u02:LI):St:=⟨[(1,(.ptr 1 0 0)),(2,(.ptr 2 0 0)),(3,(.ptr 3 0 0)),(5,(.i x5))],[(1,(some (.box [.i u04,.i u05,.list false [.z] u00,.list true [.z,.list false [.z],.list false [.z],.list false [.z],.list false [.z]] u01]))),(2,(some (.box [.i u06,.i u07,.i u08,.i u09,.i u0a,.zs]))),(3,(some (.box [.i u0b,.i u0c,.i u0d,.i u0e,.i u0f,.row 500 0 u03]))),(500,(some (.row true 65 true [.z,.list false [.int .u64]] u02)))]⟩
theorem Cr (N:Nat) (u02 u01:Int) (u00 u03:LI):C6 (GI N) I6 [.cell 2 37] [[.z,.z,.z,.z,.z,.list true [.z,.list false [.int .u64]]]] [.agg [.i u02,.i u01,.list false [.z] u00,.list true [.z,.list false [.z],.list false [.z],.list false [.z],.list false [.z]] u03]]=(C4 (GI N) (CR I6 [1,1,0,1,0,0]) ⟨[1,2,3,14,15],[1,2,3],[]⟩ N (OI (CX u01 1 3) 0 u02 u01 u00 u03 0 0 0 0 0 (CX u02 1 3) (CX u01 1 3) 0 0 0) (CY 0 (C0 (GI N) (CR I6 [1,1,1]) (C1 (GI N) none [.cell 2 37] [[.z,.z,.z,.z,.z,.list true [.z,.list false [.int .u64]]]])))):=by kernel_rfl
theorem pQ (N:Nat) (x14 x15 u02 u03:Int) (u00 u01:LI) (u04 u05 u06 u07 u08 u09 u0a u0b u0c u0d:Int) (again:St→CU) (k:Out→St→CU):D9 (GI N) (CR I6 [1,1,0,1,0,0]) (OI x14 x15 u02 u03 u00 u01 u04 u05 u06 u07 u08 u09 u0a u0b u0c u0d) (D4 again ⟨[1,2,3,14,15],[1,2,3],[]⟩ k)=(cond (decide (x15 < x14)) (cond (decide (0≤x15)) (cond (decide (x15=ic 0)) (again (OI x14 (AA AC (x15+1)) u02 u03 u00 u01 u04 u05 u06 u07 u08 u09 u0a (CX (D3 u00 x15) (-500) 500) u0c u0d)) (cond (decide (x15=ic 1)) (again (OI x14 (AA AC (x15+1)) u02 u03 u00 u01 u04 u05 u06 u07 u08 u09 u0a u0b (CX (D3 u00 x15) (-500) 500) u0d)) (cond (decide (x15=ic 2)) (again (OI x14 (AA AC (x15+1)) u02 u03 u00 u01 u04 u05 u06 u07 u08 u09 u0a u0b u0c (CX (D3 u00 x15) (-500) 500))) none))) none) (k (.exit 0) (OI x14 x15 u02 u03 u00 u01 u04 u05 u06 u07 u08 u09 u0a u0b u0c u0d))):=by kernel_rfl
theorem vZ (N:Nat) (x14 x15 u02 u03:Int) (u00 u01:LI) (u04 u05 u06 u07 u08 u09 u0a u0b u0c u0d:Int):(CY 0 (C0 (GI N) (CR I6 [1,1,1]) (C1 (GI N) none [.cell 2 37] [[.z,.z,.z,.z,.z,.list true [.z,.list false [.int .u64]]]]))) (.exit 0) (OI x14 x15 u02 u03 u00 u01 u04 u05 u06 u07 u08 u09 u0a u0b u0c u0d)=(C4 (GI N) (CR I6 [1,1,1,0,1,0,0]) ⟨[1,2,3,5],[1,2,3,500],[⟨(.cell 3 5),500,65,true,[.z,.list false [.int .u64]]⟩]⟩ N (QI 0 u02 u03 u00 u01 u04 u05 u06 u07 u08 u09 u0a u0b u0c u0d 0 []) (CY 2 (C0 (GI N) (CR I6 [1,1,1,1]) (C1 (GI N) none [.cell 2 37] [[.z,.z,.z,.z,.z,.list true [.z,.list false [.int .u64]]]])))):=by kernel_rfl
theorem pR (N:Nat) (x5 u04 u05:Int) (u00 u01:LI) (u06 u07 u08 u09 u0a u0b u0c u0d u0e u0f:Int) (u03:Nat) (u02:LI) (again:St→CU) (k:Out→St→CU):D9 (GI N) (CR I6 [1,1,1,0,1,0,0]) (QI x5 u04 u05 u00 u01 u06 u07 u08 u09 u0a u0b u0c u0d u0e u0f u03 u02) (D4 again ⟨[1,2,3,5],[1,2,3,500],[⟨(.cell 3 5),500,65,true,[.z,.list false [.int .u64]]⟩]⟩ k)=(cond (decide (x5 < ic (AF u01))) (cond (decide (x5 < 4)) (cond (decide (0≤x5)&&decide (x5 < ic (AF u01))) (cond (decide (JK 0 (AA AC (u0c - 1))=0)) none (cond (decide (0≤x5)&&decide (x5 < ic (AF u01))) (cond (decide (1≤u0b)&&decide (u0b≤4)) (cond (decide ((u03+AF (B5 0 (AU 1 [IV.agg [IV.int (CX (IV.toInt (IV.cell (AG u01 (AD x5) default) 0)) 0 (AA AC (u0c - 1))),IV.list (RH (IV.toList (IV.cell (AG u01 (AD x5) default) 1)) (IV.toList (IV.cell (AG u01 (AD x5) default) 2)) (IV.toList (IV.cell (AG u01 (AD x5) default) 3)) (IV.toList (IV.cell (AG u01 (AD x5) default) 4)) u0b)]])))*TI.bytes (Env.tyd (GI N) 65)≤DJ)) (again (QI (AA AC (x5+1)) u04 u05 u00 u01 u06 u07 u08 u09 u0a u0b u0c u0d u0e u0f (u03+AF (B5 0 (AU 1 [IV.agg [IV.int (CX (IV.toInt (IV.cell (AG u01 (AD x5) default) 0)) 0 (AA AC (u0c - 1))),IV.list (RH (IV.toList (IV.cell (AG u01 (AD x5) default) 1)) (IV.toList (IV.cell (AG u01 (AD x5) default) 2)) (IV.toList (IV.cell (AG u01 (AD x5) default) 3)) (IV.toList (IV.cell (AG u01 (AD x5) default) 4)) u0b)]]))) (AU u03 u02++B5 0 (AU 1 [IV.agg [IV.int (CX (IV.toInt (IV.cell (AG u01 (AD x5) default) 0)) 0 (AA AC (u0c - 1))),IV.list (RH (IV.toList (IV.cell (AG u01 (AD x5) default) 1)) (IV.toList (IV.cell (AG u01 (AD x5) default) 2)) (IV.toList (IV.cell (AG u01 (AD x5) default) 3)) (IV.toList (IV.cell (AG u01 (AD x5) default) 4)) u0b)]])))) none) none) none)) none) (k (.exit 2) (QI x5 u04 u05 u00 u01 u06 u07 u08 u09 u0a u0b u0c u0d u0e u0f u03 u02))) (k (.exit 2) (QI x5 u04 u05 u00 u01 u06 u07 u08 u09 u0a u0b u0c u0d u0e u0f u03 u02))):=by kernel_rfl
theorem v5 (N:Nat) (x5 u04 u05:Int) (u00 u01:LI) (u06 u07 u08 u09 u0a u0b u0c u0d u0e u0f:Int) (u03:Nat) (u02:LI):(CY 2 (C0 (GI N) (CR I6 [1,1,1,1]) (C1 (GI N) none [.cell 2 37] [[.z,.z,.z,.z,.z,.list true [.z,.list false [.int .u64]]]]))) (.exit 2) (QI x5 u04 u05 u00 u01 u06 u07 u08 u09 u0a u0b u0c u0d u0e u0f u03 u02)=(some ((.agg [.i u0b,.i u0c,.i u0d,.i u0e,.i u0f,.list true [.z,.list false [.int .u64]] (B5 0 (AU u03 u02))]),[])):=by kernel_rfl
open Go Go.Proofs
abbrev Bi:List Kd:=[.z,(.list false [.z]),(.list false [.z]),(.list false [.z]),(.list false [.z])]
def bF (bias:LI) (j:Int):Int:=CX (D3 bias j) (-500) 500
abbrev ZM (d c:Int) (bias ts:LI):Ob:=.box [(.int .i64 d),(.int .i64 c),(.list false [.z] bias),(.list true Bi ts)]
abbrev ZN:Ob:=.box [(.int .i64 0),(.int .i64 0),(.int .i64 0),(.int .i64 0),(.int .i64 0),.zs]
abbrev pL (d c:Int) (bias ts:LI) (D C:Int) (i:Nat) (x:Int):St:=
 ⟨[(1,(.ptr 1 0 0)),(2,(.ptr 2 0 0)),(3,(.ptr 3 0 0)),(14,(.int .i64 C)),(15,(.int .i64 x))],[(1,(some (ZM d c bias ts))),(2,(some ZN)),(3,(some (.box [(.int .i64 D),(.int .i64 C),(.int .i64 (cond (A2 0 i) (bF bias 0) 0)),(.int .i64 (cond (A2 1 i) (bF bias 1) 0)),(.int .i64 (cond (A2 2 i) (bF bias 2) 0)),.zs])))]⟩
theorem fS (N:Nat) (d c:Int) (bias ts:LI) (D:Int) (C:Nat) (hC:C≤3) (K:Out→St→CU):∀ (m i n:Nat),i+m=C→m < n →
  C4 (GI N) (CR I6 [1,1,0,1,0,0]) ⟨[1,2,3,14,15],[1,2,3],[]⟩ n (pL d c bias ts D C i (i:Int)) K=K (.exit 0) (pL d c bias ts D C C (C:Int))
 | 0,i,n+1,hd,hn=>by
  have hi:i=C:=by omega
  subst hi;rw [DD];refine (pQ N i i d c bias ts 0 0 0 0 0 D i (cond (A2 0 i) (bF bias 0) 0) (cond (A2 1 i) (bF bias 1) 0) (cond (A2 2 i) (bF bias 2) 0) _ _).trans ?_;rw [AM (show ¬ (i:Int) < (i:Int) by omega),CS]
 | m+1,i,n+1,hd,hn=>by
  rw [DD];refine (pQ N C i d c bias ts 0 0 0 0 0 D C (cond (A2 0 i) (bF bias 0) 0) (cond (A2 1 i) (bF bias 1) 0) (cond (A2 2 i) (bF bias 2) 0) _ _).trans ?_;have ih:=fS N d c bias ts D C hC K m (i+1) n (by omega) (by omega);rw [AE (show (i:Int) < (C:Int) by omega),CP,AE (show 0≤(i:Int) by omega),CP,FN (by omega)];have hi4:i=0∨i=1∨i=2:=by omega
  rcases hi4 with rfl | rfl | rfl
  ·rw [show decide (((0:Nat):Int)=ic 0)=true from rfl,CP];exact ih
  ·rw [show decide (((1:Nat):Int)=ic 0)=false from rfl,show decide (((1:Nat):Int)=ic 1)=true from rfl,CS,CP];exact ih
  ·rw [show decide (((2:Nat):Int)=ic 0)=false from rfl,show decide (((2:Nat):Int)=ic 1)=false from rfl,show decide (((2:Nat):Int)=ic 2)=true from rfl,CS,CS,CP];exact ih
 | _,_,0,_,h=>by omega
abbrev W5:List Kd:=[.z,(.list false [(.int .u64)])]
abbrev lA:KP:=⟨[1,2,3,5],[1,2,3,500],[⟨(.cell 3 5),500,65,true,[.z,(.list false [(.int .u64)])]⟩]⟩
abbrev dZ (d c:Int) (bias ts:LI) (D C b0 b1 b2:Int) (O:LI) (x:Int):St:=
 ⟨[(1,(.ptr 1 0 0)),(2,(.ptr 2 0 0)),(3,(.ptr 3 0 0)),(5,(.int .i64 x))],[(1,(some (ZM d c bias ts))),(2,(some ZN)),(3,(some (.box [(.int .i64 D),(.int .i64 C),(.int .i64 b0),(.int .i64 b1),(.int .i64 b2),(.row 500 0 O.length)]))),(500,(some (.row true 65 true W5 O)))]⟩
def QC (D C:Int) (t:IV):IV:=.agg [.int (CX (t.cell 0).toInt 0 (C - 1)),.list (RH (t.cell 1).toList (t.cell 2).toList (t.cell 3).toList (t.cell 4).toList D)]
theorem Nc (N:Nat):TI.bytes (Env.tyd (GI N) 65)=32:=by rfl
theorem rF (N:Nat) (d c:Int) (bias ts:LI) (D C b0 b1 b2:Int) (hD:1≤D∧D≤4) (hC:1≤C∧C≤3):∀ (m i n:Nat) (O:LI),i+m=min ts.length 4→m < n→O.length=i →
  C4 (GI N) (CR I6 [1,1,1,0,1,0,0]) lA n (dZ d c bias ts D C b0 b1 b2 O (i:Int)) (CY 2 (C0 (GI N) (CR I6 [1,1,1,1]) (C1 (GI N) none [(vbd 2 37)] [[.z,.z,.z,.z,.z,(.list true [.z,(.list false [(.int .u64)])])]]))) =
   some (.agg [.int .i64 D,.int .i64 C,.int .i64 b0,.int .i64 b1,.int .i64 b2,.list true W5 (O++((ts.take 4).drop i).map (QC D C))],[])
 | 0,i,n+1,O,hd,hn,hO=>by
  have fin:(CY 2 (C0 (GI N) (CR I6 [1,1,1,1]) (C1 (GI N) none [(vbd 2 37)] [[.z,.z,.z,.z,.z,(.list true [.z,(.list false [(.int .u64)])])]]))) (.exit 2) (dZ d c bias ts D C b0 b1 b2 O (i:Int))=some (.agg [.int .i64 D,.int .i64 C,.int .i64 b0,.int .i64 b1,.int .i64 b2,.list true W5 (O++((ts.take 4).drop i).map (QC D C))],[]):=by
   refine (v5 N i d c bias ts 0 0 0 0 0 D C b0 b1 b2 O.length O).trans ?_;rw [CC,A9,List.drop_of_length_le (by rw [A1]; omega),vab,List.append_nil]
  rw [DD];refine (pR N i d c bias ts 0 0 0 0 0 D C b0 b1 b2 O.length O _ _).trans ?_;by_cases hp:i < ts.length
  ·rw [AE (show (i:Int) < ic ts.length by simp only [ic]; omega),CP,AM (show ¬ (i:Int) < 4 by omega),CS];exact fin
  ·rw [AM (show ¬ (i:Int) < ic ts.length by simp only [ic]; omega),CS];exact fin
 | m+1,i,n+1,O,hd,hn,hO=>by
  have hi:i < ts.length:=by omega
  rw [DD];refine (pR N i d c bias ts 0 0 0 0 0 D C b0 b1 b2 O.length O _ _).trans ?_;have l1:∀ x:IV,B5 0 (AU 1 [x])=[x]:=fun _=>rfl
  have eg:AG ts (AD (i:Int)) default=ts[i]:=by rw [BL]; simp [hi]
  have w1:AA AC (C - 1)=C - 1:=DV (by omega) (by omega);obtain ⟨m1,_,_⟩:=I3 (n:=0) (lo:=0) (hi:=C - 1) (by omega) (by omega) (by omega);have ih:=rF N d c bias ts D C b0 b1 b2 hD hC m (i+1) n (O++[QC D C ts[i]]) (by omega) (by omega) (by simp [hO]);rw [AE (show (i:Int) < ic ts.length by simp only [ic]; omega),AE (show (i:Int) < 4 by omega),AE (show 0≤(i:Int) by omega),w1,m1,AM (show ¬ (C - 1 - 0+1=0) by omega),AE hD.1,AE hD.2,eg,l1,Nc,CK,
   AE (show (O.length+1)*32≤DJ by rw [hO]; unfold DJ; omega),A9,FN (by omega)]
  simp only [vaI,CP,CS];have ed:(ts.take 4).drop i=ts[i] :: (ts.take 4).drop (i+1):=by
   have h4:i < (ts.take 4).length:=by rw [A1]; omega
   rw [BC h4];congr 1;rw [List.getElem_take]
  rw [ed,A6];rw [List.append_assoc] at ih;have eL:(O++[QC D C ts[i]]).length=O.length+1:=by simp
  rw [show dZ d c bias ts D C b0 b1 b2 (O++[QC D C ts[i]]) ((i+1:Nat):Int)=⟨[(1,(.ptr 1 0 0)),(2,(.ptr 2 0 0)),(3,(.ptr 3 0 0)),(5,(.int .i64 ((i+1:Nat):Int)))],[(1,(some (ZM d c bias ts))),(2,(some ZN)),(3,(some (.box [(.int .i64 D),(.int .i64 C),(.int .i64 b0),(.int .i64 b1),(.int .i64 b2),(.row 500 0 (O++[QC D C ts[i]]).length)]))),(500,(some (.row true 65 true W5 (O++[QC D C ts[i]]))))]⟩ from rfl,eL] at ih;exact ih
 | _,_,0,_,_,h,_=>by omega
theorem Ju:C5 PR B0 5 V6:=by
 refine DC [(7,JO),(19,SS),(18,MH)] [(3,⟨[1,2,3,14,15],[1,2,3],[]⟩),(8,lA)] V6 [[.z,.z,.z,.z,.z,.list true [.z,.list false [.int .u64]]]] Tryz.func5 yM
  ⟨VS,Jx,dQ,trivial⟩ ?_
 intro vs r hwf h;unfold V6 at h;split at h
 ·rename_i d c bias ts;refine ⟨20,?_⟩;rw [R.get_ok] at h;rw [← h];refine (Cr 20 d c bias ts).trans ?_;obtain ⟨_,d1,d2⟩:=I3 (n:=d) (lo:=1) (hi:=3) (by omega) (by omega) (by omega);obtain ⟨_,c1,c2⟩:=I3 (n:=c) (lo:=1) (hi:=3) (by omega) (by omega) (by omega);unfold eG rD PC PH Q4;generalize CX d 1 3=D at d1 d2;generalize CX c 1 3=C' at c1 c2;obtain ⟨C,rfl⟩:∃ C:Nat,C'=C:=⟨C'.toNat,by omega⟩;refine (fS 20 d c bias ts D C (by omega) _ C 0 20 (by omega) (by omega)).trans ?_;refine (vZ 20 C C d c bias ts 0 0 0 0 0 D C (cond (A2 0 C) (bF bias 0) 0) (cond (A2 1 C) (bF bias 1) 0) (cond (A2 2 C) (bF bias 2) 0)).trans ?_;refine (rF 20 d c bias ts D C _ _ _ ⟨d1,by omega⟩ ⟨c1,by omega⟩ (min ts.length 4) 0 20 [] (by omega) (by omega) rfl).trans ?_;rw [CC,List.nil_append];have hC:C=1∨C=2∨C=3:=by omega
  rcases hC with rfl | rfl | rfl <;> rfl
 ·simp [R.get] at h
open Go Go.Proofs
def OQ (N:Nat):Env:=DB [(7,JO),(9,ST),(14,SU),(8,S1),(11,O3),(10,O4),(13,O5),(12,O6),(6,T6),(5,T7)] [(14,⟨[10,13,14,15],[13,41,500,501],[⟨.cell 41 23,500,31,true,[.z,.z,.z,.z,.z,.z,.z,.z,.z,.z]⟩,⟨.cell 41 24,501,71,true,[.bool,.z,.z]⟩]⟩)] 83 N
open Go Go.Proofs
set_option maxRecDepth 100000
theorem Jk:C5 PR B0 5 T7:=Snd.mono Ju fun _ _ h=>tW h
theorem Jj:C5 PR B0 6 T6:=Snd.mono Jt fun _ _ h=>tX h
def Y8:C2
 | [f,a,q,.bool _,.int .i64 _]=>eV f fun _=>eU a fun _=>FP q fun _=>.ok (.bool true) []
 | _=>.no
abbrev X7:List Nat:=[1,1,1,1,1,1,1,1,1,1,0,0,0]
abbrev XD:KP:=⟨[10,13,14,15],[13,41,500,501],[⟨.cell 41 23,500,31,true,D1⟩,⟨.cell 41 24,501,71,true,DP⟩]⟩
def L4 (m:Md) (q:Qy) (v:Vd) (sh:Bool) (s:Sr) (n:Int):St:=
 ⟨[(10,.bool false),(13,.ptr 13 0 0),(14,.ptr 41 0 0),(15,.int .i64 n)],[(13,some (.box v.cs)),(41,some (.box (EE m q (oF sh s)))),(500,some (.row true 31 true D1 s.left)),(501,oG sh s)]⟩
noncomputable abbrev RB (N:Nat):Out→St→CU:=CY 0 (C0 (OQ N) (CR PD [1,1,1,1,1,1,1,1,1,1,1]) (C1 (OQ N) none [.tmp 10] [[.bool]]))
noncomputable def YT (N:Nat) (m:Md) (q:Qy):CU:=
 cond (!R9 (LY m q) (LY m q)) (some (.bool false,[])) (cond (EI m q)
  (C4 (OQ N) (CR PD X7) XD N (L4 m q (LY m q) false ⟨[(II q).I],[],Vd.none,0⟩ 0) (RB N))
  (C4 (OQ N) (CR PD X7) XD N (L4 m q (LY m q) false ⟨[],[],⟨4,[],0,0,0,0,0,0⟩,0⟩ 0) (RB N)))
theorem Fq (N:Nat) (f:Ft) (a:Ak) (q:Qy) (own:Bool) (z:Int):C6 (OQ N) PD [.tmp 10] [[.bool]] [f.V,a.V,q.V,.bool own,.int .i64 z] =
 cond own (cond (XY f.M) (YT N f.M ((fP a f.M).bud (min (CX z 0 300) 2000))) none) (YT N f.M (q.bud (min q.bu 2000))):=by kernel_rfl
def eB (again:St→CU) (k:Out→St→CU) (m:Md) (q:Qy) (v:Vd) (n:Int) (sh:Bool) (s:Sr):CU:=
 cond (decide (n > v.spent)) (k .ret (L4 m q v sh s n)) (UT sh s (cond ((GH (L5 sh s)).spent != n) (k .ret (L4 m q v sh (L5 sh s) n)) (again (L4 m q v sh (L5 sh s) n))))
theorem d6 (N:Nat) (m:Md) (q:Qy) (v:Vd) (sh:Bool) (s:Sr) (n:Int) (again:St→CU) (k:Out→St→CU):D9 (OQ N) (CR PD X7) (L4 m q v sh s n) (D4 again XD k) =
 IJ m q sh (L5 sh s) (fun sh s=>k (.exit 0) (L4 m q v sh s n)) (eB again k m q v (CZ (n+1))):=by
 cases sh <;> kernel_rfl
theorem j7 (N:Nat) (m:Md) (q:Qy) (v:Vd) (sh:Bool) (s:Sr) (n:Int):RB N (.exit 0) (L4 m q v sh s n) =
 cond (n==v.spent) (UT sh s (cond (R9 (GH (L5 sh s)) v) (IJ m q sh (L5 sh (L5 sh s)) (fun _ _=>some (.bool true,[])) (fun _ _=>some (.bool false,[]))) (some (.bool false,[])))) (some (.bool false,[])):=by
 cases sh <;> kernel_rfl
theorem YU (N:Nat) (m:Md) (q:Qy) {sh:Bool} {s fin:Sr} {n:Int} (h:Jn m q sh s fin) (ho:EJ q s=true) (hn:s.spent=n):RB N (.exit 0) (L4 m q (GH fin) sh s n)=some (.bool true,[]):=by
 have e:s=fin:=by
  have:=h.run (q.bu.toNat+1) (by have:=h.inv.sp0; omega)
  rw [cH ho] at this;exact this
 have e1:=PT h;rw [j7,e1,e1,← e,eO,CP,show (n==(GH s).spent)=true by rw [← hn]; exact CH _,CP];have h1:=h.inv.vp;have h2:=h.inv.sp1;have h3:=(RX h.right).2.2.1;cases sh with
 | false=>simp only [UT,IJ]; rw [ho,CP]
 | true=>
  simp only [UT,IJ];rw [BX (show s.v.proof.length≤100000 by omega),CP,ho,CP]
theorem oH (m:Md) (q:Qy):∀ (d:Nat) (s:Sr),s.spent≤(FL m q d s).spent
 | 0,s=>Int.le_refl _
 | d+1,s=>by
  rw [FL];cases EJ q s with
  | true=>exact Int.le_refl _
  | false=>
   rw [CS];have h1:=oH m q d (D5 m q s);rw [qU] at h1;omega
theorem Be {m:Md} {q:Qy} {sh:Bool} {s fin:Sr} (h:Jn m q sh s fin):s.spent≤fin.spent:=by
 have:=oH m q (q.bu.toNat+1) s
 rw [h.run (q.bu.toNat+1) (by have:=h.inv.sp0; omega)] at this;exact this
theorem Mm {m:Md} {q:Qy} {sh:Bool} {s:Sr} (ho:EJ q s=false) (X Y K:Bool→Sr→CU):IJ m q sh s X K=IJ m q sh s Y K:=by
 cases sh <;> simp only [IJ,ho,CS]
theorem q7 (N:Nat) (m:Md) (q:Qy) (fin:Sr) (hbu:q.bu≤65536):∀ (d n:Nat) (sh:Bool) (s:Sr),Jn m q sh s fin→q.bu < s.spent+d→d < n →
  C4 (OQ N) (CR PD X7) XD n (L4 m q (GH fin) sh s s.spent) (RB N)=some (.bool true,[])
 | d,0,_,_,_,_,h=>absurd h (by omega)
 | 0,n+1,sh,s,h,hd,_=>by
  have ho:EJ q s=true:=by
   unfold EJ;rw [AE (show s.spent≥q.bu by omega)];simp
  rw [DD,d6,PT h];cases sh with
  | false=>simp only [IJ]; rw [ho,CP]; exact YU N m q h ho rfl
  | true=>simp only [IJ]; rw [ho,CP]; exact YU N m q h ho rfl
 | d+1,n+1,sh,s,h,hd,hn=>by
  rw [DD,d6];have h1:=h.inv.sp1;have h0:=h.inv.sp0;have hb0:=(RX h.right).2.2.1;cases ho:EJ q s with
  | true=>
   rw [PT h];cases sh with
   | false=>simp only [IJ]; rw [ho,CP]; exact YU N m q h ho rfl
   | true=>simp only [IJ]; rw [ho,CP]; exact YU N m q h ho rfl
  | false=>
   rw [PT h];generalize hK:eB _ (RB N) m q (GH fin) (CZ (s.spent+1))=K';obtain ⟨sh',s',h',e',hs'⟩:=Bg h K';have hs':s'.spent=s.spent+1:=by
    rcases hs' with ⟨h,_⟩ | ⟨_,h⟩
    ·rw [ho] at h; cases h
    ·exact h
   rw [PT h] at e';refine (Mm ho _ K' K').trans (e'.trans ?_);rw [← hK];have hle:=Be h';have e3:CZ (s.spent+1)=s'.spent:=by rw [hs']; exact DV (by omega) (by omega)
   have ev:(GH fin).spent=fin.spent:=rfl;unfold eB;rw [e3,ev,AM (show ¬ s'.spent > fin.spent by omega),CS,PT h',show ((GH s').spent != s'.spent)=false from bne_self_eq_false _,CS];have ih:=q7 N m q fin hbu d n sh' s' h' (by omega) (by omega);have g1:=h'.inv.vp;have g2:=h'.inv.sp1;cases sh' with
   | false=>exact ih
   | true=>
    simp only [UT];rw [BX (show s'.v.proof.length≤100000 by omega),CP];exact ih
theorem q6 (m:Md) (q:Qy) (hbu:q.bu≤2000):YT 2010 m q=some (.bool true,[]):=by
 unfold YT;rw [eO,A5,CS];cases hr:EI m q with
 | true=>
  have hb:=(RX hr).2.2.1;rw [CP];exact q7 2010 m q (FL m q (q.bu.toNat+1) (NY m q)) (by omega) (q.bu.toNat+1) 2010 false ⟨[(II q).I],[],Vd.none,0⟩ (Bf hr) (by show q.bu < 0+_; omega) (by omega)
 | false=>
  have e:LY m q=GH ⟨[],[],⟨4,[],0,0,0,0,0,0⟩,0⟩:=by
   unfold LY NY;rw [hr,CS];rfl
  rw [CS,e,show (2010:Nat)=2009+1 from rfl,DD,d6];have ho:EJ q ⟨[],[],⟨4,[],0,0,0,0,0,0⟩,0⟩=true:=rfl;have e1:L5 false ⟨[],[],⟨4,[],0,0,0,0,0,0⟩,0⟩=(⟨[],[],⟨4,[],0,0,0,0,0,0⟩,0⟩:Sr):=rfl;rw [e1];simp only [IJ];rw [ho,CP,j7,e1,e1,eO,CP];simp only [IJ];rw [ho,CP];rfl
theorem Ka:C5 PR B0 3 Y8:=by
 refine DC [(7,JO),(9,ST),(14,SU),(8,S1),(11,O3),(10,O4),(13,O5),(12,O6),(6,T6),(5,T7)] [(14,⟨[10,13,14,15],[13,41,500,501],[⟨.cell 41 23,500,31,true,[.z,.z,.z,.z,.z,.z,.z,.z,.z,.z]⟩,⟨.cell 41 24,501,71,true,[.bool,.z,.z]⟩]⟩)] Y8 [[.bool]] Tryz.func3 yT ⟨VS,Jy,Jz,Ki,pA,pB,pC,pD,Jj,Jk,trivial⟩ ?_;intro vs r hwf h;unfold Y8 at h;split at h
 ·rename_i f a q own z;replace h:=rP h;obtain ⟨f,rfl,h⟩:=h;replace h:=rO h;obtain ⟨a,rfl,h⟩:=h;replace h:=FV h;obtain ⟨q,rfl,h⟩:=h;rw [R.get_ok] at h;refine ⟨2010,(Fq 2010 f a q own z).trans ?_⟩;rw [← h,tS,CP];have hw:=Nl z 0 300 (by omega) (by omega) (by omega);rw [q6 f.M _ (show min (CX z 0 300) 2000≤2000 by omega),q6 f.M _ (show min q.bu 2000≤2000 by omega)];cases own <;> rfl
 ·simp [R.get] at h
open Go Go.Proofs Go.RowKit
def X0:Zone:=⟨fun _=>False,fun _=>False⟩
def γ0:Nat→Value:=fun _=>.nilIface
abbrev O0:Nat→Prop:=CV X0 γ0 []
theorem fB (b:Nat):¬ O0 b:=by
 rintro (⟨n,ob,h,_⟩ | h)
 ·simp [CT,DT] at h
 ·exact h
theorem nU (W:World):Rel B0.base 0 W X0 γ0 ⟨[],[]⟩ HT W:=by
 have no:∀ n ob,CT ([]:Store) n≠some ob:=fun n ob h=>by simp [CT,DT] at h
 refine ⟨rfl,rfl,fun i=>by simp only [St.get,DT,VRel],fun n ob h=>absurd h (no n ob),fun b h=>?_,fun n m ob ob' b _ h=>absurd h (no n ob),Keep.refl _ _,fun b h=>?_,fun b h=>h.elim,fun p _ ob h=>absurd h (no _ ob)⟩
 ·obtain ⟨n,ob,h,_⟩:=h;exact absurd h (no n ob)
 ·obtain ⟨n,ob,h,_⟩:=h;exact absurd h (no n ob)
theorem uQ {f:Nat} {fn:Func} (hf:PR.funcs[f]?=some fn) (hn:(fn.name == "runtime.NumGoroutine")=false) (hb:fn.body.isNone=false) {xs:List Value} {w:World} {R:Ending→World→Prop} (h:Does PR f xs w R):Calls PR f xs.toArray w R:=by
 have:(callFunc f xs.toArray).run PR w = .ok (.enter f xs.toArray) w:=by
  unfold callFunc;have hn':¬ fn.name = "runtime.NumGoroutine":=by simpa using hn
  have hb':¬ fn.body=none:=fun h=>by rw [h] at hb; cases hb
  simp [hf,hn',hb']
 unfold Does at h;rw [this] at h;exact h
theorem uR {f:Nat} {fn:Func} {sp:C2} (hS:C5 PR B0 f sp) (hf:PR.funcs[f]?=some fn) (hn:(fn.name == "runtime.NumGoroutine")=false) (hb:fn.body.isNone=false) {vs:List V} {xs:List Value} {W:World}
  (hsp:(sp vs).get=some (.bool true,[])) (hbor:EC vs=none) (hG:Glob B0 W) (hV:VRels γ0 [] W O0 (vs.map DS) xs) :
  Calls PR f xs.toArray W fun e w'=>e = .returned (.bool true)∧Below W.heap.size W w':=by
 refine uQ hf hn hb ?_;have em:G1 vs=[]:=by unfold G1; rw [hbor]
 refine Does.mono (hS W X0 γ0 vs xs (.bool true) [] hsp hG (fun b h=>h.elim) (by rw [em]; exact nU W) (by rw [em]; exact hV)) ?_;rintro e w' ⟨x,rfl,γ',hR,hx,_⟩;simp only [JG,DS,VRel] at hx;subst hx;exact ⟨rfl,hR.keep.os,hR.keep.tape,hR.keep.output,hR.keep.size,fun b hb=>hR.keep.block b hb (fun h=>h)⟩
open Go
def NH (P:Program) (e:TypeId):Bool:=match P.underlying e with | some (.struct _)=>true | some (.array _ _)=>true | _=>false
def RC (f:TypeId→Option (List Kd)) (cell:TypeId→Nat):Nat→List (TypeId × Nat)→Option (List Kd)
 | _,[]=>some []
 | off,(t,o) :: r=>match AZ o off with
  | true=>match f t with
   | some ks=>match AZ (cell t) ks.length with
    | true=>match RC f cell (off+ks.length) r with
     | some ks'=>some (ks++ks')
     | none=>none
    | false=>none
   | none=>none
  | false=>none
def LL (P:Program):Nat→TypeId→Option (List Kd)
 | 0,_=>none
 | n+1,t=>match P.underlying t with
  | some .bool=>some [.bool]
  | some (.int k)=>some [.int k]
  | some .string=>some [.str]
  | some (.slice e)=>match LL P n e with
   | some ks=>match BI 1 (P.bytesOf e)&&(AZ (P.cellsOf e) ks.length&&(BI 1 ks.length&&(NH P e||AZ ks.length 1))) with
    | true=>some [.list (NH P e) ks]
    | false=>none
   | none=>none
  | some (.struct fs)=>match RC (LL P n) P.cellsOf 0 (fs.toList.map fun f=>(f.type,f.offset)) with
   | some ks=>match AZ (P.cellsOf t) ks.length with | true=>some ks | false=>none
   | none=>none
  | some (.array m e)=>match RC (LL P n) P.cellsOf 0 ((List.range m).map fun i=>(e,i*P.cellsOf e)) with
   | some ks=>match AZ (P.cellsOf t) ks.length with | true=>some ks | false=>none
   | none=>none
  | _=>none
def CellsK (w:World) (O:Nat→Prop):List Kd→LI→List Value→Prop
 | [],[],[]=>True
 | k :: ks,x :: f,v :: cs=>Kd.Rel w O k x v∧CellsK w O ks f cs
 | _,_,_=>False
section
variable {w:World} {O:Nat→Prop}
theorem CellsK.append:∀ {ks:List Kd} {f:LI} {cs:List Value} {ks':List Kd} {f':LI} {cs':List Value},CellsK w O ks f cs→CellsK w O ks' f' cs'→CellsK w O (ks++ks') (f++f') (cs++cs')
 | [],[],[],_,_,_,_,h'=>h'
 | _ :: ks,_ :: f,_ :: cs,_,_,_,h,h'=>by
  simp only [CellsK] at h;simp only [vaL,CellsK];exact ⟨h.1,h.2.append h'⟩
 | [],_ :: _,_,_,_,_,h,_=>by simp [CellsK] at h
 | [],[],_ :: _,_,_,_,h,_=>by simp [CellsK] at h
 | _ :: _,[],_,_,_,_,h,_=>by simp [CellsK] at h
 | _ :: _,_ :: _,[],_,_,_,h,_=>by simp [CellsK] at h
theorem CellsK.get:∀ {ks:List Kd} {f:LI} {cs:List Value},CellsK w O ks f cs→∀ (j:Nat) (k:Kd),ks[j]?=some k→∃ v,cs[j]?=some v∧Kd.Rel w O k (HN f j) v
 | [],_,_,_,j,k,h=>by simp at h
 | k :: ks,x :: f,v :: cs,h,j,k',hj=>by
  simp only [CellsK] at h;cases j with
  | zero=>
   simp only [BQ,AB] at hj;subst hj;exact ⟨v,rfl,by simpa only [HN] using h.1⟩
  | succ j=>
   obtain ⟨u,h1,h2⟩:=h.2.get j k' (by simpa using hj);exact ⟨u,by simpa using h1,by simpa only [HN] using h2⟩
 | _ :: _,[],_,h,_,_,_=>by simp [CellsK] at h
 | _ :: _,_ :: _,[],h,_,_,_=>by simp [CellsK] at h
theorem jC {α:Type} {Q:Nat→α→Prop}:∀ n,(∀ i,i < n→∃ x,Q i x)→∃ L:List α,L.length=n∧∀ i x,L[i]?=some x→Q i x
 | 0,_=>⟨[],rfl,fun i x h=>by simp at h⟩
 | n+1,h=>by
  obtain ⟨L,hl,hL⟩:=jC n (fun i hi=>h i (by omega));obtain ⟨x,hx⟩:=h n (by omega);refine ⟨L++[x],by simp [hl],fun i y hy=>?_⟩;rw [vbg] at hy;split at hy
  ·exact hL i y hy
  ·rename_i hi
   have:i - L.length=0:=by
    rcases Nat.eq_zero_or_pos (i - L.length) with e | e
    ·exact e
    ·rw [BF (by simp; omega)] at hy;cases hy
   rw [this] at hy;simp only [BQ,AB] at hy;subst hy
   have:i=n:=by omega
   subst this;exact hx
end
theorem bS {H:Type} {P:Program}:∀ {ts:List TypeId} {ds:List (DataW H)} {i:Nat} {t:TypeId} {d:DataW H},ts[i]?=some t→ds[i]?=some d→∀ y∈d.weights P t,y∈vbt P ts ds
 | [],_,i,_,_,h,_,_,_=>by simp at h
 | _ :: _,[],i,_,_,_,h,_,_=>by simp at h
 | t0 :: ts,d0 :: ds,0,t,d,h,h',y,hy=>by
  simp only [BQ,AB] at h h';subst h; subst h';simp only [vbt,AW];exact .inl hy
 | t0 :: ts,d0 :: ds,i+1,t,d,h,h',y,hy=>by
  simp only [vbt,AW];exact .inr (bS (by simpa using h) (by simpa using h') y hy)
theorem bR {H:Type} {P:Program} {e:TypeId}:∀ {ds:List (DataW H)} {d:DataW H},d∈ds→∀ y∈d.weights P e,y∈DataW.weightsAll P e ds
 | [],_,h,_,_=>by cases h
 | d0 :: ds,d,h,y,hy=>by
  simp only [DataW.weightsAll,AW];rcases AR.1 h with rfl | h
  ·exact .inl hy
  ·exact .inr (bR h y hy)
section
variable {H:Type} {enc:TypeId × Value→H} {P:Program} {w:World} {base:Nat} {sp:Nat→Bool} {held:Bool} {O:Nat→Prop}
theorem cS {f:TypeId→Option (List Kd)} {n:Nat} {cs:List Value}
  (ih:∀ (t:TypeId) (ks:List Kd) (cs:List Value) (d:DataW H) (p:List MemPlace),f t=some ks→DataW.trod enc P w base sp held n t cs=some (d,p)→(∀ y∈d.weights P t,y≤reachBytes)→∃ g,CellsK w O ks g cs) :
  ∀ (parts:List (TypeId × Nat)) (off:Nat) (ks:List Kd) (xs:List (DataW H × List MemPlace)),RC f P.cellsOf off parts=some ks→xs.length=parts.length →
   (∀ (i:Nat) (t:TypeId) (o:Nat),parts[i]?=some (t,o)→DataW.trod enc P w base sp held n t ((cs.drop o).take (P.cellsOf t))=xs[i]?) →
   (∀ (i:Nat) (t:TypeId) (o:Nat) (x:DataW H × List MemPlace),parts[i]?=some (t,o)→xs[i]?=some x→∀ y∈x.1.weights P t,y≤reachBytes)→∃ g,CellsK w O ks g ((cs.drop off).take ks.length)
 | [],off,ks,xs,h,_,_,_=>by
  simp only [RC,AB] at h;subst h;exact ⟨[],by simp only [B8,List.take_zero,CellsK]⟩
 | (t,o) :: r,off,ks,[],h,hl,_,_=>by simp at hl
 | (t,o) :: r,off,ks,x :: xs,h,hl,ht,hw=>by
  simp only [RC] at h;split at h
  case h_2=>cases h
  rename_i ho;obtain rfl:=vai ho;split at h
  case h_2=>cases h
  rename_i k1 hk1;split at h
  case h_2=>cases h
  rename_i hc;have hc:=vai hc;split at h
  case h_2=>cases h
  rename_i k2 hk2;simp only [AB] at h;subst h;have h0:=ht 0 t o rfl;simp only [BQ] at h0;obtain ⟨d,p⟩:=x;obtain ⟨g1,hg1⟩:=ih t k1 _ d p hk1 h0 (hw 0 t o (d,p) rfl rfl);obtain ⟨g2,hg2⟩:=cS ih r (o+k1.length) k2 xs hk2 (by simpa using hl) (fun i t' o' hi=>by simpa using ht (i+1) t' o' (by simpa using hi)) (fun i t' o' x hi hx=>hw (i+1) t' o' x (by simpa using hi) (by simpa using hx));refine ⟨g1++g2,?_⟩;rw [AQ,List.take_add,List.drop_drop];rw [hc] at hg1;exact hg1.append hg2
theorem Mf {a:Addr} {v:Value} (h:w.cell? a=some v):a.spot=none∧a.block < w.heap.size:=by
 unfold World.cell? at h;split at h
 ·rename_i c _ _ hc;split at h
  ·cases h
  ·rename_i hs;exact ⟨by simpa using hs,(vaX.1 hc).1⟩
 ·cases h
theorem VW (hO:∀ b,¬ O b):∀ (n:Nat) (t:TypeId) (ks:List Kd) (fuel:Nat) (cs:List Value) (d:DataW H) (p:List MemPlace),LL P n t=some ks →
  DataW.trod enc P w base sp held fuel t cs=some (d,p)→(∀ y∈d.weights P t,y≤reachBytes)→∃ g,CellsK w O ks g cs
 | 0,_,_,_,_,_,_,h,_,_=>by simp [LL] at h
 | n+1,t,ks,fuel,cs,d,p,h,ht,hw=>by
  simp only [LL] at h;split at h
  ·rename_i hu;simp only [AB] at h;subst h;obtain ⟨b,rfl,_⟩:=DataW.trod_bool hu ht;exact ⟨[.bool b],by simp only [CellsK,Kd.Rel,IV.toBool,and_self]⟩
  ·rename_i k hu;simp only [AB] at h;subst h;obtain ⟨m,rfl,_,hm⟩:=DataW.trod_int hu ht;simp only [Lit.wf,AI,AO] at hm;exact ⟨[.int m],by simp only [CellsK,Kd.Rel,IV.toInt,B9,true_and]; exact hm⟩
  ·rename_i hu;simp only [AB] at h;subst h;obtain ⟨s,rfl,hd,hs⟩:=DataW.trod_string hu ht;simp only [AL] at hd;refine ⟨[.str s],?_⟩;simp only [CellsK,Kd.Rel,IV.toStr,B9,true_and];rw [hd.1] at hw
   have:=hw s.data.toList.length (by simp [vbl])
   have e:s.data.toList.length=s.size:=by rw [CN]; rfl
   rw [e] at this;unfold reachBytes at this;unfold strMax;omega
  ·rename_i e hu;split at h
   case h_2=>cases h
   rename_i k1 hk1;split at h
   case h_2=>cases h
   rename_i hc;simp only [AB] at h;subst h;simp only [AI,Bool.or_eq_true] at hc;obtain ⟨hb,hce,hk0,hag⟩:=hc;have hb:=AK hb;have hce:=vai hce;have hk0:=AK hk0;rcases DataW.trod_slice hu ht with ⟨rfl,_⟩ | ⟨a,len,cap,elems,rest,m,_,rfl,hx,_,hlc,hcap,hlen,hel,_⟩
   ·refine ⟨[.list []],?_⟩;simp only [CellsK,Kd.Rel,IV.toList,B9];exact ⟨none,0,rfl,AP _,B3 _,B3 _,fun i y hi=>by simp at hi⟩
   ·simp only [AL] at hx;obtain ⟨rfl,_⟩:=hx;simp only [vbl,hu,AR,AW] at hw;have hsz:len≤strMax:=by
     have:=hw _ (.inl rfl)
     rw [vaC,hlen] at this;have h1:len*1≤(len+(rest.map (·.1)).length)*P.bytesOf e:=Nat.mul_le_mul (by omega) hb;unfold reachBytes at this;unfold strMax;omega
    have hex:∀ i,i < len→∃ g:LI,∃ ci,w.cells? base (a.add (i*k1.length)) k1.length=some ci∧CellsK w O k1 g ci:=by
     intro i hi;have h1:=hel i hi;have hi':i < elems.length:=by omega
     rw [AV hi',hce] at h1;simp only [Option.bind_eq_some_iff] at h1;obtain ⟨ci,h2,h3⟩:=h1;obtain ⟨g,hg⟩:=VW hO n e k1 m ci elems[i].1 elems[i].2 hk1 h3 (fun y hy=>hw y (.inr (.inl (bR (vaO (List.getElem_mem hi')) y hy))));exact ⟨g,ci,h2,hg⟩
    obtain ⟨L,hL,hLi⟩:=jC len hex;refine ⟨[.list (L.map fun g=>match NH P e with | true=>IV.agg g | false=>HN g 0)],?_⟩;simp only [CellsK,Kd.Rel,IV.toList,B9,vaC,hL];refine ⟨some a,cap,rfl,hlc,hcap,hsz,fun i y hi=>?_⟩;rw [BZ,van] at hi;obtain ⟨g,hg,rfl⟩:=hi;obtain ⟨ci,hci,hgc⟩:=hLi i g hg;have hil:i < len:=by rw [← hL]; exact (BV.1 hg).1
    have cellAt:∀ j k,k1[j]?=some k→∃ u,w.cell? ((a.add (i*k1.length)).add j)=some u∧Kd.Rel w O k (HN g j) u:=by
     intro j k hk;obtain ⟨u,h1,h2⟩:=hgc.get j k hk;refine ⟨u,?_,h2⟩;have hj:j < k1.length:=(BV.1 hk).1;unfold World.cells? at hci;split at hci
     ·obtain ⟨b,hb1,hb2⟩:=Lib.mapM_at hci j j (by simp [hj]);rw [h1] at hb1;simp only [AB] at hb1;rw [hb2,hb1]
     ·cases hci
    have hspot:a.spot=none∧a.block < w.heap.size:=by
     obtain ⟨g0,hg0⟩:∃ g0,L[0]?=some g0:=⟨L[0]'(by omega),AV (by omega)⟩;obtain ⟨c0,hc0,hgc0⟩:=hLi 0 g0 hg0;obtain ⟨u,h1,_⟩:=hgc0.get 0 k1[0] (AV (by omega));unfold World.cells? at hc0;split at hc0
     ·obtain ⟨b,_,hb2⟩:=Lib.mapM_at hc0 0 0 (List.getElem?_range (show 0 < k1.length by omega))
      have:=Mf hb2
      rw [Nat.zero_mul] at this;simpa [Addr.add] using this
     ·cases hc0
    obtain ⟨ab,ao,asp⟩:=a;obtain ⟨hs1,hs2⟩:=hspot;simp only at hs1 hs2;subst hs1;refine ⟨ab,ao,rfl,hO ab,hs2,?_⟩;rw [Kd.RelAll_iff];intro j k hk;obtain ⟨u,h1,h2⟩:=cellAt j k hk;rw [Lib.add_plain,Lib.add_plain] at h1;rw [A0];refine ⟨u,h1,?_⟩;cases hat:NH P e with
    | true=>
     show Kd.Rel w O k (HN g j) u;exact h2
    | false=>
     rw [hat] at hag;have h1l:k1.length=1:=vai (by simpa using hag);have hj:j < k1.length:=(BV.1 hk).1
     have:j=0:=by omega
     subst this;exact h2
  ·rename_i fs hu;split at h
   case h_2=>cases h
   rename_i k1 hk1;split at h
   case h_2=>cases h
   rename_i hc;have hc:=vai hc;simp only [AB] at h;subst h;obtain ⟨xs,m,_,hx,hcl,hxl,hall⟩:=DataW.trod_struct hu ht;simp only [AL] at hx;obtain ⟨rfl,_⟩:=hx;simp only [vbl,hu] at hw;have key:=cS (enc:=enc) (P:=P) (w:=w) (base:=base) (sp:=sp) (held:=held) (O:=O) (f:=LL P n) (n:=m) (cs:=cs) (fun t ks cs d p h1 h2 h3=>VW hO n t ks m cs d p h1 h2 h3) (fs.toList.map fun f=>(f.type,f.offset)) 0 k1 xs hk1 (by simp [hxl]) (fun i t o hi=>by
     rw [BZ,van] at hi;obtain ⟨f,hf,he⟩:=hi;simp only [AL] at he;obtain ⟨rfl,rfl⟩:=he;exact hall i f (by simpa using hf)) (fun i t o x hi hx y hy=>by
     rw [BZ,van] at hi;obtain ⟨f,hf,he⟩:=hi;simp only [AL] at he;obtain ⟨rfl,rfl⟩:=he;exact hw y (bS (i:=i) (by rw [BZ,hf]; rfl) (by rw [BZ,hx]; rfl) y hy))
   obtain ⟨g,hg⟩:=key;rw [CC,vav (by omega)] at hg;exact ⟨g,hg⟩
  ·rename_i m0 e hu;split at h
   case h_2=>cases h
   rename_i k1 hk1;split at h
   case h_2=>cases h
   rename_i hc;have hc:=vai hc;simp only [AB] at h;subst h;obtain ⟨xs,m,_,hx,hcl,hxl,hall⟩:=DataW.trod_array hu ht;simp only [AL] at hx;obtain ⟨rfl,_⟩:=hx;simp only [vbl,hu] at hw;have key:=cS (enc:=enc) (P:=P) (w:=w) (base:=base) (sp:=sp) (held:=held) (O:=O) (f:=LL P n) (n:=m) (cs:=cs) (fun t ks cs d p h1 h2 h3=>VW hO n t ks m cs d p h1 h2 h3) ((List.range m0).map fun i=>(e,i*P.cellsOf e)) 0 k1 xs hk1 (by simp [hxl]) (fun i t o hi=>by
     rw [BZ,van] at hi;obtain ⟨f,hf,he⟩:=hi;simp only [AL] at he;obtain ⟨rfl,rfl⟩:=he;have hfi:=BV.1 hf;obtain ⟨hl,he⟩:=hfi;rw [List.getElem_range] at he;subst he;exact hall i (by simpa using hl)) (fun i t o x hi hx y hy=>by
     rw [BZ,van] at hi;obtain ⟨f,hf,he⟩:=hi;simp only [AL] at he;obtain ⟨rfl,rfl⟩:=he;exact hw y (bR (vaO (vaG hx)) y hy))
   obtain ⟨g,hg⟩:=key;rw [CC,vav (by omega)] at hg;exact ⟨g,hg⟩
  ·cases h
end
open Go Go.Proofs Go.RowKit Go.ChangeShapes Go.WideShapes
def QD:Kd→IV→V
 | .int k,x=>.int k x.toInt
 | .bool,x=>.bool x.toBool
 | .str,x=>.str x.toStr
 | .list ag ks,x=>.list ag ks x.toList
theorem rK {γ:Nat→Value} {o:Store} {w:World} {O:Nat→Prop} {k:Kd} {x:IV} {v:Value} (h:Kd.Rel w O k x v):VRel γ o w O (QD k x) v:=by
 cases k with
 | int k=>simpa only [QD,VRel,Kd.Rel] using h
 | bool=>simpa only [QD,VRel,Kd.Rel] using h
 | str=>simpa only [QD,VRel,Kd.Rel] using h
 | list ag ks=>
  simp only [QD,VRel];simpa only [Kd.Rel,IV.toList] using h
def VZ:List Kd→LI→List V
 | k :: ks,x :: f=>QD k x :: VZ ks f
 | _,_=>[]
theorem rN {γ:Nat→Value} {o:Store} {w:World} {O:Nat→Prop}:∀ {ks:List Kd} {f:LI} {cs:List Value},CellsK w O ks f cs→VRels γ o w O (VZ ks f) cs
 | [],[],[],_=>by simp only [VZ,VRels]
 | _ :: _,_ :: _,_ :: _,h=>by
  simp only [CellsK] at h;simp only [VZ,VRels];exact ⟨rK h.1,rN h.2⟩
 | [],_ :: _,_,h=>by simp [CellsK] at h
 | [],[],_ :: _,h=>by simp [CellsK] at h
 | _ :: _,[],_,h=>by simp [CellsK] at h
 | _ :: _,_ :: _,[],h=>by simp [CellsK] at h
theorem CellsK.len {w:World} {O:Nat→Prop}:∀ {ks:List Kd} {f:LI} {cs:List Value},CellsK w O ks f cs→f.length=ks.length
 | [],[],[],_=>rfl
 | _ :: _,_ :: _,_ :: _,h=>by
  simp only [CellsK] at h;simp only [List.length_cons,h.2.len]
 | [],_ :: _,_,h=>by simp [CellsK] at h
 | [],[],_ :: _,h=>by simp [CellsK] at h
 | _ :: _,[],_,h=>by simp [CellsK] at h
 | _ :: _,_ :: _,[],h=>by simp [CellsK] at h
section
variable {H:Type} {enc:TypeId × Value→H} {P:Program} {W:World} {base b0:Nat} {sp:Nat→Bool} {held:Bool}
theorem ZI {n:Nat} {t:TypeId} {ks:List Kd} {v:Value} {d:DataW H} {p:List MemPlace} (hk:LL P n t=some ks) (hu:NH P t=true) (hval:Value.okWide P W .any base t v)
  (h:DataW.Trod enc P W b0 sp held t v d p) (hw:∀ y∈d.weights P t,y≤reachBytes):∃ g:LI,g.length=ks.length∧VRel γ0 [] W O0 (.agg (VZ ks g)) v:=by
 obtain ⟨cs,rfl⟩:∃ cs,v = .agg cs:=by
  unfold NH at hu;unfold Value.okWide at hval;split at hu
  ·rename_i hh; rw [hh] at hval; exact hval.imp (fun _ h=>h.1)
  ·rename_i hh; rw [hh] at hval; exact hval.imp (fun _ h=>h.1)
  ·cases hu
 obtain ⟨fuel,hf⟩:=h;obtain ⟨g,hg⟩:=VW (O:=O0) fB n t ks fuel _ d p hk hf hw;refine ⟨g,hg.len,?_⟩;simp only [VRel];exact ⟨cs,rfl,rN hg⟩
theorem fN {n:Nat} {t:TypeId} {k:Kd} {v:Value} {d:DataW H} {p:List MemPlace} (hk:LL P n t=some [k]) (hu:NH P t=false) (hval:Value.okWide P W .any base t v)
  (h:DataW.Trod enc P W b0 sp held t v d p) (hw:∀ y∈d.weights P t,y≤reachBytes):∃ x:IV,VRel γ0 [] W O0 (QD k x) v:=by
 obtain ⟨fuel,hf⟩:=h;obtain ⟨g,hg⟩:=VW (O:=O0) fB n t [k] fuel _ d p hk hf hw;have hc:v.cells.toList=[v]:=by
  cases v with
  | agg cs=>
   exfalso;unfold NH at hu;unfold Value.okWide at hval;split at hu
   ·cases hu
   ·cases hu
   ·rename_i h1 h2;split at hval
    ·rename_i hh; exact h1 _ hh
    ·rename_i hh; exact h2 _ _ hh
    ·unfold Cell.okWide Cell.ok at hval;split at hval <;> first | (split at hval <;> simp_all) | simp_all
  | _=>rfl
 rw [hc] at hg
 match g,hg with
 | [x],hg=>
  simp only [CellsK,and_true] at hg;exact ⟨x,rK hg⟩
theorem rG (hl:laidOutB P=true) {W':World} (hb:Below W.heap.size W W'):∀ {ts:List TypeId} {vs:List Value} {ds:List (DataW H)} {ps:List MemPlace},DataW.TrodAll enc P W 0 (fun _=>true) true ts vs ds ps →
  (∀ t∈ts,P.readableRec t=true∧t < P.types.size)→(∀ x∈ps,x.block < W.heap.size)→DataW.TrodAll enc P W' 0 (fun b=>decide (b < W.heap.size)) true ts vs ds ps
 | [],vs,ds,ps,h,_,_=>by
  obtain ⟨rfl,rfl,rfl⟩:=trodAll_nil h;rfl
 | t :: ts,vs,ds,ps,h,ht,hp=>by
  obtain ⟨v,vs1,d,ds1,a,b,rfl,rfl,rfl,h1,h2⟩:=trodAll_cons h;have hh:=ht t (List.mem_cons_self ..);exact ⟨a,b,Below.trod hl hh.1 hh.2 h1 hb (fun x hx=>hp x (List.mem_append.2 (.inl hx))),rG hl hb h2 (fun t' h'=>ht t' (List.mem_cons_of_mem _ h')) (fun x hx=>hp x (List.mem_append.2 (.inr hx))),rfl⟩
end
theorem Jf:ownKnob Tryz.prog.godebug=none:=by kernel_rfl
theorem Je:laidOutB Tryz.prog=true:=by kernel_rfl
theorem Bn {os:Os} (started:os.Started) {H:Type} {enc:TypeId × Value→H} {spec:ChangeSpec} {f:Nat} {fn:Func} {sp:C2} {laid:List (String × DataW Unit)} (hS:C5 PR B0 f sp) (hf:Tryz.prog.funcs[f]?=some fn)
  (hn:(fn.name == "runtime.NumGoroutine")=false) (hb:fn.body.isNone=false) (hini:Tryz.prog.inits.idxOf? f=none) (hres:fn.resultTypes = #[4]) (hvars:spec.vars=[])
  (hspec:∀ (ds:List (DataW H)),ds.length=fn.params.toList.length→spec.fn H ds={ results:=[.lit (.bool true)],args:=ds })
  (hpar:fn.params.toList.all (fun t=>Tryz.prog.readableRec t&&decide (t < Tryz.prog.types.size))=true)
  (hglob:∀ W:World,laidMetH Tryz.prog laid W→W.ShapedOpen Tryz.prog→Glob B0 W)
  (witness:∃ (w:World) (tape:Tape) (i:Input),w.os=os∧(w.forCall tape i).Shaped Tryz.prog∧i.vars=[]∧Input.okWide Tryz.prog (w.forCall tape i) .any w.heap.size f i ∧
   (OpenSpec.ofChange spec).preRow enc Tryz.prog fn [] false laid (w.forCall tape i).memory i.args∧({}:Assume).holds Tryz.prog (lone (Frame.enter Tryz.prog f i.args .normal) [] (w.forCall tape i)))
  (harg:∀ (W:World) (base:Nat) (vs:List Value) (ds:List (DataW H)) (p:List MemPlace),DataW.TrodAll enc Tryz.prog W 0 (fun _=>true) true fn.params.toList vs ds p →
   (∀ (j:Nat) t v,fn.params.toList[j]?=some t→vs[j]?=some v→Value.okWide Tryz.prog W .any base t v) →
   (∀ (j:Nat) t d,fn.params.toList[j]?=some t→ds[j]?=some d→∀ y∈d.weights Tryz.prog t,y≤reachBytes) →
   ∃ l:List V,(sp l).get=some (.bool true,[])∧EC l=none∧VRels γ0 [] W O0 (l.map DS) vs) :
  ReturnsInHanded {} Tryz.checked os f .any ((OpenSpec.ofChange spec).preRow enc Tryz.prog fn [] false laid) (spec.post enc Tryz.prog fn false true false false):=by
 refine returnsInHanded_of_row (C:=Tryz.checked) (s:=OpenSpec.ofChange spec) (F:=fun _ _ _=>0) Jf started hini hf witness ?_;intro W base args ds gs before hval hW _ _ hwt hL hsh _;have hW':=hW;obtain ⟨p,q,hA,hV,rfl,_,_⟩:=hW;have hvars':(OpenSpec.ofChange spec).vars=[]:=hvars;rw [hvars'] at hV;obtain ⟨rfl,rfl⟩:=trodVars_none hV;have hlen:ds.length=fn.params.toList.length:=by
  have:∀ {ts:List TypeId} {vs:List Value} {ds:List (DataW H)} {ps:List MemPlace},DataW.TrodAll enc Tryz.prog W 0 (fun _=>true) true ts vs ds ps→ds.length=ts.length:=by
   intro ts
   induction ts with
   | nil=>intro vs ds ps h; obtain ⟨_,rfl,_⟩:=trodAll_nil h; rfl
   | cons t ts ih=>
    intro vs ds ps h;obtain ⟨v,vs1,d,ds1,a,b,rfl,rfl,rfl,h1,h2⟩:=trodAll_cons h;simp only [List.length_cons,ih h2]
  exact this hA
 simp only [List.append_nil] at hW' hwt;obtain ⟨l,hl,hbor,hrel⟩:=harg W base args.toList ds p hA (fun j t v h1 h2=>hval j t v (by simpa using h1) (by simpa using h2)) (fun j t d h1 h2 y hy=>by
  have hm:=bS (P:=Tryz.prog) (ts:=fn.params.toList++(OpenSpec.ofChange spec).bare.plain.varTypes Tryz.prog) (ds:=ds) (i:=j) (t:=t) (d:=d) (by
   rw [List.getElem?_append_left (by rw [← hlen]; exact (List.getElem?_eq_some_iff.1 h2).1)];exact h1) h2 y hy
  have:=List.all_eq_true.1 hwt y hm
  simpa using this)
 have hc:=uR hS hf hn hb hl hbor (hglob W hL hsh) hrel;have ea:args.toList.toArray=args:=by simp
 rw [ea] at hc;refine hc.mono ?_;rintro e W' ⟨rfl,bel⟩;have hfn:spec.fn H (ds++[])={ results:=[.lit (.bool true)],args:=ds }:=by rw [List.append_nil]; exact hspec ds hlen
 have hlt:∀ x∈p,x.block < W.heap.size:=fun x hx=>hW'.lt x hx
 have post:spec.post enc Tryz.prog fn false true false false W args (.bool true) W':=by
  refine ⟨ds,[],p,[],p,[],hW',?_,?_,?_,bel.frame _,fun h=>by cases h⟩
  ·rw [hfn,hres];exact trodAll_mk1 (shut_bool Tryz.underlying4 _)
  ·rw [hfn];exact rG Je bel hA (fun t ht=>by
    have:=List.all_eq_true.1 hpar t ht
    simpa using this) hlt
  ·rw [hvars,hfn];rfl
 exact ⟨_,rfl,post⟩
end Go.FM
namespace Go.Proofs.YtihliihljmfhlaaGreat
open Go Go.ChangeShapes Go.WideShapes Go.ChangeAt Go.RowKit Go.FM
noncomputable def oR (os:Os):World:=World.doorLaid Tryz.prog 72 os
theorem Jh (os:Os) (args:Array Value):laidMetH Tryz.prog [] ((oR os).forCall (fun _ _=>0) ⟨#[],args,[]⟩).memory:=
 laidMetH_of_parts3 (fuel:=8) (laidMet_of_run' 8 (by kernel_rfl) (by kernel_rfl)) (by kernel_rfl) (by kernel_rfl)
theorem Jg {W:World} (_:laidMetH Tryz.prog [] W) (_:W.ShapedOpen Tryz.prog):Glob B0 W:=⟨Nat.zero_le _,⟨trivial⟩⟩
end Go.Proofs.YtihliihljmfhlaaGreat
