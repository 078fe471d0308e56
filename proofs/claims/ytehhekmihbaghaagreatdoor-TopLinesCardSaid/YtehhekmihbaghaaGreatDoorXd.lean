/-
  A small machine that reckons what a call comes to; the functions of the program, one by one. (WHAT span's, box's, couple's, leaves', bound's, grid's, quer, NORMAL FORMS: what the functions' runs come to (written by a, NORMAL FORMS: what the functions' runs come to (written by a, and so on.)
-/
import Derived.Test.YtehhekmihbaghaaGreatDoorXc
set_option linter.all false
set_option maxRecDepth 100000
open Array renaming getElem?_eq_some_iff→DF,getElem?_toList→vau,getElem?_modify→va3
open Bool renaming and_eq_true→AH,not_true→A2,true_and→A6,not_false→A8,false_and→BM,and_true→B1,and_self→B3,not_eq_true'→B4,and_false→vae,or_eq_true→van,or_eq_false_iff→vaq,false_or→vaw,eq_iff_iff→va1
open Go.Addr.mk renaming injEq→DH
open Go.IntKind renaming wrap→AA,i64→AB
open Go.Lib renaming compactUpTo→vbt
open Go.ResultVar renaming tmp→CE,cell→va4
open Go.Sort renaming ahead→vbH
open Go.Value renaming ownBlock→CC
open Go.Value.slice renaming injEq→CH
open Go.World renaming cell?→vaL
open Int renaming toNat→AE,toNat_natCast→BF,le_refl→vab
open List renaming length→AF,getD→AI,take→AK,length_cons→AM,mem_cons_self→AN,mem_cons→AO,drop→AS,length_append→AT,mem_append→AX,mem_cons_of_mem→AY,map_cons→A0,map→A3,length_nil→A7,getElem?_eq_getElem→A9,length_take→BB,length_map→BE,drop_eq_getElem_cons→BG,mem_singleton→BL,replicate→BN,take_length→BO,getElem?_eq_some_iff→BR,getD_eq_getElem?_getD→BV,getElem?_cons_zero→BY,getElem?_eq_none→BZ,drop_zero→B2,getElem?_map→B9,map_nil→CA,mem_map→CJ,getElem?_take→CL,all_eq_true→CQ,drop_of_length_le→CS,cons_append→CT,take_of_length_le→CV,getElem_mem→C1,length_singleton→C3,nil_append→C5,getElem?_cons_succ→C6,append_nil→DB,getElem?_append→vaf,mem_of_getElem?→vag,flatMap_cons→vao,drop_length→vaA,range→vaC,length_set→vaF,append_assoc→vaH,mem_of_mem_take→vaI,map_map→vaY,mem_range→va6,sum_cons→vbc,filter_cons→vbm,pairwise_cons→vbF
open List.Perm renaming refl→vbL
open Nat renaming le_of_ble_eq_true→AP,le_refl→AZ,zero_add→BI,beq→BQ,blt→BS,zero_le→B5,ble→B6,le_trans→C2,ble_eq_true_of_le→C7,add_zero→DA,lt_or_ge→DD,min_eq_left→vay,sub_zero→vaD,add_assoc→vaT,beq_refl→vbn
open Option renaming getD→vbb
open Option.some renaming injEq→AC,inj→CR
open Prod.mk renaming injEq→AU
namespace Go.FM
open Go
def Nd.cs (x:Nd):List FM.V:=[.bool x.lf,.int .i64 x.v,.int .i64 x.f,.int .i64 x.a,.int .i64 x.l,.int .i64 x.r]
def Nd.V (x:Nd):FM.V:=.agg x.cs
def Md.cs (m:Md):List FM.V:=[.int .i64 m.d,.int .i64 m.c,.int .i64 m.b0,.int .i64 m.b1,.int .i64 m.b2,.list true [.z,.list false [.int .u64]] m.ts]
def Md.V (m:Md):FM.V:=.agg m.cs
def Qy.cs (q:Qy):List FM.V:=[.int .i64 q.k,.int .i64 q.c,.int .i64 q.a0,.int .i64 q.b0,.int .i64 q.a1,.int .i64 q.b1,.int .i64 q.a2,.int .i64 q.b2,.int .i64 q.a3,.int .i64 q.b3,.int .i64 q.a4,.int .i64 q.b4,.int .i64 q.lo,.int .i64 q.hi,.int .i64 q.ft,.bool q.fl,.int .i64 q.bu]
def Vd.cs (v:Vd):List FM.V:=[.int .i64 v.kind,.list true [.bool,.z,.z] v.proof,.int .i64 v.w0,.int .i64 v.w1,.int .i64 v.w2,.int .i64 v.w3,.int .i64 v.twin,.int .i64 v.spent]
def Ak.cs (a:Ak):List FM.V:=[.int .i64 a.k,.int .i64 a.c,.int .i64 a.lo,.int .i64 a.size,.int .i64 a.ft,.int .i64 a.bu,.bool a.fl,.list false [.z] a.sp]
def Ak.V (a:Ak):FM.V:=.agg a.cs
structure Sp where
 lo:Int
 hi:Int
def Sp.cs (s:Sp):List FM.V:=[.int .i64 s.lo,.int .i64 s.hi]
def Sp.V (s:Sp):FM.V:=.agg s.cs
structure Bx where
 s0:Sp
 s1:Sp
 s2:Sp
 s3:Sp
 s4:Sp
def Bx.g (b:Bx):Nat→Sp
 | 0=>b.s0
 | 1=>b.s1
 | 2=>b.s2
 | 3=>b.s3
 | _=>b.s4
def Bx.p (b:Bx) (s:Sp):Nat→Bx
 | 0=>⟨s,b.s1,b.s2,b.s3,b.s4⟩
 | 1=>⟨b.s0,s,b.s2,b.s3,b.s4⟩
 | 2=>⟨b.s0,b.s1,s,b.s3,b.s4⟩
 | 3=>⟨b.s0,b.s1,b.s2,s,b.s4⟩
 | _=>⟨b.s0,b.s1,b.s2,b.s3,s⟩
def Bx.cs (b:Bx):List FM.V:=[.int .i64 b.s0.lo,.int .i64 b.s0.hi,.int .i64 b.s1.lo,.int .i64 b.s1.hi,.int .i64 b.s2.lo,.int .i64 b.s2.hi,.int .i64 b.s3.lo,.int .i64 b.s3.hi,.int .i64 b.s4.lo,.int .i64 b.s4.hi]
def Bx.V (b:Bx):FM.V:=.agg b.cs
structure Pt where
 p0:Int
 p1:Int
 p2:Int
 p3:Int
def Pt.cs (p:Pt):List FM.V:=[.int .i64 p.p0,.int .i64 p.p1,.int .i64 p.p2,.int .i64 p.p3]
def Pt.V (p:Pt):FM.V:=.agg p.cs
def Pt.g (p:Pt):Nat→Int
 | 0=>p.p0
 | 1=>p.p1
 | 2=>p.p2
 | _=>p.p3
def spOf?:List FM.V→Option Sp
 | [.int .i64 a,.int .i64 b]=>some ⟨a,b⟩
 | _=>none
def ptOf?:List FM.V→Option Pt
 | [.int .i64 a,.int .i64 b,.int .i64 c,.int .i64 d]=>some ⟨a,b,c,d⟩
 | _=>none
def bxOf?:List FM.V→Option Bx
 | [.int .i64 a0,.int .i64 b0,.int .i64 a1,.int .i64 b1,.int .i64 a2,.int .i64 b2,.int .i64 a3,.int .i64 b3,.int .i64 a4,.int .i64 b4]=>some ⟨⟨a0,b0⟩,⟨a1,b1⟩,⟨a2,b2⟩,⟨a3,b3⟩,⟨a4,b4⟩⟩
 | _=>none
def mdOf?:List FM.V→Option Md
 | [.int .i64 d,.int .i64 c,.int .i64 b0,.int .i64 b1,.int .i64 b2,.list true [.z,.list false [.int .u64]] ts]=>some ⟨d,c,b0,b1,b2,ts⟩
 | _=>none
def qyOf?:List FM.V→Option Qy
 | [.int .i64 k,.int .i64 c,.int .i64 a0,.int .i64 b0,.int .i64 a1,.int .i64 b1,.int .i64 a2,.int .i64 b2,.int .i64 a3,.int .i64 b3,.int .i64 a4,.int .i64 b4,.int .i64 lo,.int .i64 hi,.int .i64 ft,.bool fl,.int .i64 bu]=>
  some ⟨k,c,a0,b0,a1,b1,a2,b2,a3,b3,a4,b4,lo,hi,ft,fl,bu⟩
 | _=>none
def vdOf?:List FM.V→Option Vd
 | [.int .i64 k,.list true [.bool,.z,.z] p,.int .i64 a,.int .i64 b,.int .i64 c,.int .i64 d,.int .i64 t,.int .i64 s]=>some ⟨k,p,a,b,c,d,t,s⟩
 | _=>none
def SB {α:Type} (of:List FM.V→Option α) (v:FM.V) (k:α→R):R:=
 match v with
 | .agg l=>match of l with | some x=>k x | none=>.no
 | _=>.no
abbrev mT (v:FM.V) (k:Sp→R):R:=SB spOf? v k
abbrev V2 (v:FM.V) (k:Pt→R):R:=SB ptOf? v k
abbrev JL (v:FM.V) (k:Bx→R):R:=SB bxOf? v k
abbrev J1 (v:FM.V) (k:Md→R):R:=SB mdOf? v k
abbrev KF (v:FM.V) (k:Qy→R):R:=SB qyOf? v k
abbrev vF (v:FM.V) (k:Vd→R):R:=SB vdOf? v k
theorem V1 {α:Type} {of:List FM.V→Option α} {v:FM.V} {k:α→R} {z:FM.V × List (List FM.V)} (h:(SB of v k).get=some z):∃ l x,v = .agg l∧of l=some x∧(k x).get=some z:=by
 unfold SB at h;split at h
 ·rename_i l;split at h
  ·rename_i x hx;exact ⟨l,x,rfl,hx,h⟩
  ·simp [R.get] at h
 ·simp [R.get] at h
theorem vE {v:FM.V} {k:Sp→R} {z:FM.V × List (List FM.V)} (h:(mT v k).get=some z):∃ x:Sp,v=x.V∧(k x).get=some z:=by
 obtain ⟨l,x,rfl,hx,h⟩:=V1 h;unfold spOf? at hx;split at hx
 ·simp only [AC] at hx;subst hx;exact ⟨_,rfl,h⟩
 ·cases hx
theorem YR {v:FM.V} {k:Pt→R} {z:FM.V × List (List FM.V)} (h:(V2 v k).get=some z):∃ x:Pt,v=x.V∧(k x).get=some z:=by
 obtain ⟨l,x,rfl,hx,h⟩:=V1 h;unfold ptOf? at hx;split at hx
 ·simp only [AC] at hx;subst hx;exact ⟨_,rfl,h⟩
 ·cases hx
theorem J0 {v:FM.V} {k:Bx→R} {z:FM.V × List (List FM.V)} (h:(JL v k).get=some z):∃ x:Bx,v=x.V∧(k x).get=some z:=by
 obtain ⟨l,x,rfl,hx,h⟩:=V1 h;unfold bxOf? at hx;split at hx
 ·simp only [AC] at hx;subst hx;exact ⟨_,rfl,h⟩
 ·cases hx
theorem KE {v:FM.V} {k:Md→R} {z:FM.V × List (List FM.V)} (h:(J1 v k).get=some z):∃ x:Md,v=x.V∧(k x).get=some z:=by
 obtain ⟨l,x,rfl,hx,h⟩:=V1 h;unfold mdOf? at hx;split at hx
 ·simp only [AC] at hx;subst hx;exact ⟨_,rfl,h⟩
 ·cases hx
theorem KS {v:FM.V} {k:Qy→R} {z:FM.V × List (List FM.V)} (h:(KF v k).get=some z):∃ x:Qy,v=x.V∧(k x).get=some z:=by
 obtain ⟨l,x,rfl,hx,h⟩:=V1 h;unfold qyOf? at hx;split at hx
 ·simp only [AC] at hx;subst hx;exact ⟨_,rfl,h⟩
 ·cases hx
theorem Qc {v:FM.V} {k:Vd→R} {z:FM.V × List (List FM.V)} (h:(vF v k).get=some z):∃ x:Vd,v=x.V∧(k x).get=some z:=by
 obtain ⟨l,x,rfl,hx,h⟩:=V1 h;unfold vdOf? at hx;split at hx
 ·simp only [AC] at hx;subst hx;exact ⟨_,rfl,h⟩
 ·cases hx
def Sp.emp (s:Sp):Bool:=decide (s.lo > s.hi)
def Sp.has (s:Sp) (n:Int):Bool:=decide (s.lo≤n)&&decide (n≤s.hi)
def M8 (lo hi:Int):Sp:=cond (decide (lo > hi)) ⟨1,0⟩ ⟨lo,hi⟩
def Sp.cutL (s:Sp) (a:Int):Sp:=M8 s.lo (min s.hi a)
def Sp.cutH (s:Sp) (a:Int):Sp:=cond (decide (a≥s.hi)) ⟨1,0⟩ (M8 (max s.lo (FO (a+1))) s.hi)
def WY:DV
 | []=>.ok (.agg [.int .i64 1,.int .i64 0]) []
 | _=>.no
def dT:DV
 | [.int .i64 lo,.int .i64 hi]=>.ok (M8 lo hi).V []
 | _=>.no
def WW:DV
 | [s]=>mT s fun s=>.ok (.bool (s.emp)) []
 | _=>.no
def WX:DV
 | [s,.int .i64 n]=>mT s fun s=>.ok (.bool (s.has n)) []
 | _=>.no
def iJ:DV
 | [s,.int .i64 n]=>mT s fun s=>.ok (.tup [(s.cutL n).V,(s.cutH n).V]) []
 | _=>.no
def Bx.I (b:Bx):IV:=.agg [.int b.s0.lo,.int b.s0.hi,.int b.s1.lo,.int b.s1.hi,.int b.s2.lo,.int b.s2.hi,.int b.s3.lo,.int b.s3.hi,.int b.s4.lo,.int b.s4.hi]
abbrev cI (x:IV) (j:Nat):Int:=(x.cell j).toInt
def D7 (x:IV):Bx:=⟨⟨cI x 0,cI x 1⟩,⟨cI x 2,cI x 3⟩,⟨cI x 4,cI x 5⟩,⟨cI x 6,cI x 7⟩,⟨cI x 8,cI x 9⟩⟩
abbrev FB:List Kd:=[.z,.z,.z,.z,.z,.z,.z,.z,.z,.z]
def Bx.emp (b:Bx):Bool:=b.s0.emp||(b.s1.emp||(b.s2.emp||(b.s3.emp||b.s4.emp)))
def ZB:Bx:=⟨⟨0,0⟩,⟨0,0⟩,⟨0,0⟩,⟨0,0⟩,⟨0,0⟩⟩
def H9 (i:Int):Bool:=decide (0≤i)&&decide (i < 5)
def Bx.cutL (b:Bx) (i a:Int):Bx:=b.p ((b.g i.toNat).cutL a) i.toNat
def Bx.cutH (b:Bx) (i a:Int):Bx:=b.p ((b.g i.toNat).cutH a) i.toNat
def Pt.p (p:Pt) (x:Int):Nat→Pt
 | 0=>⟨x,p.p1,p.p2,p.p3⟩
 | 1=>⟨p.p0,x,p.p2,p.p3⟩
 | 2=>⟨p.p0,p.p1,x,p.p3⟩
 | _=>⟨p.p0,p.p1,p.p2,x⟩
def Bx.low (b:Bx):Pt:=⟨b.s0.lo,b.s1.lo,b.s2.lo,b.s3.lo⟩
def Bx.has (b:Bx) (p:Pt) (t:Int):Bool:=b.s0.has p.p0&&(b.s1.has p.p1&&(b.s2.has p.p2&&(b.s3.has p.p3&&b.s4.has t)))
def K9:DV
 | [b]=>JL b fun b=>.ok (.bool (b.emp)) []
 | _=>.no
def bX:DV
 | [b]=>JL b fun b=>.ok b.low.V []
 | _=>.no
def bW:DV
 | [b,p,.int .i64 t]=>JL b fun b=>V2 p fun p=>.ok (.bool (b.has p t)) []
 | _=>.no
def P0:DV
 | [b,.int .i64 i,.int .i64 a]=>JL b fun b=>.br (H9 i) (.ok (.tup [(b.cutL i a).V,(b.cutH i a).V]) []) .no
 | _=>.no
def IU (l:LI) (p:Pt):Nat→Int→Int × Nd
 | 0,_=>(-1,Nd.zero)
 | n+1,a=>
  cond (decide (a≥ic l.length)) (-1,Nd.zero)
   (cond (!(GJ (l.getD a.toNat default).toInt)) (-1,Nd.zero)
    (cond (DL (l.getD a.toNat default).toInt).lf (a,DL (l.getD a.toNat default).toInt)
     (cond (decide (p.g (DL (l.getD a.toNat default).toInt).f.toNat≤(DL (l.getD a.toNat default).toInt).a)) (IU l p n (DL (l.getD a.toNat default).toInt).l) (IU l p n (DL (l.getD a.toNat default).toInt).r))))
def Xo (l:LI) (p:Pt):Int:=(IU l p 31 0).1
def jP (l:LI) (p:Pt):Nd:=(IU l p 31 0).2
def dX:DV
 | [.list false [.int .u64] l,p]=>V2 p fun p=>.ok (.tup [.int .i64 (Xo l p),(jP l p).V]) []
 | _=>.no
def HE (l:LI) (p:Pt):Int:=(jP l p).v
def dW:DV
 | [.list false [.int .u64] l,p]=>V2 p fun p=>.ok (.int .i64 (HE l p)) []
 | _=>.no
def LY (m:Md) (c:Int):Int:=cond (c==0) m.b0 (cond (c==1) m.b1 m.b2)
abbrev VS (t:IV):Int:=cI t 0
abbrev FI (t:IV):LI:=(t.cell 1).toList
def QD (c:Int) (p:Pt):LI→Int→Int
 | [],s=>s
 | t :: r,s=>QD c p r (cond (VS t==c) (s+HE (FI t) p) s)
def IH (m:Md) (c:Int):Bool:=decide (0≤c)&&decide (c < m.c)
def dC:DV
 | [m,.int .i64 k,p]=>J1 m fun m=>V2 p fun p=>.br (EX m&&IH m k) (.ok (.int .i64 (QD k p m.ts (LY m k))) []) .no
 | _=>.no
def ET (m:Md) (k:Int) (p:Pt):Int:=cond (EX m&&IH m k) (QD k p m.ts (LY m k)) 0
def c8:DV
 | [m,.int .i64 k,p]=>J1 m fun m=>V2 p fun p=>.ok (.int .i64 (ET m k p)) []
 | _=>.no
def XM (x:Int):List Int→List Int
 | []=>[x]
 | y :: r=>cond (decide (x≤y)) (x :: y :: r) (y :: XM x r)
def K4:List Int→List Int
 | []=>[]
 | x :: r=>XM x (K4 r)
def MV:Int→List Int→List Int
 | _,[]=>[]
 | p,x :: r=>cond (x==p) (MV x r) (x :: MV x r)
def KH:List Int→List Int
 | []=>[]
 | x :: r=>x :: MV x r
def JA (f:Int) (w:IV):List Int:=cond (!(DL w.toInt).lf&&(DL w.toInt).f==f) [(DL w.toInt).a] []
def IQ (ts:LI) (f:Int):List Int:=ts.flatMap fun t=>(FI t).flatMap (JA f)
def JV (ts:LI) (f:Int):List Int:=KH (K4 (IQ ts f))
def iZ (l:List Int):LI:=l.map IV.int
def dA:DV
 | [m,.int .i64 f]=>J1 m fun m=>.br (EX m) (.ok (.vec 3 false [.z] (iZ (JV m.ts f))) []) .no
 | _=>.no
def j6:Ip:=⟨3,false,fun rs l=>match rs with
 | []=>some (iZ (K4 (l.map IV.toInt)))
 | _=>none⟩
def j4:Ip:=⟨3,true,fun rs l=>match rs with
 | []=>some (iZ (KH (l.map IV.toInt)))
 | _=>none⟩
def LF (a b:Int) (l:List Int):List Int:=l.filter fun t=>!(decide (t < a)||decide (t≥b))
def j5:Ip:=⟨3,true,fun rs l=>match rs with
 | [.clo f [.bor [.int .i64 a,.int .i64 b]]]=>cond (BQ f 169) (some (iZ (LF a b (l.map IV.toInt)))) none
 | _=>none⟩
def Qy.bx (q:Qy):Bx:=⟨⟨q.a0,q.b0⟩,⟨q.a1,q.b1⟩,⟨q.a2,q.b2⟩,⟨q.a3,q.b3⟩,⟨q.a4,q.b4⟩⟩
def K5 (d i:Int) (s:Sp):Bool:=!(decide (i≥d)&&!((s.lo==0)&&(s.hi==0)))&&(!s.emp&&(E5 s.lo&&E5 s.hi))
def QL (b:Bx) (d:Int):Bool:=K5 d 0 b.s0&&(K5 d 1 b.s1&&(K5 d 2 b.s2&&(K5 d 3 b.s3&&K5 d 4 b.s4)))
def dM:DV
 | [b,.int .i64 d]=>JL b fun b=>.ok (.bool (QL b d)) []
 | _=>.no
def RL (m:Md) (q:Qy):Bool:=
 cond (q.k==1) (decide (q.lo≤q.hi)&&((q.ft==0)&&!q.fl))
  (cond (q.k==2) (decide (m.c≥2)&&((q.lo==0)&&((q.hi==0)&&((q.ft==0)&&!q.fl))))
   (cond (q.k==3) (decide (q.ft≥0)&&(decide (q.ft < m.d)&&((q.lo==0)&&(q.hi==0)))) false))
def E8 (m:Md) (q:Qy):Bool:=EX m&&(decide (q.c≥0)&&(decide (q.c < m.c)&&(decide (q.bu≥0)&&(decide (q.bu≤65536)&&(QL q.bx m.d&&RL m q)))))
def HB (q:Qy):Bool:=(q.k==3)&&(decide (q.ft≥0)&&decide (q.ft < 4))
def GE (q:Qy):Bx:=q.bx.p (cond (HB q) (q.bx.g q.ft.toNat) ⟨0,0⟩) 4
def JJ (q:Qy) (p:Pt) (t:Int):Pt:=cond (HB q) (p.p t q.ft.toNat) p
def fY (m:Md) (q:Qy) (p:Pt) (own:Int):Bool:=(vaC m.c.toNat).any fun c=>!((c:Int)==q.c)&&decide (ET m (c:Int) p≥own)
def HJ (m:Md) (q:Qy) (p:Pt) (t:Int):Bool:=
 E8 m q &&
  cond (q.k==1) (!(Sp.has ⟨q.lo,q.hi⟩ (ET m q.c p)))
   (cond (q.k==2) (fY m q p (ET m q.c p))
    (cond (decide (p.g q.ft.toNat≥t)) false
     (cond q.fl (decide (ET m q.c (JJ q p t) > ET m q.c p)) (decide (ET m q.c (JJ q p t) < ET m q.c p)))))
def PG (n:Nd) (i:Nat) (own:LI):LI:=
 cond n.lf own ((own.set n.l.toNat ((D7 (own.getD i default)).cutL n.f n.a).I).set n.r.toNat ((D7 (own.getD i default)).cutH n.f n.a).I)
def f8 (b:Bx) (v:Int):IV:=.agg [.int b.s0.lo,.int b.s0.hi,.int b.s1.lo,.int b.s1.hi,.int b.s2.lo,.int b.s2.hi,.int b.s3.lo,.int b.s3.hi,.int b.s4.lo,.int b.s4.hi,.int v]
abbrev HR (x:IV):Int:=cI x 10
abbrev MX:List Kd:=[.z,.z,.z,.z,.z,.z,.z,.z,.z,.z,.z]
def OK:LI→Nat→LI→LI→LI
 | [],_,_,out=>out
 | w :: r,i,own,out=>OK r (i+1) (PG (DL w.toInt) i own) (cond ((DL w.toInt).lf&&!(D7 (own.getD i default)).emp) (out++[f8 (D7 (own.getD i default)) (DL w.toInt).v]) out)
def IX (l:LI) (b:Bx):LI:=cond (G1 l 4&&!b.emp) (OK l 0 ((BN l.length ZB.I).set 0 b.I) []) []
def c7:DV
 | [.list false [.int .u64] l,b]=>JL b fun b=>.ok (.list true MX (IX l b)) []
 | _=>.no
def PI:LI→Int→Int
 | [],a=>a
 | x :: r,a=>PI r (min a (HR x))
def PH:LI→Int→Int
 | [],a=>a
 | x :: r,a=>PH r (max a (HR x))
def gD (ps:LI):Int:=PI ps (HR (ps.getD 0 default))
def gC (ps:LI):Int:=PH ps (HR (ps.getD 0 default))
def YE (l:LI) (b:Bx):Bool:=!((IX l b).isEmpty)
def IF (l:LI) (b:Bx):Int:=cond (YE l b) (gD (IX l b)) 0
def IE (l:LI) (b:Bx):Int:=cond (YE l b) (gC (IX l b)) 0
def bV:DV
 | [.list false [.int .u64] l,b]=>JL b fun b=>.ok (.tup [.int .i64 (IF l b),.int .i64 (IE l b),.bool (YE l b)]) []
 | _=>.no
def I9 (h:LI→Int) (c:Int):LI→Int→Int
 | [],s=>s
 | t :: r,s=>I9 h c r (cond (VS t==c) (s+h (FI t)) s)
def G8 (m:Md) (c:Int) (b:Bx):Bool:=EX m&&(IH m c&&!b.emp)
def EA (m:Md) (c:Int) (b:Bx):Int:=cond (G8 m c b) (I9 (fun l=>IF l b) c m.ts (LY m c)) 0
def D8 (m:Md) (c:Int) (b:Bx):Int:=cond (G8 m c b) (I9 (fun l=>IE l b) c m.ts (LY m c)) 0
def SN:DV
 | [m,.int .i64 k,b]=>J1 m fun m=>JL b fun b=>.ok (.tup [.int .i64 (EA m k b),.int .i64 (D8 m k b),.bool (G8 m k b)]) []
 | _=>.no
def RQ (m:Md) (c lo:Int) (b:Bx):Nat→Int→Int→Bool→Int
 | 0,_,a,_=>a
 | n+1,i,a,z=>cond (i==c) (RQ m c lo b n (i+1) a z)
  (cond (!z||decide (lo - D8 m i b < a)) (RQ m c lo b n (i+1) (lo - D8 m i b) true) (RQ m c lo b n (i+1) a z))
def NU (m:Md) (c:Int) (b:Bx):Bool:=G8 m c b&&decide (m.c≥2)
def VA (m:Md) (c:Int) (b:Bx):Int:=cond (NU m c b) (RQ m c (EA m c b) b m.c.toNat 0 0 false) 0
def bU:DV
 | [m,.int .i64 k,b]=>J1 m fun m=>JL b fun b=>.ok (.tup [.int .i64 (VA m k b),.bool (NU m k b)]) []
 | _=>.no
def J6 (q:Qy) (b:Bx):Bx:=cond (HB q) (b.p ⟨0,0⟩ 4) b
def KA (q:Qy) (b:Bx):Bx:=cond (HB q) ((b.p b.s4 q.ft.toNat).p ⟨0,0⟩ 4) b
def QI (q:Qy) (b:Bx):Bool:=HB q&&(!b.emp&&decide ((b.g q.ft.toNat).lo < b.s4.hi))
def LC (m:Md) (q:Qy) (b:Bx):Bool:=HB q&&(G8 m q.c (J6 q b)&&G8 m q.c (KA q b))
def S3 (m:Md) (q:Qy) (b:Bx):Int:=cond (LC m q b) (EA m q.c (KA q b) - D8 m q.c (J6 q b)) 0
def S2 (m:Md) (q:Qy) (b:Bx):Int:=cond (LC m q b) (D8 m q.c (KA q b) - EA m q.c (J6 q b)) 0
def GW (m:Md) (q:Qy) (b:Bx):Bool:=
 E8 m q &&
  cond b.emp true
   (cond (q.k==1) (G8 m q.c b&&(decide (q.lo≤EA m q.c b)&&decide (D8 m q.c b≤q.hi)))
    (cond (q.k==2) (NU m q.c b&&decide (VA m q.c b > 0))
     (cond (!(QI q b)) true
      (cond q.fl (LC m q b&&decide (S2 m q b≤0)) (LC m q b&&decide (S3 m q b≥0))))))
def IW (q:Qy) (i:Int):Int:=cond (decide (i≥0)&&decide (i < 4)) i (cond ((i==4)&&(q.k==3)) q.ft (-1))
def FG (m:Md) (q:Qy) (b:Bx) (i:Nat):List Int:=
 cond (decide (IW q (i:Int) < 0)) [] (LF (b.g i).lo (b.g i).hi (JV m.ts (IW q (i:Int))))
def LR (m:Md) (q:Qy) (b:Bx):Nat→Nat→Option (Int × Int)
 | 0,_=>none
 | n+1,i=>cond (decide ((FG m q b i).length > 0)) (some ((i:Int),(FG m q b i).getD (((FG m q b i).length - 1) / 2) 0)) (LR m q b n (i+1))
def E1 (m:Md) (q:Qy) (b:Bx):Option (Int × Int):=LR m q b 5 0
def dL:DV
 | [m,q]=>J1 m fun m=>KF q fun q=>.ok (.bool (RL m q)) []
 | _=>.no
def MQ:DV
 | [m,q]=>J1 m fun m=>KF q fun q=>.ok (.bool (E8 m q)) []
 | _=>.no
def WV:DV
 | [q]=>KF q fun q=>.ok (.bool (HB q)) []
 | _=>.no
def P3:DV
 | [q]=>KF q fun q=>.ok (.bool (HB q)) []
 | _=>.no
def WU:DV
 | [q]=>KF q fun q=>.ok (GE q).V []
 | _=>.no
def dK:DV
 | [q,p,.int .i64 t]=>KF q fun q=>V2 p fun p=>.ok (JJ q p t).V []
 | _=>.no
def WT:DV
 | [m,q,p,.int .i64 t]=>J1 m fun m=>KF q fun q=>V2 p fun p=>.ok (.bool (HJ m q p t)) []
 | _=>.no
def cO:DV
 | [q,b]=>KF q fun q=>JL b fun b=>.ok (J6 q b).V []
 | _=>.no
def cQ:DV
 | [q,b]=>KF q fun q=>JL b fun b=>.ok (KA q b).V []
 | _=>.no
def cP:DV
 | [q,b]=>KF q fun q=>JL b fun b=>.ok (.bool (QI q b)) []
 | _=>.no
def cN:DV
 | [m,q,b]=>J1 m fun m=>KF q fun q=>JL b fun b=>.ok (.tup [.int .i64 (S3 m q b),.int .i64 (S2 m q b),.bool (LC m q b)]) []
 | _=>.no
def cT:DV
 | [m,q,b]=>J1 m fun m=>KF q fun q=>JL b fun b=>.ok (.bool (GW m q b)) []
 | _=>.no
def cU:DV
 | [b]=>JL b fun b=>.ok (.tup [b.low.V,.int .i64 b.s4.hi]) []
 | _=>.no
def cX:DV
 | [q,.int .i64 i]=>KF q fun q=>.ok (.int .i64 (IW q i)) []
 | _=>.no
def cW:DV
 | [m,q,b,.int .i64 i]=>J1 m fun m=>KF q fun q=>JL b fun b=>.br (EX m&&H9 i) (.ok (.list false [.z] (iZ (FG m q b i.toNat))) []) .no
 | _=>.no
def KC (o:Option (Int × Int)):Int:=match o with | none=>0 | some (i,_)=>i
def I8 (o:Option (Int × Int)):Int:=match o with | none=>0 | some (_,a)=>a
def cV:DV
 | [m,q,b]=>J1 m fun m=>KF q fun q=>JL b fun b=>.br (EX m) (.ok (.tup [.int .i64 (KC (E1 m q b)),.int .i64 (I8 (E1 m q b)),.bool (E1 m q b).isSome]) []) .no
 | _=>.no
structure Sr where
 left:LI
 proof:LI
 v:Vd
 spent:Int
def NY (s:Bool) (p a:Int):IV:=.agg [.bool s,.int p,.int a]
def D0 (l:LI):Bx:=D7 (l.getD (l.length - 1) default)
def F8 (l:LI):LI:=l.take (l.length - 1)
def GM (m:Md) (q:Qy) (s:Sr):Sr:=
 cond (GW m q (D0 s.left)) ⟨F8 s.left,s.proof++[NY true 0 0],cond (ic (s.left.length - 1)==0) ⟨1,s.proof++[NY true 0 0],0,0,0,0,0,0⟩ s.v,s.spent+1⟩
  (cond (HJ m q (D0 s.left).low (D0 s.left).s4.hi) ⟨F8 s.left,s.proof,⟨2,[],(D0 s.left).s0.lo,(D0 s.left).s1.lo,(D0 s.left).s2.lo,(D0 s.left).s3.lo,(D0 s.left).s4.hi,0⟩,s.spent+1⟩
   (cond (E1 m q (D0 s.left)).isSome
    ⟨F8 s.left++[((D0 s.left).cutH (KC (E1 m q (D0 s.left))) (I8 (E1 m q (D0 s.left)))).I,((D0 s.left).cutL (KC (E1 m q (D0 s.left))) (I8 (E1 m q (D0 s.left)))).I],
     s.proof++[NY false (KC (E1 m q (D0 s.left))) (I8 (E1 m q (D0 s.left)))],s.v,s.spent+1⟩
    ⟨F8 s.left,s.proof,⟨3,[],0,0,0,0,0,0⟩,s.spent+1⟩))
def JU (q:Qy) (s:Sr):Bool:=!(s.v.kind==0)||decide (s.spent≥q.bu)
def LQ (m:Md) (q:Qy):Nat→Sr→Sr
 | 0,s=>s
 | n+1,s=>cond (JU q s) s (LQ m q n (GM m q s))
def RS (m:Md) (q:Qy):Sr:=cond (E8 m q) ⟨[(GE q).I],[],Vd.none,0⟩ ⟨[],[],⟨4,[],0,0,0,0,0,0⟩,0⟩
def GQ (s:Sr):Vd:=⟨cond (s.v.kind==0) 3 s.v.kind,s.v.proof,s.v.w0,s.v.w1,s.v.w2,s.v.w3,s.v.twin,s.spent⟩
def EC (m:Md) (q:Qy):Vd:=GQ (LQ m q (q.bu.toNat+1) (RS m q))
def F3 (m:Md) (q:Qy) (r:List FM.V):List FM.V:=m.cs++(q.cs++r)
def seOf? (l:List FM.V):Option (Md × Qy × List FM.V):=
 match mdOf? (l.take 6),qyOf? ((l.drop 6).take 17) with
 | some m,some q=>some (m,q,(l.drop 6).drop 17)
 | _,_=>none
abbrev p7 (l:LI):FM.V:=.vec 36 true FB l
abbrev zcO (l:LI):FM.V:=.vec 127 true EB l
abbrev jU (l:LI):FM.V:=.list true EB l
def aU (v:Vd) (vp:FM.V) (sp:Int):List FM.V:=[.int .i64 v.kind,vp,.int .i64 v.w0,.int .i64 v.w1,.int .i64 v.w2,.int .i64 v.w3,.int .i64 v.twin,.int .i64 v.spent,.int .i64 sp]
def PS (t:Nat) (m:Md) (q:Qy) (s:Sr):List FM.V:=
 F3 m q (match t with
  | 0=>p7 s.left :: zcO s.proof :: aU s.v .zs s.spent
  | 1=>p7 s.left :: .zs :: aU s.v .zs s.spent
  | 2=>p7 s.left :: jU s.proof :: aU s.v (jU s.v.proof) s.spent
  | _=>.zs :: .zs :: aU s.v .zs s.spent)
def srT?:List FM.V→Option (Nat × Sr)
 | [.vec 36 true [.z,.z,.z,.z,.z,.z,.z,.z,.z,.z] l,.vec 127 true [.bool,.z,.z] p,.int .i64 k,.zs,.int .i64 a,.int .i64 b,.int .i64 c,.int .i64 d,.int .i64 t,.int .i64 vs,.int .i64 sp]=>some (0,⟨l,p,⟨k,[],a,b,c,d,t,vs⟩,sp⟩)
 | [.vec 36 true [.z,.z,.z,.z,.z,.z,.z,.z,.z,.z] l,.zs,.int .i64 k,.zs,.int .i64 a,.int .i64 b,.int .i64 c,.int .i64 d,.int .i64 t,.int .i64 vs,.int .i64 sp]=>some (1,⟨l,[],⟨k,[],a,b,c,d,t,vs⟩,sp⟩)
 | [.vec 36 true [.z,.z,.z,.z,.z,.z,.z,.z,.z,.z] l,.list true [.bool,.z,.z] p,.int .i64 k,.list true [.bool,.z,.z] vp,.int .i64 a,.int .i64 b,.int .i64 c,.int .i64 d,.int .i64 t,.int .i64 vs,.int .i64 sp]=>some (2,⟨l,p,⟨k,vp,a,b,c,d,t,vs⟩,sp⟩)
 | [.zs,.zs,.int .i64 k,.zs,.int .i64 a,.int .i64 b,.int .i64 c,.int .i64 d,.int .i64 t,.int .i64 vs,.int .i64 sp]=>some (3,⟨[],[],⟨k,[],a,b,c,d,t,vs⟩,sp⟩)
 | _=>none
def mU (v:FM.V) (k:Nat→Md→Qy→Sr→R):R:=
 match v with
 | .bor l=>match seOf? l with
  | some (m,q,r)=>match srT? r with
   | some (t,s)=>k t m q s
   | none=>.no
  | none=>.no
 | _=>.no
def mF (m:Md) (q:Qy) (t:Nat) (s:Sr):Nat:=
 cond (GW m q (D0 s.left)) (cond (ic (s.left.length - 1)==0) 2 0)
  (cond (HJ m q (D0 s.left).low (D0 s.left).s4.hi) t (cond (E1 m q (D0 s.left)).isSome 0 t))
def dN:DV
 | [m,q]=>J1 m fun m=>KF q fun q=>.br (E8 m q) (.ok (.bor (PS 1 m q ⟨[(GE q).I],[],Vd.none,0⟩)) []) (.ok (.bor (PS 3 m q ⟨[],[],⟨4,[],0,0,0,0,0,0⟩,0⟩)) [])
 | _=>.no
def dO:DV
 | [x]=>mU x fun t m q s=>
  .br (JU q s) (.ok (.bool false) [PS t m q s])
   (.br (B6 t 1&&(E8 m q&&(decide (0≤s.spent)&&(BS 0 s.left.length&&(B6 s.left.length 100000&&B6 s.proof.length 100000)))))
    (.br (GW m q (D0 s.left)) (.br (ic (s.left.length - 1)==0) (.ok (.bool true) [PS 2 m q (GM m q s)]) (.ok (.bool true) [PS 0 m q (GM m q s)]))
     (.br (HJ m q (D0 s.left).low (D0 s.left).s4.hi) (.ok (.bool true) [PS t m q (GM m q s)])
      (.br (E1 m q (D0 s.left)).isSome (.ok (.bool true) [PS 0 m q (GM m q s)]) (.ok (.bool true) [PS t m q (GM m q s)])))) .no)
 | _=>.no
def dP:DV
 | [x]=>mU x fun t m q s=>.br (B6 s.v.proof.length 100000) (.ok (GQ s).V [PS t m q s]) .no
 | _=>.no
def SR:DV
 | [m,q]=>J1 m fun m=>KF q fun q=>.ok (EC m q).V []
 | _=>.no
def iH:DV
 | [.list true [.bool,.z,.z] l]=>.br (B6 l.length 100000) (.ok (.vec 127 true EB l) []) .no
 | _=>.no
open Go Go.Proofs
def Tc (N:Nat):Env:=D4 [] [] 2 N
theorem ze1 (N:Nat):DZ (Tc N) y9 [.cell 0 34] [[.z,.z]] []=(some ((.agg [.i 1,.i 0]),[])):=by kernel_rfl
def Td (N:Nat):Env:=D4 [(194,WY)] [] 12 N
theorem ze2 (N:Nat) (lo hi:Int):DZ (Td N) zC [.cell 4 34] [[.z,.z]] [.i lo,.i hi]=(cond (decide (lo > hi)) (some ((.agg [.i 1,.i 0]),[])) (some ((.agg [.i lo,.i hi]),[]))):=by kernel_rfl
def Ta (N:Nat):Env:=D4 [] [] 8 N
theorem zeZ (N:Nat) (s:Sp):DZ (Ta N) y7 [.tmp 2] [[.bool]] [(Sp.V s)]=(some ((.bool (decide (Sp.lo s > Sp.hi s))),[])):=by kernel_rfl
def Tb (N:Nat):Env:=D4 [] [] 15 N
theorem ze0 (N:Nat) (s:Sp) (n:Int):DZ (Tb N) y8 [.tmp 4] [[.bool]] [(Sp.V s),.i n]=(cond (decide (Sp.lo s≤n)) (some ((.bool (decide (n≤Sp.hi s))),[])) (some ((.bool false),[]))):=by kernel_rfl
def Sz (N:Nat):Env:=D4 [(194,WY),(193,dT)] [] 29 N
theorem zeY (N:Nat) (s:Sp) (atv:Int):DZ (Sz N) y6 [.cell 4 34,.cell 5 34] [[.z,.z],[.z,.z]] [(Sp.V s),.i atv]=(cond (decide (atv≥Sp.hi s)) (some ((.tup [(Sp.V (M8 (Sp.lo s) (min (Sp.hi s) atv))),.agg [.i 1,.i 0]]),[])) (some ((.tup [(Sp.V (M8 (Sp.lo s) (min (Sp.hi s) atv))),(Sp.V (M8 (max (Sp.lo s) (AA AB (atv+1))) (Sp.hi s)))]),[]))):=by kernel_rfl
def KT (N:Nat):Env:=D4 [(55,MP)] [(3,⟨[0,3,4,5,6,9],[3,5],[]⟩)] 46 N
abbrev MM (p:Pt) (l0:LI) (x4 x6 x9:Int) (u00:Bool) (u01 u02 u03 u04 u05:Int):St:=⟨[(0,(.list false [.int .u64] l0)),(3,(.ptr 3 0 0)),(4,(.i x4)),(5,(.ptr 5 0 0)),(6,(.i x6)),(9,(.i x9))],[(3,(some (.box (Pt.cs p)))),(5,(some (.box [.bool u00,.i u01,.i u02,.i u03,.i u04,.i u05])))]⟩
theorem zfe (N:Nat) (l:LI) (p:Pt):DZ (KT N) OD [.tmp 4,.cell 5 111] [[.z],[.bool,.z,.z,.z,.z,.z]] [.list false [.int .u64] l,(Pt.V p)]=(DY (KT N) (DK OD [1,1,0,1,0,0]) ⟨[0,3,4,5,6,9],[3,5],[]⟩ N (MM p l 0 0 0 false 0 0 0 0 0) (DQ 0 (DS (KT N) (DK OD [1,1,1]) (DT (KT N) none [.tmp 4,.cell 5 111] [[.z],[.bool,.z,.z,.z,.z,.z]])))):=by kernel_rfl
theorem Nt (N:Nat) (p:Pt) (l0:LI) (x4 x6 x9:Int) (u00:Bool) (u01 u02 u03 u04 u05:Int) (again:St→DN) (k:Out→St→DN):E2 (KT N) (DK OD [1,1,0,1,0,0]) (MM p l0 x4 x6 x9 u00 u01 u02 u03 u04 u05) (EQ again ⟨[0,3,4,5,6,9],[3,5],[]⟩ k)=(cond (decide (x9 < 31)) (cond (decide (x6≥ic (AF l0))) (k (.exit 0) (MM p l0 x4 x6 x9 u00 u01 u02 u03 u04 u05)) (cond (decide (0≤x6)&&decide (x6 < ic (AF l0))) (cond (!GJ (IV.toInt (AI l0 (AE x6) default))) (k .ret (MM p l0 (-1) x6 x9 false 0 0 0 0 0)) (cond (Nd.lf (DL (IV.toInt (AI l0 (AE x6) default)))) (k .ret ⟨[(0,(.list false [.int .u64] l0)),(3,(.ptr 3 0 0)),(4,(.i x6)),(5,(.ptr 5 0 0)),(6,(.i x6)),(9,(.i x9))],[(3,(some (.box (Pt.cs p)))),(5,(some (.box (Nd.cs (DL (IV.toInt (AI l0 (AE x6) default)))))))]⟩) (cond (decide (Nd.f (DL (IV.toInt (AI l0 (AE x6) default)))=ic 0)) (cond (decide (Pt.p0 p≤Nd.a (DL (IV.toInt (AI l0 (AE x6) default))))) (again (MM p l0 x4 (Nd.l (DL (IV.toInt (AI l0 (AE x6) default)))) (AA AB (x9+1)) u00 u01 u02 u03 u04 u05)) (again (MM p l0 x4 (Nd.r (DL (IV.toInt (AI l0 (AE x6) default)))) (AA AB (x9+1)) u00 u01 u02 u03 u04 u05))) (cond (decide (Nd.f (DL (IV.toInt (AI l0 (AE x6) default)))=ic 1)) (cond (decide (Pt.p1 p≤Nd.a (DL (IV.toInt (AI l0 (AE x6) default))))) (again (MM p l0 x4 (Nd.l (DL (IV.toInt (AI l0 (AE x6) default)))) (AA AB (x9+1)) u00 u01 u02 u03 u04 u05)) (again (MM p l0 x4 (Nd.r (DL (IV.toInt (AI l0 (AE x6) default)))) (AA AB (x9+1)) u00 u01 u02 u03 u04 u05))) (cond (decide (Nd.f (DL (IV.toInt (AI l0 (AE x6) default)))=ic 2)) (cond (decide (Pt.p2 p≤Nd.a (DL (IV.toInt (AI l0 (AE x6) default))))) (again (MM p l0 x4 (Nd.l (DL (IV.toInt (AI l0 (AE x6) default)))) (AA AB (x9+1)) u00 u01 u02 u03 u04 u05)) (again (MM p l0 x4 (Nd.r (DL (IV.toInt (AI l0 (AE x6) default)))) (AA AB (x9+1)) u00 u01 u02 u03 u04 u05))) (cond (decide (Nd.f (DL (IV.toInt (AI l0 (AE x6) default)))=ic 3)) (cond (decide (Pt.p3 p≤Nd.a (DL (IV.toInt (AI l0 (AE x6) default))))) (again (MM p l0 x4 (Nd.l (DL (IV.toInt (AI l0 (AE x6) default)))) (AA AB (x9+1)) u00 u01 u02 u03 u04 u05)) (again (MM p l0 x4 (Nd.r (DL (IV.toInt (AI l0 (AE x6) default)))) (AA AB (x9+1)) u00 u01 u02 u03 u04 u05))) none)))))) none)) (k (.exit 0) (MM p l0 x4 x6 x9 u00 u01 u02 u03 u04 u05))):=by kernel_rfl
theorem Bk (N:Nat) (p:Pt) (l0:LI) (x4 x6 x9:Int) (u00:Bool) (u01 u02 u03 u04 u05:Int):(DQ 0 (DS (KT N) (DK OD [1,1,1]) (DT (KT N) none [.tmp 4,.cell 5 111] [[.z],[.bool,.z,.z,.z,.z,.z]]))) (.exit 0) (MM p l0 x4 x6 x9 u00 u01 u02 u03 u04 u05)=(some ((.tup [.i (-1),.agg [.bool false,.i 0,.i 0,.i 0,.i 0,.i 0]]),[])):=by kernel_rfl
theorem zae (N:Nat) (p:Pt) (l0:LI) (x4 x6 x9:Int) (u00:Bool) (u01 u02 u03 u04 u05:Int):(DQ 0 (DS (KT N) (DK OD [1,1,1]) (DT (KT N) none [.tmp 4,.cell 5 111] [[.z],[.bool,.z,.z,.z,.z,.z]]))) .ret (MM p l0 x4 x6 x9 u00 u01 u02 u03 u04 u05)=(some ((.tup [.i x4,.agg [.bool u00,.i u01,.i u02,.i u03,.i u04,.i u05]]),[])):=by kernel_rfl
def Tl (N:Nat):Env:=D4 [(217,dX)] [] 15 N
theorem zfd (N:Nat) (l:LI) (p:Pt):DZ (Tl N) zK [.tmp 4] [[.z]] [.list false [.int .u64] l,(Pt.V p)]=(some ((.i (Nd.v (jP l p))),[])):=by kernel_rfl
def LV (N:Nat):Env:=D4 [(195,dW)] [(3,⟨[1,5,6,7,15,16,17],[5],[]⟩)] 33 N
abbrev T8 (p:Pt) (x1 x6 x7:Int) (l15:LI) (x16 x17:Int):St:=⟨[(1,(.i x1)),(5,(.ptr 5 0 0)),(6,(.i x6)),(7,(.i x7)),(15,(.list true MY l15)),(16,(.i x16)),(17,(.i x17))],[(5,(some (.box (Pt.cs p))))]⟩
theorem zex (N:Nat) (m:Md) (u00:Int) (p:Pt):DZ (LV N) O9 [.tmp 6] [[.z]] [(Md.V m),.i u00,(Pt.V p)]=(cond (decide (u00=ic 0)) (DY (LV N) (DK O9 [1,1,0,1,0,0]) ⟨[1,5,6,7,15,16,17],[5],[]⟩ N (T8 p u00 0 (Md.b0 m) (Md.ts m) (ic (AF (Md.ts m))) 0) (DQ 0 (DS (LV N) (DK O9 [1,1,1]) (DT (LV N) none [.tmp 6] [[.z]])))) (cond (decide (u00=ic 1)) (DY (LV N) (DK O9 [1,1,0,1,0,0]) ⟨[1,5,6,7,15,16,17],[5],[]⟩ N (T8 p u00 0 (Md.b1 m) (Md.ts m) (ic (AF (Md.ts m))) 0) (DQ 0 (DS (LV N) (DK O9 [1,1,1]) (DT (LV N) none [.tmp 6] [[.z]])))) (cond (decide (u00=ic 2)) (DY (LV N) (DK O9 [1,1,0,1,0,0]) ⟨[1,5,6,7,15,16,17],[5],[]⟩ N (T8 p u00 0 (Md.b2 m) (Md.ts m) (ic (AF (Md.ts m))) 0) (DQ 0 (DS (LV N) (DK O9 [1,1,1]) (DT (LV N) none [.tmp 6] [[.z]])))) none))):=by kernel_rfl
theorem Nh (N:Nat) (p:Pt) (x1 x6 x7:Int) (l15:LI) (x16 x17:Int) (again:St→DN) (k:Out→St→DN):E2 (LV N) (DK O9 [1,1,0,1,0,0]) (T8 p x1 x6 x7 l15 x16 x17) (EQ again ⟨[1,5,6,7,15,16,17],[5],[]⟩ k)=(cond (decide (x17 < x16)) (cond (decide (0≤x17)&&decide (x17 < ic (AF l15))) (cond (IV.toInt (IV.cell (AI l15 (AE x17) default) 0)==x1) (again (T8 p x1 x6 (AA AB (x7+HE (IV.toList (IV.cell (AI l15 (AE x17) default) 1)) p)) l15 x16 (AA AB (x17+1)))) (again (T8 p x1 x6 x7 l15 x16 (AA AB (x17+1))))) none) (k (.exit 0) (T8 p x1 x6 x7 l15 x16 x17))):=by kernel_rfl
theorem Zj (N:Nat) (p:Pt) (x1 x6 x7:Int) (l15:LI) (x16 x17:Int):(DQ 0 (DS (LV N) (DK O9 [1,1,1]) (DT (LV N) none [.tmp 6] [[.z]]))) (.exit 0) (T8 p x1 x6 x7 l15 x16 x17)=(some ((.i x7),[])):=by kernel_rfl
def Sf (N:Nat):Env:=D4 [(53,MO),(159,dC)] [] 24 N
theorem zet (N:Nat) (m:Md) (u00:Int) (p:Pt):DZ (Sf N) yN [.tmp 6] [[.z]] [(Md.V m),.i u00,(Pt.V p)]=(cond (!EX m) (some ((.i 0),[])) (cond (decide (u00 < 0)) (some ((.i 0),[])) (cond (decide (u00≥Md.c m)) (some ((.i 0),[])) (cond (EX m&&IH m u00) (some ((.i (QD u00 p (Md.ts m) (LY m u00))),[])) none)))):=by kernel_rfl
def Qx (N:Nat):Env:=D4 [(155,WW)] [(2,⟨[2,5,6],[],[]⟩)] 12 N
def Ra (N:Nat):Env:=D4 [] [(3,⟨[1,2,3,5],[1,2,3],[]⟩)] 16 N
open Go Go.Proofs
def N8 (N:Nat):Env:=kS [(53,MO),(55,MP)] [(202,j4),(201,j6)] [(5,⟨[1,4,5,16,17,18],[500],[⟨.tmp 5,500,3,false,[.z]⟩]⟩),(8,⟨[1,4,5,16,17,18,23,24,25],[500],[⟨.tmp 5,500,3,false,[.z]⟩]⟩)] 54 N
abbrev bE (x1:Int) (n5:Nat) (l16:LI) (x17 x18:Int) (u00:LI):St:=⟨[(1,(.i x1)),(4,.zs),(5,(.row 500 0 n5)),(16,(.list true MY l16)),(17,(.i x17)),(18,(.i x18))],[(500,(some (.row true 3 false [.z] u00)))]⟩
abbrev WA (x1:Int) (n5:Nat) (l16:LI) (x17 x18:Int) (l23:LI) (x24 x25:Int) (u00:LI):St:=⟨[(1,(.i x1)),(4,.zs),(5,(.row 500 0 n5)),(16,(.list true MY l16)),(17,(.i x17)),(18,(.i x18)),(23,(.list false [.int .u64] l23)),(24,(.i x24)),(25,(.i x25))],[(500,(some (.row true 3 false [.z] u00)))]⟩
theorem zew (N:Nat) (m:Md) (u00:Int):DZ (N8 N) O8 [.tmp 4] [] [(Md.V m),.i u00]=(cond (!EX m) (some (.any,[])) (DY (N8 N) (DK O8 [1,1,1,0,1,0,0]) ⟨[1,4,5,16,17,18],[500],[⟨(.tmp 5),500,3,false,[.z]⟩]⟩ N (bE u00 0 (Md.ts m) (ic (AF (Md.ts m))) 0 []) (DQ 0 (DS (N8 N) (DK O8 [1,1,1,1]) (DT (N8 N) none [.tmp 4] []))))):=by kernel_rfl
theorem Nf (N:Nat) (x1:Int) (n5:Nat) (l16:LI) (x17 x18:Int) (u00:LI) (again:St→DN) (k:Out→St→DN):E2 (N8 N) (DK O8 [1,1,1,0,1,0,0]) (bE x1 n5 l16 x17 x18 u00) (EQ again ⟨[1,4,5,16,17,18],[500],[⟨(.tmp 5),500,3,false,[.z]⟩]⟩ k)=(cond (decide (x18 < x17)) (cond (decide (0≤x18)&&decide (x18 < ic (AF l16))) (DY (N8 N) (DK O8 [1,1,1,0,1,0,0,1,1,0,0,1,1,0,0]) ⟨[1,4,5,16,17,18,23,24,25],[500],[⟨(.tmp 5),500,3,false,[.z]⟩]⟩ N (WA x1 n5 l16 x17 x18 (IV.toList (IV.cell (AI l16 (AE x18) default) 1)) (ic (AF (IV.toList (IV.cell (AI l16 (AE x18) default) 1)))) 0 u00) (DQ 2 (DQ 1 (DS (N8 N) (DK O8 [1,1,1,0,1,0,0,1,1,1]) (EQ again ⟨[1,4,5,16,17,18],[500],[⟨(.tmp 5),500,3,false,[.z]⟩]⟩ k))))) none) (k (.exit 0) (bE x1 n5 l16 x17 x18 u00))):=by kernel_rfl
theorem Ng (N:Nat) (x1:Int) (n5:Nat) (l16:LI) (x17 x18:Int) (l23:LI) (x24 x25:Int) (u00:LI) (again:St→DN) (k:Out→St→DN):E2 (N8 N) (DK O8 [1,1,1,0,1,0,0,1,1,0,0,1,1,0,0]) (WA x1 n5 l16 x17 x18 l23 x24 x25 u00) (EQ again ⟨[1,4,5,16,17,18,23,24,25],[500],[⟨(.tmp 5),500,3,false,[.z]⟩]⟩ k)=(cond (decide (x25 < x24)) (cond (decide (0≤x25)&&decide (x25 < ic (AF l23))) (cond (!Nd.lf (DL (IV.toInt (AI l23 (AE x25) default)))) (cond (Nd.f (DL (IV.toInt (AI l23 (AE x25) default)))==x1) (cond (decide ((n5+1)*8≤EE)) (again (WA x1 (n5+1) l16 x17 x18 l23 x24 (AA AB (x25+1)) (AK n5 u00++[IV.int (Nd.a (DL (IV.toInt (AI l23 (AE x25) default))))]))) none) (again (WA x1 n5 l16 x17 x18 l23 x24 (AA AB (x25+1)) u00))) (again (WA x1 n5 l16 x17 x18 l23 x24 (AA AB (x25+1)) u00))) none) (k (.exit 2) (WA x1 n5 l16 x17 x18 l23 x24 x25 u00))):=by kernel_rfl
theorem Zh (N:Nat) (x1:Int) (n5:Nat) (l16:LI) (x17 x18:Int) (u00:LI):(DQ 0 (DS (N8 N) (DK O8 [1,1,1,1]) (DT (N8 N) none [.tmp 4] []))) (.exit 0) (bE x1 n5 l16 x17 x18 u00)=(cond (BQ n5 (AF u00)) (cond (BQ (AF (iZ (K4 (A3 IV.toInt u00)))) (AF u00)) (cond (BQ n5 (AF (iZ (K4 (A3 IV.toInt u00))))) (cond (B6 (AF (iZ (KH (A3 IV.toInt (iZ (K4 (A3 IV.toInt u00))))))) (AF (iZ (K4 (A3 IV.toInt u00))))) (some ((.vec 3 false [.z] (AK (AF (iZ (KH (A3 IV.toInt (iZ (K4 (A3 IV.toInt u00))))))) (iZ (KH (A3 IV.toInt (iZ (K4 (A3 IV.toInt u00)))))))),[])) none) none) none) none):=by kernel_rfl
theorem Zi (N:Nat) (again:St→DN) (k:Out→St→DN) (x1:Int) (n5:Nat) (l16:LI) (x17 x18:Int) (l23:LI) (x24 x25:Int) (u00:LI):(DQ 2 (DQ 1 (DS (N8 N) (DK O8 [1,1,1,0,1,0,0,1,1,1]) (EQ again ⟨[1,4,5,16,17,18],[500],[⟨(.tmp 5),500,3,false,[.z]⟩]⟩ k)))) (.exit 2) (WA x1 n5 l16 x17 x18 l23 x24 x25 u00)=(again (bE x1 n5 l16 x17 (AA AB (x18+1)) u00)):=by kernel_rfl
def Sc (N:Nat):Env:=D4 [] [] 23 N
theorem zeo (N:Nat) (q:Qy) (u00:Int):DZ (Sc N) yK [.tmp 4] [[.z]] [(Qy.V q),.i u00]=(cond (decide (u00≥0)) (cond (decide (u00 < 4)) (some ((.i u00),[])) (cond (u00==4) (cond (Qy.k q==3) (some ((.i (Qy.ft q)),[])) (some ((.i (-1)),[]))) (some ((.i (-1)),[])))) (cond (u00==4) (cond (Qy.k q==3) (some ((.i (Qy.ft q)),[])) (some ((.i (-1)),[]))) (some ((.i (-1)),[])))):=by kernel_rfl
def vO (N:Nat):Env:=kS [(166,cX),(168,dA)] [(167,j5)] [] 24 N
def Su (N:Nat):Env:=D4 [] [] 71 N
theorem zeL (N:Nat) (m:Md) (a1:Qy):DZ (Su N) yZ [.tmp 4] [[.bool]] [(Md.V m),(Qy.V a1)]=(cond (Qy.k a1==1) (cond (decide (Qy.lo a1≤Qy.hi a1)) (cond (Qy.ft a1==0) (some ((.bool (!Qy.fl a1)),[])) (some ((.bool false),[]))) (some ((.bool false),[]))) (cond (Qy.k a1==2) (cond (decide (Md.c m≥2)) (cond (Qy.lo a1==0) (cond (Qy.hi a1==0) (cond (Qy.ft a1==0) (some ((.bool (!Qy.fl a1)),[])) (some ((.bool false),[]))) (some ((.bool false),[]))) (some ((.bool false),[]))) (some ((.bool false),[]))) (cond (Qy.k a1==3) (cond (decide (Qy.ft a1≥0)) (cond (decide (Qy.ft a1 < Md.d m)) (cond (Qy.lo a1==0) (some ((.bool (Qy.hi a1==0)),[])) (some ((.bool false),[]))) (some ((.bool false),[]))) (some ((.bool false),[]))) (some ((.bool false),[]))))):=by kernel_rfl
def So (N:Nat):Env:=D4 [(53,MO),(108,dL),(107,dM)] [] 41 N
theorem zeI (N:Nat) (m:Md) (q:Qy):DZ (So N) yW [.tmp 4] [[.bool]] [(Md.V m),(Qy.V q)]=(cond (EX m) (cond (decide (Qy.c q≥0)) (cond (decide (Qy.c q < Md.c m)) (cond (decide (Qy.bu q≥0)) (cond (decide (Qy.bu q≤65536)) (cond (QL {s0:={lo:=Qy.a0 q,hi:=Qy.b0 q},s1:={lo:=Qy.a1 q,hi:=Qy.b1 q},s2:={lo:=Qy.a2 q,hi:=Qy.b2 q},s3:={lo:=Qy.a3 q,hi:=Qy.b3 q},s4:={lo:=Qy.a4 q,hi:=Qy.b4 q}} (Md.d m)) (some ((.bool (RL m q)),[])) (some ((.bool false),[]))) (some ((.bool false),[]))) (some ((.bool false),[]))) (some ((.bool false),[]))) (some ((.bool false),[]))) (some ((.bool false),[]))):=by kernel_rfl
def Sv (N:Nat):Env:=D4 [] [] 16 N
theorem zeM (N:Nat) (q:Qy):DZ (Sv N) y0 [.tmp 2] [[.bool]] [(Qy.V q)]=(cond (Qy.k q==3) (cond (decide (Qy.ft q≥0)) (some ((.bool (decide (Qy.ft q < 4))),[])) (some ((.bool false),[]))) (some ((.bool false),[]))):=by kernel_rfl
def Ss (N:Nat):Env:=D4 [(109,WV)] [] 16 N
theorem zeK (N:Nat) (q:Qy):DZ (Ss N) yY [.cell 2 36] [[.z,.z,.z,.z,.z,.z,.z,.z,.z,.z]] [(Qy.V q)]=(cond (HB q) (cond (decide (Qy.ft q=ic 0)) (some ((.agg [.i (Qy.a0 q),.i (Qy.b0 q),.i (Qy.a1 q),.i (Qy.b1 q),.i (Qy.a2 q),.i (Qy.b2 q),.i (Qy.a3 q),.i (Qy.b3 q),.i (Qy.a0 q),.i (Qy.b0 q)]),[])) (cond (decide (Qy.ft q=ic 1)) (some ((.agg [.i (Qy.a0 q),.i (Qy.b0 q),.i (Qy.a1 q),.i (Qy.b1 q),.i (Qy.a2 q),.i (Qy.b2 q),.i (Qy.a3 q),.i (Qy.b3 q),.i (Qy.a1 q),.i (Qy.b1 q)]),[])) (cond (decide (Qy.ft q=ic 2)) (some ((.agg [.i (Qy.a0 q),.i (Qy.b0 q),.i (Qy.a1 q),.i (Qy.b1 q),.i (Qy.a2 q),.i (Qy.b2 q),.i (Qy.a3 q),.i (Qy.b3 q),.i (Qy.a2 q),.i (Qy.b2 q)]),[])) (cond (decide (Qy.ft q=ic 3)) (some ((.agg [.i (Qy.a0 q),.i (Qy.b0 q),.i (Qy.a1 q),.i (Qy.b1 q),.i (Qy.a2 q),.i (Qy.b2 q),.i (Qy.a3 q),.i (Qy.b3 q),.i (Qy.a3 q),.i (Qy.b3 q)]),[])) (cond (decide (Qy.ft q=ic 4)) (some ((.agg [.i (Qy.a0 q),.i (Qy.b0 q),.i (Qy.a1 q),.i (Qy.b1 q),.i (Qy.a2 q),.i (Qy.b2 q),.i (Qy.a3 q),.i (Qy.b3 q),.i 0,.i 0]),[])) none))))) (some ((.agg [.i (Qy.a0 q),.i (Qy.b0 q),.i (Qy.a1 q),.i (Qy.b1 q),.i (Qy.a2 q),.i (Qy.b2 q),.i (Qy.a3 q),.i (Qy.b3 q),.i 0,.i 0]),[]))):=by kernel_rfl
def Sq (N:Nat):Env:=D4 [(109,WV)] [] 14 N
theorem zeJ (N:Nat) (q:Qy) (p:Pt) (twin:Int):DZ (Sq N) yX [.cell 6 53] [[.z,.z,.z,.z]] [(Qy.V q),(Pt.V p),.i twin]=(cond (HB q) (cond (decide (Qy.ft q=ic 0)) (some ((.agg [.i twin,.i (Pt.p1 p),.i (Pt.p2 p),.i (Pt.p3 p)]),[])) (cond (decide (Qy.ft q=ic 1)) (some ((.agg [.i (Pt.p0 p),.i twin,.i (Pt.p2 p),.i (Pt.p3 p)]),[])) (cond (decide (Qy.ft q=ic 2)) (some ((.agg [.i (Pt.p0 p),.i (Pt.p1 p),.i twin,.i (Pt.p3 p)]),[])) (cond (decide (Qy.ft q=ic 3)) (some ((.agg [.i (Pt.p0 p),.i (Pt.p1 p),.i (Pt.p2 p),.i twin]),[])) none)))) (some ((Pt.V p),[]))):=by kernel_rfl
def LW (N:Nat):Env:=D4 [(115,c8),(65,MQ),(116,dK),(114,WX)] [(9,⟨[4,5,6,8,9,36,37],[4,5,6],[]⟩)] 75 N
abbrev T9 (m:Md) (a1:Qy) (a2:Pt) (b8:Bool) (x9 x36 x37:Int):St:=⟨[(4,(.ptr 4 0 0)),(5,(.ptr 5 0 0)),(6,(.ptr 6 0 0)),(8,(.bool b8)),(9,(.i x9)),(36,(.i x36)),(37,(.i x37))],[(4,(some (.box (Md.cs m)))),(5,(some (.box (Qy.cs a1)))),(6,(some (.box (Pt.cs a2))))]⟩
theorem zeH (N:Nat) (m:Md) (a1:Qy) (a2:Pt) (a3:Int):DZ (LW N) OC [.tmp 8] [[.bool]] [(Md.V m),(Qy.V a1),(Pt.V a2),.i a3]=(cond (!E8 m a1) (some ((.bool false),[])) (cond (Qy.k a1==1) (some ((.bool (!Sp.has {lo:=Qy.lo a1,hi:=Qy.hi a1} (ET m (Qy.c a1) a2))),[])) (cond (Qy.k a1==2) (DY (LW N) (DK OC [1,1,1,0,1,0,1,1,1,0,0,1,0,0]) ⟨[4,5,6,8,9,36,37],[4,5,6],[]⟩ N (T9 m a1 a2 false (ET m (Qy.c a1) a2) (Md.c m) 0) (DQ 1 (DS (LW N) (DK OC [1,1,1,0,1,0,1,1,1,0,1]) (DQ 0 (DS (LW N) (DK OC [1,1,1,1]) (DT (LW N) none [.tmp 8] [[.bool]])))))) (cond (decide (Qy.ft a1=ic 0)) (cond (decide (Pt.p0 a2≥a3)) (some ((.bool false),[])) (cond (Qy.fl a1) (some ((.bool (decide (ET m (Qy.c a1) (JJ a1 a2 a3) > ET m (Qy.c a1) a2))),[])) (some ((.bool (decide (ET m (Qy.c a1) (JJ a1 a2 a3) < ET m (Qy.c a1) a2))),[])))) (cond (decide (Qy.ft a1=ic 1)) (cond (decide (Pt.p1 a2≥a3)) (some ((.bool false),[])) (cond (Qy.fl a1) (some ((.bool (decide (ET m (Qy.c a1) (JJ a1 a2 a3) > ET m (Qy.c a1) a2))),[])) (some ((.bool (decide (ET m (Qy.c a1) (JJ a1 a2 a3) < ET m (Qy.c a1) a2))),[])))) (cond (decide (Qy.ft a1=ic 2)) (cond (decide (Pt.p2 a2≥a3)) (some ((.bool false),[])) (cond (Qy.fl a1) (some ((.bool (decide (ET m (Qy.c a1) (JJ a1 a2 a3) > ET m (Qy.c a1) a2))),[])) (some ((.bool (decide (ET m (Qy.c a1) (JJ a1 a2 a3) < ET m (Qy.c a1) a2))),[])))) (cond (decide (Qy.ft a1=ic 3)) (cond (decide (Pt.p3 a2≥a3)) (some ((.bool false),[])) (cond (Qy.fl a1) (some ((.bool (decide (ET m (Qy.c a1) (JJ a1 a2 a3) > ET m (Qy.c a1) a2))),[])) (some ((.bool (decide (ET m (Qy.c a1) (JJ a1 a2 a3) < ET m (Qy.c a1) a2))),[])))) none))))))):=by kernel_rfl
theorem Nk (N:Nat) (m:Md) (a1:Qy) (a2:Pt) (b8:Bool) (x9 x36 x37:Int) (again:St→DN) (k:Out→St→DN):E2 (LW N) (DK OC [1,1,1,0,1,0,1,1,1,0,0,1,0,0]) (T9 m a1 a2 b8 x9 x36 x37) (EQ again ⟨[4,5,6,8,9,36,37],[4,5,6],[]⟩ k)=(cond (decide (x37 < x36)) (cond (x37 != Qy.c a1) (cond (decide (ET m x37 a2≥x9)) (k .ret (T9 m a1 a2 true x9 x36 x37)) (again (T9 m a1 a2 b8 x9 x36 (AA AB (x37+1))))) (again (T9 m a1 a2 b8 x9 x36 (AA AB (x37+1))))) (k (.exit 1) (T9 m a1 a2 b8 x9 x36 x37))):=by kernel_rfl
theorem Zn (N:Nat) (m:Md) (a1:Qy) (a2:Pt) (b8:Bool) (x9 x36 x37:Int):(DQ 1 (DS (LW N) (DK OC [1,1,1,0,1,0,1,1,1,0,1]) (DQ 0 (DS (LW N) (DK OC [1,1,1,1]) (DT (LW N) none [.tmp 8] [[.bool]]))))) (.exit 1) (T9 m a1 a2 b8 x9 x36 x37)=(some ((.bool false),[])):=by kernel_rfl
theorem Zo (N:Nat) (m:Md) (a1:Qy) (a2:Pt) (b8:Bool) (x9 x36 x37:Int):(DQ 1 (DS (LW N) (DK OC [1,1,1,0,1,0,1,1,1,0,1]) (DQ 0 (DS (LW N) (DK OC [1,1,1,1]) (DT (LW N) none [.tmp 8] [[.bool]]))))) .ret (T9 m a1 a2 b8 x9 x36 x37)=(some ((.bool b8),[])):=by kernel_rfl
def Sw (N:Nat):Env:=D4 [(93,SL),(155,WW)] [(2,⟨[1,4,7,8],[],[]⟩)] 35 N
open Go Go.Proofs
def Q9 (N:Nat):Env:=D4 [(111,P0),(112,K9),(55,MP),(96,W3)] [(7,⟨[4,5,6,24,25,26],[20,500],[⟨.tmp 6,500,275,true,[.z,.z,.z,.z,.z,.z,.z,.z,.z,.z,.z]⟩]⟩)] 79 N
abbrev V9 (n5 n6:Nat) (l24:LI) (x25 x26:Int) (lo20 u00:LI):St:=⟨[(4,.zs),(5,(.row 20 0 n5)),(6,(.row 500 0 n6)),(24,(.list false [.int .u64] l24)),(25,(.i x25)),(26,(.i x26))],[(20,(some (.row true 36 true FB lo20))),(500,(some (.row true 275 true MX u00)))]⟩
theorem zes (N:Nat) (l:LI) (a1:Bx):DZ (Q9 N) UY [.tmp 4] [[.list true [.z,.z,.z,.z,.z,.z,.z,.z,.z,.z,.z]]] [.list false [.int .u64] l,(Bx.V a1)]=(cond (!G1 l 4) (some ((.list true MX []),[])) (cond (Bx.emp a1) (some ((.list true MX []),[])) (cond (true&&(true&&decide (0≤ic (AF l)))&&(decide (ic (AF l)=ic (AF l))&&decide (ic (AF l)*ic 80≤ic EE))) (cond (decide (0≤0)&&decide (0 < ic (AE (ic (AF l)) - 0))) (DY (Q9 N) (DK UY [1,1,1,1,1,0,1,0,0]) ⟨[4,5,6,24,25,26],[20,500],[⟨(.tmp 6),500,275,true,MX⟩]⟩ N (V9 (AE (ic (AF l))) 0 l (ic (AF l)) 0 (List.set (BN (AE (ic (AF l))) (IV.agg [IV.int 0,IV.int 0,IV.int 0,IV.int 0,IV.int 0,IV.int 0,IV.int 0,IV.int 0,IV.int 0,IV.int 0])) 0 (Bx.I a1)) []) (DQ 0 (DS (Q9 N) (DK UY [1,1,1,1,1,1]) (DT (Q9 N) none [.tmp 4] [[.list true MX]])))) none) none))):=by kernel_rfl
theorem Nb (N n5 n6:Nat) (l24:LI) (x25 x26:Int) (lo20 u00:LI) (again:St→DN) (k:Out→St→DN):E2 (Q9 N) (DK UY [1,1,1,1,1,0,1,0,0]) (V9 n5 n6 l24 x25 x26 lo20 u00) (EQ again ⟨[4,5,6,24,25,26],[20,500],[⟨(.tmp 6),500,275,true,MX⟩]⟩ k)=(cond (decide (x26 < x25)) (cond (decide (0≤x26)&&decide (x26 < ic (AF l24))) (cond (!Nd.lf (DL (IV.toInt (AI l24 (AE x26) default)))) (cond (decide (0≤x26)&&decide (x26 < ic (n5 - 0))) (cond (H9 (Nd.f (DL (IV.toInt (AI l24 (AE x26) default))))) (cond (decide (0≤Nd.l (DL (IV.toInt (AI l24 (AE x26) default))))&&decide (Nd.l (DL (IV.toInt (AI l24 (AE x26) default))) < ic (n5 - 0))) (cond (decide (0≤Nd.r (DL (IV.toInt (AI l24 (AE x26) default))))&&decide (Nd.r (DL (IV.toInt (AI l24 (AE x26) default))) < ic (n5 - 0))) (again (V9 n5 n6 l24 x25 (AA AB (x26+1)) (List.set (List.set lo20 (0+AE (Nd.l (DL (IV.toInt (AI l24 (AE x26) default))))) (Bx.I (Bx.cutL (D7 (AI lo20 (0+AE x26) default)) (Nd.f (DL (IV.toInt (AI l24 (AE x26) default)))) (Nd.a (DL (IV.toInt (AI l24 (AE x26) default))))))) (0+AE (Nd.r (DL (IV.toInt (AI l24 (AE x26) default))))) (Bx.I (Bx.cutH (D7 (AI lo20 (0+AE x26) default)) (Nd.f (DL (IV.toInt (AI l24 (AE x26) default)))) (Nd.a (DL (IV.toInt (AI l24 (AE x26) default))))))) u00)) none) none) none) none) (cond (decide (0≤x26)&&decide (x26 < ic (n5 - 0))) (cond (!Bx.emp (D7 (AI lo20 (0+AE x26) default))) (cond (decide (0≤x26)&&decide (x26 < ic (n5 - 0))) (cond (decide ((n6+1)*88≤EE)) (again (V9 n5 (n6+1) l24 x25 (AA AB (x26+1)) lo20 (AK n6 u00++[(f8 (D7 (AI lo20 (0+AE x26) default)) (Nd.v (DL (IV.toInt (AI l24 (AE x26) default)))))]))) none) none) (again (V9 n5 n6 l24 x25 (AA AB (x26+1)) lo20 u00))) none)) none) (k (.exit 0) (V9 n5 n6 l24 x25 x26 lo20 u00))):=by kernel_rfl
theorem Ze (N n5 n6:Nat) (l24:LI) (x25 x26:Int) (lo20 u00:LI):(DQ 0 (DS (Q9 N) (DK UY [1,1,1,1,1,1]) (DT (Q9 N) none [.tmp 4] [[.list true MX]]))) (.exit 0) (V9 n5 n6 l24 x25 x26 lo20 u00)=(some ((.list true MX (AS 0 (AK n6 u00))),[])):=by kernel_rfl
def Q6 (N:Nat):Env:=D4 [(218,c7)] [(6,⟨[4,5,6,8,9,26,27,28],[],[]⟩)] 43 N
abbrev bB (x4 x5:Int) (b6:Bool) (x8 x9:Int) (l26:LI) (x27 x28:Int):St:=⟨[(4,(.i x4)),(5,(.i x5)),(6,(.bool b6)),(8,(.i x8)),(9,(.i x9)),(26,(.list true MX l26)),(27,(.i x27)),(28,(.i x28))],[]⟩
theorem zdI (N:Nat) (l:LI) (b:Bx):DZ (Q6 N) UU [.tmp 4,.tmp 5,.tmp 6] [[.z],[.z],[.bool]] [.list false [.int .u64] l,(Bx.V b)]=(cond (ic (AF (IX l b))==0) (some ((.tup [.i 0,.i 0,.bool false]),[])) (cond (decide (0≤0)&&decide (0 < ic (AF (IX l b)))) (cond (decide (0≤0)&&decide (0 < ic (AF (IX l b)))) (DY (Q6 N) (DK UU [1,1,1,1,0,1,0,0]) ⟨[4,5,6,8,9,26,27,28],[],[]⟩ N (bB 0 0 false (IV.toInt (IV.cell (AI (IX l b) (AE 0) default) 10)) (IV.toInt (IV.cell (AI (IX l b) (AE 0) default) 10)) (IX l b) (ic (AF (IX l b))) 0) (DQ 0 (DS (Q6 N) (DK UU [1,1,1,1,1]) (DT (Q6 N) none [.tmp 4,.tmp 5,.tmp 6] [[.z],[.z],[.bool]])))) none) none)):=by kernel_rfl
theorem Ml (N:Nat) (x4 x5:Int) (b6:Bool) (x8 x9:Int) (l26:LI) (x27 x28:Int) (again:St→DN) (k:Out→St→DN):E2 (Q6 N) (DK UU [1,1,1,1,0,1,0,0]) (bB x4 x5 b6 x8 x9 l26 x27 x28) (EQ again ⟨[4,5,6,8,9,26,27,28],[],[]⟩ k)=(cond (decide (x28 < x27)) (cond (decide (0≤x28)&&decide (x28 < ic (AF l26))) (again (bB x4 x5 b6 (min x8 (IV.toInt (IV.cell (AI l26 (AE x28) default) 10))) (max x9 (IV.toInt (IV.cell (AI l26 (AE x28) default) 10))) l26 x27 (AA AB (x28+1)))) none) (k (.exit 0) (bB x4 x5 b6 x8 x9 l26 x27 x28))):=by kernel_rfl
theorem Yc (N:Nat) (x4 x5:Int) (b6:Bool) (x8 x9:Int) (l26:LI) (x27 x28:Int):(DQ 0 (DS (Q6 N) (DK UU [1,1,1,1,1]) (DT (Q6 N) none [.tmp 4,.tmp 5,.tmp 6] [[.z],[.z],[.bool]]))) (.exit 0) (bB x4 x5 b6 x8 x9 l26 x27 x28)=(some ((.tup [.i x8,.i x9,.bool true]),[])):=by kernel_rfl
def G2 (N:Nat):Env:=D4 [(196,bV),(112,K9),(53,MO)] [(5,⟨[1,5,6,7,8,9,10,42,43,44],[5],[]⟩)] 69 N
abbrev NC (a2:Bx) (x1 x6 x7:Int) (b8:Bool) (x9 x10:Int) (l42:LI) (x43 x44:Int):St:=⟨[(1,(.i x1)),(5,(.ptr 5 0 0)),(6,(.i x6)),(7,(.i x7)),(8,(.bool b8)),(9,(.i x9)),(10,(.i x10)),(42,(.list true MY l42)),(43,(.i x43)),(44,(.i x44))],[(5,(some (.box (Bx.cs a2))))]⟩
theorem zdH (N:Nat) (m:Md) (a1:Int) (a2:Bx):DZ (G2 N) IS [.tmp 6,.tmp 7,.tmp 8] [[.z],[.z],[.bool]] [(Md.V m),.i a1,(Bx.V a2)]=(cond (!EX m) (some ((.tup [.i 0,.i 0,.bool false]),[])) (cond (decide (a1 < 0)) (some ((.tup [.i 0,.i 0,.bool false]),[])) (cond (decide (a1≥Md.c m)) (some ((.tup [.i 0,.i 0,.bool false]),[])) (cond (Bx.emp a2) (some ((.tup [.i 0,.i 0,.bool false]),[])) (cond (decide (a1=ic 0)) (cond (decide (a1=ic 0)) (DY (G2 N) (DK IS [1,1,1,0,1,0,0]) ⟨[1,5,6,7,8,9,10,42,43,44],[5],[]⟩ N (NC a2 a1 0 0 false (Md.b0 m) (Md.b0 m) (Md.ts m) (ic (AF (Md.ts m))) 0) (DQ 0 (DS (G2 N) (DK IS [1,1,1,1]) (DT (G2 N) none [.tmp 6,.tmp 7,.tmp 8] [[.z],[.z],[.bool]])))) (cond (decide (a1=ic 1)) (DY (G2 N) (DK IS [1,1,1,0,1,0,0]) ⟨[1,5,6,7,8,9,10,42,43,44],[5],[]⟩ N (NC a2 a1 0 0 false (Md.b0 m) (Md.b1 m) (Md.ts m) (ic (AF (Md.ts m))) 0) (DQ 0 (DS (G2 N) (DK IS [1,1,1,1]) (DT (G2 N) none [.tmp 6,.tmp 7,.tmp 8] [[.z],[.z],[.bool]])))) (cond (decide (a1=ic 2)) (DY (G2 N) (DK IS [1,1,1,0,1,0,0]) ⟨[1,5,6,7,8,9,10,42,43,44],[5],[]⟩ N (NC a2 a1 0 0 false (Md.b0 m) (Md.b2 m) (Md.ts m) (ic (AF (Md.ts m))) 0) (DQ 0 (DS (G2 N) (DK IS [1,1,1,1]) (DT (G2 N) none [.tmp 6,.tmp 7,.tmp 8] [[.z],[.z],[.bool]])))) none))) (cond (decide (a1=ic 1)) (cond (decide (a1=ic 0)) (DY (G2 N) (DK IS [1,1,1,0,1,0,0]) ⟨[1,5,6,7,8,9,10,42,43,44],[5],[]⟩ N (NC a2 a1 0 0 false (Md.b1 m) (Md.b0 m) (Md.ts m) (ic (AF (Md.ts m))) 0) (DQ 0 (DS (G2 N) (DK IS [1,1,1,1]) (DT (G2 N) none [.tmp 6,.tmp 7,.tmp 8] [[.z],[.z],[.bool]])))) (cond (decide (a1=ic 1)) (DY (G2 N) (DK IS [1,1,1,0,1,0,0]) ⟨[1,5,6,7,8,9,10,42,43,44],[5],[]⟩ N (NC a2 a1 0 0 false (Md.b1 m) (Md.b1 m) (Md.ts m) (ic (AF (Md.ts m))) 0) (DQ 0 (DS (G2 N) (DK IS [1,1,1,1]) (DT (G2 N) none [.tmp 6,.tmp 7,.tmp 8] [[.z],[.z],[.bool]])))) (cond (decide (a1=ic 2)) (DY (G2 N) (DK IS [1,1,1,0,1,0,0]) ⟨[1,5,6,7,8,9,10,42,43,44],[5],[]⟩ N (NC a2 a1 0 0 false (Md.b1 m) (Md.b2 m) (Md.ts m) (ic (AF (Md.ts m))) 0) (DQ 0 (DS (G2 N) (DK IS [1,1,1,1]) (DT (G2 N) none [.tmp 6,.tmp 7,.tmp 8] [[.z],[.z],[.bool]])))) none))) (cond (decide (a1=ic 2)) (cond (decide (a1=ic 0)) (DY (G2 N) (DK IS [1,1,1,0,1,0,0]) ⟨[1,5,6,7,8,9,10,42,43,44],[5],[]⟩ N (NC a2 a1 0 0 false (Md.b2 m) (Md.b0 m) (Md.ts m) (ic (AF (Md.ts m))) 0) (DQ 0 (DS (G2 N) (DK IS [1,1,1,1]) (DT (G2 N) none [.tmp 6,.tmp 7,.tmp 8] [[.z],[.z],[.bool]])))) (cond (decide (a1=ic 1)) (DY (G2 N) (DK IS [1,1,1,0,1,0,0]) ⟨[1,5,6,7,8,9,10,42,43,44],[5],[]⟩ N (NC a2 a1 0 0 false (Md.b2 m) (Md.b1 m) (Md.ts m) (ic (AF (Md.ts m))) 0) (DQ 0 (DS (G2 N) (DK IS [1,1,1,1]) (DT (G2 N) none [.tmp 6,.tmp 7,.tmp 8] [[.z],[.z],[.bool]])))) (cond (decide (a1=ic 2)) (DY (G2 N) (DK IS [1,1,1,0,1,0,0]) ⟨[1,5,6,7,8,9,10,42,43,44],[5],[]⟩ N (NC a2 a1 0 0 false (Md.b2 m) (Md.b2 m) (Md.ts m) (ic (AF (Md.ts m))) 0) (DQ 0 (DS (G2 N) (DK IS [1,1,1,1]) (DT (G2 N) none [.tmp 6,.tmp 7,.tmp 8] [[.z],[.z],[.bool]])))) none))) none))))))):=by kernel_rfl
theorem Mk (N:Nat) (a2:Bx) (x1 x6 x7:Int) (b8:Bool) (x9 x10:Int) (l42:LI) (x43 x44:Int) (again:St→DN) (k:Out→St→DN):E2 (G2 N) (DK IS [1,1,1,0,1,0,0]) (NC a2 x1 x6 x7 b8 x9 x10 l42 x43 x44) (EQ again ⟨[1,5,6,7,8,9,10,42,43,44],[5],[]⟩ k)=(cond (decide (x44 < x43)) (cond (decide (0≤x44)&&decide (x44 < ic (AF l42))) (cond (IV.toInt (IV.cell (AI l42 (AE x44) default) 0) != x1) (again (NC a2 x1 x6 x7 b8 x9 x10 l42 x43 (AA AB (x44+1)))) (again (NC a2 x1 x6 x7 b8 (AA AB (x9+IF (IV.toList (IV.cell (AI l42 (AE x44) default) 1)) a2)) (AA AB (x10+IE (IV.toList (IV.cell (AI l42 (AE x44) default) 1)) a2)) l42 x43 (AA AB (x44+1))))) none) (k (.exit 0) (NC a2 x1 x6 x7 b8 x9 x10 l42 x43 x44))):=by kernel_rfl
theorem Yb (N:Nat) (a2:Bx) (x1 x6 x7:Int) (b8:Bool) (x9 x10:Int) (l42:LI) (x43 x44:Int):(DQ 0 (DS (G2 N) (DK IS [1,1,1,1]) (DT (G2 N) none [.tmp 6,.tmp 7,.tmp 8] [[.z],[.z],[.bool]]))) (.exit 0) (NC a2 x1 x6 x7 b8 x9 x10 l42 x43 x44)=(some ((.tup [.i x9,.i x10,.bool true]),[])):=by kernel_rfl
def Q5 (N:Nat):Env:=D4 [(162,SN)] [(6,⟨[1,3,5,6,7,8,11,12,33,34],[3,5],[]⟩)] 62 N
abbrev T2 (m:Md) (b:Bx) (x1 x6:Int) (b7:Bool) (x8 x11:Int) (b12:Bool) (x33 x34:Int):St:=⟨[(1,(.i x1)),(3,(.ptr 3 0 0)),(5,(.ptr 5 0 0)),(6,(.i x6)),(7,(.bool b7)),(8,(.i x8)),(11,(.i x11)),(12,(.bool b12)),(33,(.i x33)),(34,(.i x34))],[(3,(some (.box (Md.cs m)))),(5,(some (.box (Bx.cs b))))]⟩
theorem zdG (N:Nat) (m:Md) (u00:Int) (b:Bx):DZ (Q5 N) UT [.tmp 6,.tmp 7] [[.z],[.bool]] [(Md.V m),.i u00,(Bx.V b)]=(cond (!G8 m u00 b) (some ((.tup [.i 0,.bool false]),[])) (cond (decide (Md.c m < 2)) (some ((.tup [.i 0,.bool false]),[])) (DY (Q5 N) (DK UT [1,1,1,1,0,1,0,0]) ⟨[1,3,5,6,7,8,11,12,33,34],[3,5],[]⟩ N (T2 m b u00 0 false (EA m u00 b) 0 false (Md.c m) 0) (DQ 0 (DS (Q5 N) (DK UT [1,1,1,1,1]) (DT (Q5 N) none [.tmp 6,.tmp 7] [[.z],[.bool]])))))):=by kernel_rfl
theorem Mj (N:Nat) (m:Md) (b:Bx) (x1 x6:Int) (b7:Bool) (x8 x11:Int) (b12:Bool) (x33 x34:Int) (again:St→DN) (k:Out→St→DN):E2 (Q5 N) (DK UT [1,1,1,1,0,1,0,0]) (T2 m b x1 x6 b7 x8 x11 b12 x33 x34) (EQ again ⟨[1,3,5,6,7,8,11,12,33,34],[3,5],[]⟩ k)=(cond (decide (x34 < x33)) (cond (x34==x1) (again (T2 m b x1 x6 b7 x8 x11 b12 x33 (AA AB (x34+1)))) (cond (!b12) (again (T2 m b x1 x6 b7 x8 (AA AB (x8 - D8 m x34 b)) true x33 (AA AB (x34+1)))) (cond (decide (AA AB (x8 - D8 m x34 b) < x11)) (again (T2 m b x1 x6 b7 x8 (AA AB (x8 - D8 m x34 b)) true x33 (AA AB (x34+1)))) (again (T2 m b x1 x6 b7 x8 x11 b12 x33 (AA AB (x34+1))))))) (k (.exit 0) (T2 m b x1 x6 b7 x8 x11 b12 x33 x34))):=by kernel_rfl
theorem Ya (N:Nat) (m:Md) (b:Bx) (x1 x6:Int) (b7:Bool) (x8 x11:Int) (b12:Bool) (x33 x34:Int):(DQ 0 (DS (Q5 N) (DK UT [1,1,1,1,1]) (DT (Q5 N) none [.tmp 6,.tmp 7] [[.z],[.bool]]))) (.exit 0) (T2 m b x1 x6 b7 x8 x11 b12 x33 x34)=(some ((.tup [.i x11,.bool true]),[])):=by kernel_rfl
def Rt (N:Nat):Env:=D4 [] [] 16 N
theorem zed (N:Nat) (q:Qy):DZ (Rt N) yB [.tmp 2] [[.bool]] [(Qy.V q)]=(cond (Qy.k q==3) (cond (decide (Qy.ft q≥0)) (some ((.bool (decide (Qy.ft q < 4))),[])) (some ((.bool false),[]))) (some ((.bool false),[]))):=by kernel_rfl
def Rq (N:Nat):Env:=D4 [(197,P3)] [] 10 N
theorem zea (N:Nat) (q:Qy) (b:Bx):DZ (Rq N) xY [.cell 4 36] [[.z,.z,.z,.z,.z,.z,.z,.z,.z,.z]] [(Qy.V q),(Bx.V b)]=(cond (HB q) (some ((.agg [.i (Sp.lo (Bx.s0 b)),.i (Sp.hi (Bx.s0 b)),.i (Sp.lo (Bx.s1 b)),.i (Sp.hi (Bx.s1 b)),.i (Sp.lo (Bx.s2 b)),.i (Sp.hi (Bx.s2 b)),.i (Sp.lo (Bx.s3 b)),.i (Sp.hi (Bx.s3 b)),.i 0,.i 0]),[])) (some ((Bx.V b),[]))):=by kernel_rfl
def Rs (N:Nat):Env:=D4 [(197,P3)] [] 15 N
theorem zec (N:Nat) (q:Qy) (b:Bx):DZ (Rs N) yA [.cell 4 36] [[.z,.z,.z,.z,.z,.z,.z,.z,.z,.z]] [(Qy.V q),(Bx.V b)]=(cond (HB q) (cond (decide (Qy.ft q=ic 0)) (some ((.agg [.i (Sp.lo (Bx.s4 b)),.i (Sp.hi (Bx.s4 b)),.i (Sp.lo (Bx.s1 b)),.i (Sp.hi (Bx.s1 b)),.i (Sp.lo (Bx.s2 b)),.i (Sp.hi (Bx.s2 b)),.i (Sp.lo (Bx.s3 b)),.i (Sp.hi (Bx.s3 b)),.i 0,.i 0]),[])) (cond (decide (Qy.ft q=ic 1)) (some ((.agg [.i (Sp.lo (Bx.s0 b)),.i (Sp.hi (Bx.s0 b)),.i (Sp.lo (Bx.s4 b)),.i (Sp.hi (Bx.s4 b)),.i (Sp.lo (Bx.s2 b)),.i (Sp.hi (Bx.s2 b)),.i (Sp.lo (Bx.s3 b)),.i (Sp.hi (Bx.s3 b)),.i 0,.i 0]),[])) (cond (decide (Qy.ft q=ic 2)) (some ((.agg [.i (Sp.lo (Bx.s0 b)),.i (Sp.hi (Bx.s0 b)),.i (Sp.lo (Bx.s1 b)),.i (Sp.hi (Bx.s1 b)),.i (Sp.lo (Bx.s4 b)),.i (Sp.hi (Bx.s4 b)),.i (Sp.lo (Bx.s3 b)),.i (Sp.hi (Bx.s3 b)),.i 0,.i 0]),[])) (cond (decide (Qy.ft q=ic 3)) (some ((.agg [.i (Sp.lo (Bx.s0 b)),.i (Sp.hi (Bx.s0 b)),.i (Sp.lo (Bx.s1 b)),.i (Sp.hi (Bx.s1 b)),.i (Sp.lo (Bx.s2 b)),.i (Sp.hi (Bx.s2 b)),.i (Sp.lo (Bx.s4 b)),.i (Sp.hi (Bx.s4 b)),.i 0,.i 0]),[])) (cond (decide (Qy.ft q=ic 4)) (some ((.agg [.i (Sp.lo (Bx.s0 b)),.i (Sp.hi (Bx.s0 b)),.i (Sp.lo (Bx.s1 b)),.i (Sp.hi (Bx.s1 b)),.i (Sp.lo (Bx.s2 b)),.i (Sp.hi (Bx.s2 b)),.i (Sp.lo (Bx.s3 b)),.i (Sp.hi (Bx.s3 b)),.i 0,.i 0]),[])) none))))) (some ((Bx.V b),[]))):=by kernel_rfl
def Rr (N:Nat):Env:=D4 [(112,K9),(197,P3)] [] 23 N
theorem zeb (N:Nat) (q:Qy) (b:Bx):DZ (Rr N) xZ [.tmp 4] [[.bool]] [(Qy.V q),(Bx.V b)]=(cond (HB q) (cond (!Bx.emp b) (cond (decide (Qy.ft q=ic 0)) (some ((.bool (decide (Sp.lo (Bx.s0 b) < Sp.hi (Bx.s4 b)))),[])) (cond (decide (Qy.ft q=ic 1)) (some ((.bool (decide (Sp.lo (Bx.s1 b) < Sp.hi (Bx.s4 b)))),[])) (cond (decide (Qy.ft q=ic 2)) (some ((.bool (decide (Sp.lo (Bx.s2 b) < Sp.hi (Bx.s4 b)))),[])) (cond (decide (Qy.ft q=ic 3)) (some ((.bool (decide (Sp.lo (Bx.s3 b) < Sp.hi (Bx.s4 b)))),[])) (cond (decide (Qy.ft q=ic 4)) (some ((.bool (decide (Sp.lo (Bx.s4 b) < Sp.hi (Bx.s4 b)))),[])) none))))) (some ((.bool false),[]))) (some ((.bool false),[]))):=by kernel_rfl
def Ro (N:Nat):Env:=D4 [(162,SN),(198,cO),(199,cQ),(197,P3)] [] 54 N
theorem zd9 (N:Nat) (m:Md) (q:Qy) (b:Bx):DZ (Ro N) xX [.tmp 6,.tmp 7,.tmp 8] [[.z],[.z],[.bool]] [(Md.V m),(Qy.V q),(Bx.V b)]=(cond (!HB q) (some ((.tup [.i 0,.i 0,.bool false]),[])) (cond (!G8 m (Qy.c q) (J6 q b)) (some ((.tup [.i 0,.i 0,.bool false]),[])) (cond (!G8 m (Qy.c q) (KA q b)) (some ((.tup [.i 0,.i 0,.bool false]),[])) (some ((.tup [.i (AA AB (EA m (Qy.c q) (KA q b) - D8 m (Qy.c q) (J6 q b))),.i (AA AB (D8 m (Qy.c q) (KA q b) - EA m (Qy.c q) (J6 q b))),.bool true]),[]))))):=by kernel_rfl
def Sa (N:Nat):Env:=D4 [(163,bU),(162,SN),(112,K9),(165,cN),(164,cP),(65,MQ)] [] 86 N
theorem zel (N:Nat) (m:Md) (a1:Qy) (a2:Bx):DZ (Sa N) yI [.tmp 6] [[.bool]] [(Md.V m),(Qy.V a1),(Bx.V a2)]=(cond (!E8 m a1) (some ((.bool false),[])) (cond (Bx.emp a2) (some ((.bool true),[])) (cond (Qy.k a1==1) (cond (G8 m (Qy.c a1) a2) (cond (decide (Qy.lo a1≤EA m (Qy.c a1) a2)) (some ((.bool (decide (D8 m (Qy.c a1) a2≤Qy.hi a1))),[])) (some ((.bool false),[]))) (some ((.bool false),[]))) (cond (Qy.k a1==2) (cond (NU m (Qy.c a1) a2) (some ((.bool (decide (VA m (Qy.c a1) a2 > 0))),[])) (some ((.bool false),[]))) (cond (!QI a1 a2) (some ((.bool true),[])) (cond (Qy.fl a1) (cond (LC m a1 a2) (some ((.bool (decide (S2 m a1 a2≤0))),[])) (some ((.bool false),[]))) (cond (LC m a1 a2) (some ((.bool (decide (S3 m a1 a2≥0))),[])) (some ((.bool false),[]))))))))):=by kernel_rfl
def Sb (N:Nat):Env:=D4 [(81,bX)] [] 9 N
theorem zem (N:Nat) (b:Bx):DZ (Sb N) yJ [.cell 2 53,.tmp 3] [[.z,.z,.z,.z],[.z]] [(Bx.V b)]=(some ((.tup [(Pt.V (Bx.low b)),.i (Sp.hi (Bx.s4 b))]),[])):=by kernel_rfl
def OY (N:Nat):Env:=D4 [(126,cW)] [(2,⟨[3,4,5,6,7,8,11],[3,4,5],[]⟩)] 31 N
abbrev V8 (m:Md) (q:Qy) (b:Bx) (x6 x7:Int) (b8:Bool) (x11:Int):St:=⟨[(3,(.ptr 3 0 0)),(4,(.ptr 4 0 0)),(5,(.ptr 5 0 0)),(6,(.i x6)),(7,(.i x7)),(8,(.bool b8)),(11,(.i x11))],[(3,(some (.box (Md.cs m)))),(4,(some (.box (Qy.cs q)))),(5,(some (.box (Bx.cs b))))]⟩
theorem zen (N:Nat) (m:Md) (q:Qy) (b:Bx):DZ (OY N) SZ [.tmp 6,.tmp 7,.tmp 8] [[.z],[.z],[.bool]] [(Md.V m),(Qy.V q),(Bx.V b)]=(DY (OY N) (DK SZ [1,0,1,0,0]) ⟨[3,4,5,6,7,8,11],[3,4,5],[]⟩ N (V8 m q b 0 0 false 0) (DQ 0 (DS (OY N) (DK SZ [1,1]) (DT (OY N) none [.tmp 6,.tmp 7,.tmp 8] [[.z],[.z],[.bool]])))):=by kernel_rfl
theorem Na (N:Nat) (m:Md) (q:Qy) (b:Bx) (x6 x7:Int) (b8:Bool) (x11:Int) (again:St→DN) (k:Out→St→DN):E2 (OY N) (DK SZ [1,0,1,0,0]) (V8 m q b x6 x7 b8 x11) (EQ again ⟨[3,4,5,6,7,8,11],[3,4,5],[]⟩ k)=(cond (decide (x11 < 5)) (cond (EX m&&H9 x11) (cond (decide (ic (AF (iZ (FG m q b (AE x11)))) > 0)) (cond (decide (0≤AA AB (Int.tdiv (AA AB (ic (AF (iZ (FG m q b (AE x11)))) - 1)) 2))&&decide (AA AB (Int.tdiv (AA AB (ic (AF (iZ (FG m q b (AE x11)))) - 1)) 2) < ic (AF (iZ (FG m q b (AE x11)))))) (k .ret (V8 m q b x11 (IV.toInt (AI (iZ (FG m q b (AE x11))) (AE (AA AB (Int.tdiv (AA AB (ic (AF (iZ (FG m q b (AE x11)))) - 1)) 2))) default)) true x11)) none) (again (V8 m q b x6 x7 b8 (AA AB (x11+1))))) none) (k (.exit 0) (V8 m q b x6 x7 b8 x11))):=by kernel_rfl
theorem Zc (N:Nat) (m:Md) (q:Qy) (b:Bx) (x6 x7:Int) (b8:Bool) (x11:Int):(DQ 0 (DS (OY N) (DK SZ [1,1]) (DT (OY N) none [.tmp 6,.tmp 7,.tmp 8] [[.z],[.z],[.bool]]))) (.exit 0) (V8 m q b x6 x7 b8 x11)=(some ((.tup [.i 0,.i 0,.bool false]),[])):=by kernel_rfl
theorem Zd (N:Nat) (m:Md) (q:Qy) (b:Bx) (x6 x7:Int) (b8:Bool) (x11:Int):(DQ 0 (DS (OY N) (DK SZ [1,1]) (DT (OY N) none [.tmp 6,.tmp 7,.tmp 8] [[.z],[.z],[.bool]]))) .ret (V8 m q b x6 x7 b8 x11)=(some ((.tup [.i x6,.i x7,.bool b8]),[])):=by kernel_rfl
open Go Go.Proofs
set_option maxRecDepth 100000
theorem Cn {i:Int} (h:H9 i=true):i=0∨i=1∨i=2∨i=3∨i=4:=by
 unfold H9 at h;simp only [AH,AQ] at h;omega
theorem Lb:DX PR B0 194 WY:=by
 refine D6 [] [] WY [[.z,.z]] Tryz.func194 zcb trivial ?_;intro vs r hwf h;unfold WY at h;split at h
 ·rw [R.get_ok] at h;exact ⟨0,(ze1 0).trans h⟩
 ·simp [R.get] at h
theorem ziw:DX PR B0 193 dT:=by
 refine D6 [(194,WY)] [] dT [[.z,.z]] Tryz.func193 zcc ⟨Lb,trivial⟩ ?_;intro vs r hwf h;unfold dT at h;split at h
 ·rename_i lo hi;rw [R.get_ok] at h;refine ⟨0,?_⟩;rw [← h];refine (ze2 0 lo hi).trans ?_;unfold M8;cases decide (lo > hi) <;> rfl
 ·simp [R.get] at h
theorem Kz:DX PR B0 155 WW:=by
 refine D6 [] [] WW [[.bool]] Tryz.func155 zb9 trivial ?_;intro vs r hwf h;unfold WW at h;split at h
 ·rename_i s;replace h:=vE h;obtain ⟨s,rfl,h⟩:=h;rw [R.get_ok] at h;exact ⟨0,(zeZ 0 s).trans h⟩
 ·simp [R.get] at h
theorem La:DX PR B0 114 WX:=by
 refine D6 [] [] WX [[.bool]] Tryz.func114 zca trivial ?_;intro vs r hwf h;unfold WX at h;split at h
 ·rename_i s n;replace h:=vE h;obtain ⟨s,rfl,h⟩:=h;rw [R.get_ok] at h;refine ⟨0,?_⟩;rw [← h];refine (ze0 0 s n).trans ?_;unfold Sp.has;cases decide (s.lo≤n) <;> rfl
 ·simp [R.get] at h
theorem ziv:DX PR B0 157 iJ:=by
 refine D6 [(194,WY),(193,dT)] [] iJ [[.z,.z],[.z,.z]] Tryz.func157 zb8 ⟨Lb,ziw,trivial⟩ ?_;intro vs r hwf h;unfold iJ at h;split at h
 ·rename_i s n;replace h:=vE h;obtain ⟨s,rfl,h⟩:=h;rw [R.get_ok] at h;refine ⟨0,?_⟩;rw [← h];refine (zeY 0 s n).trans ?_;unfold Sp.cutH;cases decide (n≥s.hi) <;> rfl
 ·simp [R.get] at h
theorem zg4 (b:Bx):DZ (Qx 6) xI [.tmp 2] [[.bool]] [b.V] =
 cond b.s0.emp (some (.bool true,[])) (cond b.s1.emp (some (.bool true,[])) (cond b.s2.emp (some (.bool true,[])) (cond b.s3.emp (some (.bool true,[])) (cond b.s4.emp (some (.bool true,[])) (some (.bool false,[])))))):=by kernel_rfl
theorem YA:DX PR B0 112 K9:=by
 refine D6 [(155,WW)] [(2,⟨[2,5,6],[],[]⟩)] K9 [[.bool]] Tryz.func112 zaS ⟨Kz,trivial⟩ ?_;intro vs r hwf h;unfold K9 at h;split at h
 ·rename_i b;replace h:=J0 h;obtain ⟨b,rfl,h⟩:=h;rw [R.get_ok] at h;refine ⟨6,?_⟩;rw [← h];refine (zg4 b).trans ?_;unfold Bx.emp;cases b.s0.emp <;> cases b.s1.emp <;> cases b.s2.emp <;> cases b.s3.emp <;> cases b.s4.emp <;> rfl
 ·simp [R.get] at h
theorem zg5 (b:Bx):DZ (Ra 5) xK [.cell 2 53] [[.z,.z,.z,.z]] [b.V]=some (b.low.V,[]):=by kernel_rfl
theorem zhz:DX PR B0 81 bX:=by
 refine D6 [] [(3,⟨[1,2,3,5],[1,2,3],[]⟩)] bX [[.z,.z,.z,.z]] Tryz.func81 zaU trivial ?_;intro vs r hwf h;unfold bX at h;split at h
 ·rename_i b;replace h:=J0 h;obtain ⟨b,rfl,h⟩:=h;rw [R.get_ok] at h;exact ⟨5,(zg5 b).trans h⟩
 ·simp [R.get] at h
theorem lU:DX PR B0 111 P0:=by
 refine D6 [(157,iJ)] [] P0 [[.z,.z,.z,.z,.z,.z,.z,.z,.z,.z],[.z,.z,.z,.z,.z,.z,.z,.z,.z,.z]] Tryz.func111 zaR ⟨ziv,trivial⟩ ?_;intro vs r hwf h;unfold P0 at h;split at h
 ·rename_i b i a;replace h:=J0 h;obtain ⟨b,rfl,h⟩:=h;cases hg:(H9 i) with
  | false=>rw [hg] at h; simp [R.get] at h
  | true=>
  rw [hg,R.get_br,DI,R.get_ok] at h;refine ⟨0,?_⟩;rw [← h];rcases Cn hg with rfl | rfl | rfl | rfl | rfl <;> kernel_rfl
 ·simp [R.get] at h
theorem Ky:DX PR B0 109 WV:=by
 refine D6 [] [] WV [[.bool]] Tryz.func109 zbZ trivial ?_;intro vs r hwf h;unfold WV at h;split at h
 ·rename_i q;replace h:=KS h;obtain ⟨q,rfl,h⟩:=h;rw [R.get_ok] at h;refine ⟨0,?_⟩;rw [← h];refine (zeM 0 q).trans ?_;unfold HB;cases (q.k==3) <;> cases decide (q.ft≥0) <;> rfl
 ·simp [R.get] at h
theorem lX:DX PR B0 197 P3:=by
 refine D6 [] [] P3 [[.bool]] Tryz.func197 zbq trivial ?_;intro vs r hwf h;unfold P3 at h;split at h
 ·rename_i q;replace h:=KS h;obtain ⟨q,rfl,h⟩:=h;rw [R.get_ok] at h;refine ⟨0,?_⟩;rw [← h];refine (zed 0 q).trans ?_;unfold HB;cases (q.k==3) <;> cases decide (q.ft≥0) <;> rfl
 ·simp [R.get] at h
theorem RY {q:Qy} (h:HB q=true):q.ft=0∨q.ft=1∨q.ft=2∨q.ft=3:=by
 unfold HB at h;simp only [AH,AQ] at h;omega
theorem zhU:DX PR B0 198 cO:=by
 refine D6 [(197,P3)] [] cO [[.z,.z,.z,.z,.z,.z,.z,.z,.z,.z]] Tryz.func198 zbn ⟨lX,trivial⟩ ?_;intro vs r hwf h;unfold cO at h;split at h
 ·rename_i q b;replace h:=KS h;obtain ⟨q,rfl,h⟩:=h;replace h:=J0 h;obtain ⟨b,rfl,h⟩:=h;rw [R.get_ok] at h;refine ⟨0,?_⟩;rw [← h];refine (zea 0 q b).trans ?_;unfold J6;cases HB q <;> rfl
 ·simp [R.get] at h
theorem zhW:DX PR B0 199 cQ:=by
 refine D6 [(197,P3)] [] cQ [[.z,.z,.z,.z,.z,.z,.z,.z,.z,.z]] Tryz.func199 zbp ⟨lX,trivial⟩ ?_;intro vs r hwf h;unfold cQ at h;split at h
 ·rename_i q b;replace h:=KS h;obtain ⟨q,rfl,h⟩:=h;replace h:=J0 h;obtain ⟨b,rfl,h⟩:=h;rw [R.get_ok] at h;refine ⟨0,?_⟩;rw [← h];refine (zec 0 q b).trans ?_;unfold KA;cases hp:HB q with
  | false=>rfl
  | true=>rcases RY hp with e | e | e | e <;> rw [e] <;> rfl
 ·simp [R.get] at h
theorem zhV:DX PR B0 164 cP:=by
 refine D6 [(112,K9),(197,P3)] [] cP [[.bool]] Tryz.func164 zbo ⟨YA,lX,trivial⟩ ?_;intro vs r hwf h;unfold cP at h;split at h
 ·rename_i q b;replace h:=KS h;obtain ⟨q,rfl,h⟩:=h;replace h:=J0 h;obtain ⟨b,rfl,h⟩:=h;rw [R.get_ok] at h;refine ⟨0,?_⟩;rw [← h];refine (zeb 0 q b).trans ?_;unfold QI;cases hp:HB q with
  | false=>rfl
  | true=>cases b.emp <;> rcases RY hp with e | e | e | e <;> rw [e] <;> rfl
 ·simp [R.get] at h
theorem Kx:DX PR B0 66 WU:=by
 refine D6 [(109,WV)] [] WU [[.z,.z,.z,.z,.z,.z,.z,.z,.z,.z]] Tryz.func66 zbX ⟨Ky,trivial⟩ ?_;intro vs r hwf h;unfold WU at h;split at h
 ·rename_i q;replace h:=KS h;obtain ⟨q,rfl,h⟩:=h;rw [R.get_ok] at h;refine ⟨0,?_⟩;rw [← h];refine (zeK 0 q).trans ?_;unfold GE;cases hp:HB q with
  | false=>rfl
  | true=>rcases RY hp with e | e | e | e <;> rw [e] <;> rfl
 ·simp [R.get] at h
theorem zik:DX PR B0 116 dK:=by
 refine D6 [(109,WV)] [] dK [[.z,.z,.z,.z]] Tryz.func116 zbW ⟨Ky,trivial⟩ ?_;intro vs r hwf h;unfold dK at h;split at h
 ·rename_i q p t;replace h:=KS h;obtain ⟨q,rfl,h⟩:=h;replace h:=YR h;obtain ⟨p,rfl,h⟩:=h;rw [R.get_ok] at h;refine ⟨0,?_⟩;rw [← h];refine (zeJ 0 q p t).trans ?_;unfold JJ;cases hp:HB q with
  | false=>rfl
  | true=>rcases RY hp with e | e | e | e <;> rw [e] <;> rfl
 ·simp [R.get] at h
def X5 (d i:Int) (s:Sp) (rest:DN):DN:=
 cond (decide (i≥d)) (cond (!((s.lo==0)&&((s.hi==0)&&true))) (some (.bool false,[])) (cond s.emp (some (.bool false,[])) (cond (!(E5 s.lo)) (some (.bool false,[])) (cond (!(E5 s.hi)) (some (.bool false,[])) rest))))
  (cond s.emp (some (.bool false,[])) (cond (!(E5 s.lo)) (some (.bool false,[])) (cond (!(E5 s.hi)) (some (.bool false,[])) rest)))
theorem gK (d i:Int) (s:Sp) (rest:DN):X5 d i s rest=cond (K5 d i s) rest (some (.bool false,[])):=by
 unfold X5 K5;rw [B1];cases decide (i≥d) <;> cases ((s.lo==0)&&(s.hi==0)) <;> cases s.emp <;> cases E5 s.lo <;> cases E5 s.hi <;> rfl
theorem zg8 (b:Bx) (d:Int):DZ (Sw 6) y3 [.tmp 4] [[.bool]] [b.V,.int .i64 d]=X5 d 0 b.s0 (X5 d 1 b.s1 (X5 d 2 b.s2 (X5 d 3 b.s3 (X5 d 4 b.s4 (some (.bool true,[])))))):=by kernel_rfl
theorem zim:DX PR B0 107 dM:=by
 refine D6 [(93,SL),(155,WW)] [(2,⟨[1,4,7,8],[],[]⟩)] dM [[.bool]] Tryz.func107 zb0 ⟨tM,Kz,trivial⟩ ?_;intro vs r hwf h;unfold dM at h;split at h
 ·rename_i b d;replace h:=J0 h;obtain ⟨b,rfl,h⟩:=h;rw [R.get_ok] at h;refine ⟨6,?_⟩;rw [← h];refine (zg8 b d).trans ?_;rw [gK,gK,gK,gK,gK];unfold QL;cases K5 d 0 b.s0 <;> cases K5 d 1 b.s1 <;> cases K5 d 2 b.s2 <;> cases K5 d 3 b.s3 <;> cases K5 d 4 b.s4 <;> rfl
 ·simp [R.get] at h
theorem zil:DX PR B0 108 dL:=by
 refine D6 [] [] dL [[.bool]] Tryz.func108 zbY trivial ?_;intro vs r hwf h;unfold dL at h;split at h
 ·rename_i m q;replace h:=KE h;obtain ⟨m,rfl,h⟩:=h;replace h:=KS h;obtain ⟨q,rfl,h⟩:=h;rw [R.get_ok] at h;refine ⟨0,?_⟩;rw [← h];refine (zeL 0 m q).trans ?_;unfold RL;cases (q.k==1) <;> cases (q.k==2) <;> cases (q.k==3) <;> cases decide (q.lo≤q.hi) <;> cases (q.ft==0) <;> cases decide (m.c≥2) <;> cases (q.lo==0) <;> cases (q.hi==0) <;> cases decide (q.ft≥0) <;> cases decide (q.ft < m.d) <;> rfl
 ·simp [R.get] at h
theorem aO:DX PR B0 65 MQ:=by
 refine D6 [(53,MO),(108,dL),(107,dM)] [] MQ [[.bool]] Tryz.func65 zbV ⟨aM,zil,zim,trivial⟩ ?_;intro vs r hwf h;unfold MQ at h;split at h
 ·rename_i m q;replace h:=KE h;obtain ⟨m,rfl,h⟩:=h;replace h:=KS h;obtain ⟨q,rfl,h⟩:=h;rw [R.get_ok] at h;refine ⟨0,?_⟩;rw [← h];refine (zeI 0 m q).trans ?_;unfold E8 Qy.bx;generalize QL _ _=rg;cases EX m <;> cases decide (q.c≥0) <;> cases decide (q.c < m.c) <;> cases decide (q.bu≥0) <;> cases decide (q.bu≤65536) <;> cases rg <;> rfl
 ·simp [R.get] at h
theorem qV {w:Int} (hb:GJ w=true) (hl:(DL w).lf=false):(0≤(DL w).f∧(DL w).f < 4)∧(1≤(DL w).l∧(DL w).l < 31)∧(1≤(DL w).r∧(DL w).r < 31)∧E5 (DL w).a=true:=by
 have h:=(kX hb).2;unfold M6 at h;rw [hl,DJ] at h;unfold RF at h;simp only [AH,AQ] at h;exact ⟨⟨h.2.1,h.2.2.1⟩,h.2.2.2.2.1,h.2.2.2.2.2,h.2.2.2.1⟩
theorem Fc (w:Int):E5 (DL w).v=true:=by
 cases hb:GJ w with
 | false=>
  have e:DL w=Nd.zero:=by unfold DL; rw [hb]; rfl
  rw [e];rfl
 | true=>
  have h:=(kX hb).2;unfold M6 at h;cases hl:(DL w).lf with
  | true=>
   rw [hl,DI,AH] at h;exact h.2
  | false=>
   rw [hl,DJ,AH,B8] at h;rw [h.1];rfl
abbrev vK (l:LI) (p:Pt) (a j:Int):St:=
 ⟨[(0,(.list false [(.int .u64)] l)),(3,(.ptr 3 0 0)),(4,(.int .i64 0)),(5,(.ptr 5 0 0)),(6,(.int .i64 a)),(9,(.int .i64 j))],[(3,(some (.box (Pt.cs p)))),(5,(some (.box [(.bool false),(.int .i64 0),(.int .i64 0),(.int .i64 0),(.int .i64 0),(.int .i64 0)])))]⟩
theorem oV (N:Nat) (l:LI) (p:Pt):∀ (m j n:Nat) (a:Int),0≤a→j+m=31→m < n →
  DY (KT N) (DK OD [1,1,0,1,0,0]) ⟨[0,3,4,5,6,9],[3,5],[]⟩ n (vK l p a (j:Int)) (DQ 0 (DS (KT N) (DK OD [1,1,1]) (DT (KT N) none [(CE 4),(va4 5 111)] [[.z],[.bool,.z,.z,.z,.z,.z]]))) =
   some (.tup [.int .i64 (IU l p m a).1,(IU l p m a).2.V],[])
 | m,j,0,a,_,_,h=>absurd h (by omega)
 | 0,j,n+1,a,ha,hd,_=>by
  have hj:j=31:=by omega
  subst hj;rw [D5,Nt,AL (show ¬ ((31:Nat):Int) < 31 by omega),DJ];exact Bk N p l _ _ _ _ _ _ _ _ _
 | m+1,j,n+1,a,ha,hd,hn=>by
  have ej:AA AB ((j:Int)+1)=((j+1:Nat):Int):=HD (by omega);rw [D5,Nt,AD (show (j:Int) < 31 by omega),DI,IU,ej];cases hge:decide (a≥ic l.length) with
  | true=>
   rw [DI,DI];exact Bk N p l _ _ _ _ _ _ _ _ _
  | false=>
   have hge:=BH hge;rw [DJ,DJ,AD ha,AD (show a < ic l.length by omega),B3,DI];generalize (l.getD a.toNat default).toInt=w;cases hb:GJ w with
   | false=>
    rw [A8,DI,DI];exact zae N p l _ _ _ _ _ _ _ _ _
   | true=>
    rw [A2,DJ,DJ];cases hl:(DL w).lf with
    | true=>
     rw [DI,DI];rfl
    | false=>
     obtain ⟨⟨f0,f4⟩,⟨l1,l31⟩,⟨r1,r31⟩,_⟩:=qV hb hl;rw [DJ,DJ];have step:∀ c:Bool,(cond c (DY (KT N) (DK OD [1,1,0,1,0,0]) ⟨[0,3,4,5,6,9],[3,5],[]⟩ n (vK l p (DL w).l ((j+1:Nat):Int)) (DQ 0 (DS (KT N) (DK OD [1,1,1]) (DT (KT N) none [(CE 4),(va4 5 111)] [[.z],[.bool,.z,.z,.z,.z,.z]]))))
       (DY (KT N) (DK OD [1,1,0,1,0,0]) ⟨[0,3,4,5,6,9],[3,5],[]⟩ n (vK l p (DL w).r ((j+1:Nat):Int)) (DQ 0 (DS (KT N) (DK OD [1,1,1]) (DT (KT N) none [(CE 4),(va4 5 111)] [[.z],[.bool,.z,.z,.z,.z,.z]]))))) =
       some (.tup [.int .i64 (cond c (IU l p m (DL w).l) (IU l p m (DL w).r)).1,(cond c (IU l p m (DL w).l) (IU l p m (DL w).r)).2.V],[]):=fun c=>by
      cases c with
      | true=>exact oV N l p m (j+1) n (DL w).l (by omega) (by omega) (by omega)
      | false=>exact oV N l p m (j+1) n (DL w).r (by omega) (by omega) (by omega)
     obtain e | e | e | e:(DL w).f=0∨(DL w).f=1∨(DL w).f=2∨(DL w).f=3:=by omega
     all_goals
      rw [e];exact step _
theorem ziE:DX PR B0 217 dX:=by
 refine D6 [(55,MP)] [(3,⟨[0,3,4,5,6,9],[3,5],[]⟩)] dX [[.z],[.bool,.z,.z,.z,.z,.z]] Tryz.func217 zco ⟨aN,trivial⟩ ?_;intro vs r hwf h;unfold dX at h;split at h
 ·rename_i l p;replace h:=YR h;obtain ⟨p,rfl,h⟩:=h;rw [R.get_ok] at h;refine ⟨32,?_⟩;rw [← h];exact (zfe 32 l p).trans (oV 32 l p 31 0 32 0 (by omega) rfl (by omega))
 ·simp [R.get] at h
theorem ziD:DX PR B0 195 dW:=by
 refine D6 [(217,dX)] [] dW [[.z]] Tryz.func195 zcn ⟨ziE,trivial⟩ ?_;intro vs r hwf h;unfold dW at h;split at h
 ·rename_i l p;replace h:=YR h;obtain ⟨p,rfl,h⟩:=h;rw [R.get_ok] at h;exact ⟨0,(zfd 0 l p).trans h⟩
 ·simp [R.get] at h
theorem NP {n:Int} (h:E5 n=true) : -2147483648≤n∧n≤2147483647:=by
 unfold E5 at h;simpa only [AH,AQ] using h
theorem oU (l:LI) (p:Pt):∀ (n:Nat) (a:Int),E5 (IU l p n a).2.v=true
 | 0,_=>rfl
 | n+1,a=>by
  rw [IU];cases decide (a≥ic l.length) with
  | true=>rfl
  | false=>
   rw [DJ];generalize (l.getD a.toNat default).toInt=w;cases GJ w with
   | false=>rfl
   | true=>
    rw [A2,DJ];cases (DL w).lf with
    | true=>exact Fc w
    | false=>
     rw [DJ];cases decide (p.g (DL w).f.toNat≤(DL w).a) with
     | true=>exact oU l p n _
     | false=>exact oU l p n _
theorem zjD (l:LI) (p:Pt) : -2147483648≤HE l p∧HE l p≤2147483647:=NP (oU l p 31 0)
theorem MB {m:Md} (h:EX m=true):(1≤m.d∧m.d≤4)∧(1≤m.c∧m.c≤3)∧m.ts.length≤8∧(E5 m.b0=true∧E5 m.b1=true∧E5 m.b2=true)∧m.ts.all (HN m.d m.c)=true:=by
 unfold EX HX at h;simp only [AH,B4,BW] at h;obtain ⟨⟨h1,h2,h3,h4,h5⟩,⟨h6,h7,h8⟩,h9⟩:=h;exact ⟨⟨by omega,by omega⟩,⟨by omega,by omega⟩,AP h5,⟨h6.1,h7.1,h8.1⟩,h9⟩
theorem zV {m:Md} {k:Int} (h:IH m k=true):0≤k∧k < m.c:=by
 unfold IH at h;simpa only [AH,AQ] using h
theorem oB {m:Md} {k:Int} (hm:EX m=true) (h:IH m k=true):k=0∨k=1∨k=2:=by
 have:=zV h
 have:=(MB hm).2.1
 omega
theorem iW {m:Md} (hm:EX m=true) (k:Int) : -2147483648≤LY m k∧LY m k≤2147483647:=by
 obtain ⟨h0,h1,h2⟩:=(MB hm).2.2.2.1;unfold LY;cases (k==0) with
 | true=>exact NP h0
 | false=>
  cases (k==1) with
  | true=>exact NP h1
  | false=>exact NP h2
abbrev zj3 (ts:LI) (p:Pt) (k s i:Int):St:=
 ⟨[(1,(.int .i64 k)),(5,(.ptr 5 0 0)),(6,(.int .i64 0)),(7,(.int .i64 s)),(15,(.list true [.z,(.list false [(.int .u64)])] ts)),(16,(.int .i64 (ic (AF ts)))),(17,(.int .i64 i))],[(5,(some (.box (Pt.cs p))))]⟩
theorem o4 (N:Nat) (ts:LI) (p:Pt) (k:Int) (hts:ts.length≤8):∀ (m i n:Nat) (s:Int),i+m=ts.length→m < n → -2147483648*(i+1)≤s∧s≤2147483648*(i+1) →
  DY (LV N) (DK O9 [1,1,0,1,0,0]) ⟨[1,5,6,7,15,16,17],[5],[]⟩ n (zj3 ts p k s (i:Int)) (DQ 0 (DS (LV N) (DK O9 [1,1,1]) (DT (LV N) none [(CE 6)] [[.z]]))) =
   some (.int .i64 (QD k p (ts.drop i) s),[])
 | m,i,0,s,_,h,_=>absurd h (by omega)
 | 0,i,n+1,s,hd,_,_=>by
  have hi:i=ts.length:=by omega
  subst hi;rw [D5,Nh,I5 (AZ _),DJ,vaA];exact Zj N p _ _ _ _ _ _
 | m+1,i,n+1,s,hd,hn,hs=>by
  have hi:i < ts.length:=by omega
  have ei:AA AB ((i:Int)+1)=((i+1:Nat):Int):=HD (by omega);rw [D5,Nh,ei,HA hi,DI,IL,B3,DI,H8 hi,BG hi,QD];have hv:=zjD (FI ts[i]) p;cases hc:((ts[i].cell 0).toInt==k) with
  | true=>
   rw [DI,DI];have ew:AA AB (s+HE (FI ts[i]) p)=s+HE (FI ts[i]) p:=EL (by omega) (by omega);have ih:=o4 N ts p k hts m (i+1) n (s+HE (FI ts[i]) p) (by omega) (by omega) (by omega);rw [← ew] at ih;refine Eq.trans ih ?_;rw [ew]
  | false=>
   rw [DJ,DJ];exact o4 N ts p k hts m (i+1) n s (by omega) (by omega) (by omega)
theorem zic:DX PR B0 159 dC:=by
 refine D6 [(195,dW)] [(3,⟨[1,5,6,7,15,16,17],[5],[]⟩)] dC [[.z]] Tryz.func159 zbK ⟨ziD,trivial⟩ ?_;intro vs r hwf h;unfold dC at h;split at h
 ·rename_i m k p;replace h:=KE h;obtain ⟨m,rfl,h⟩:=h;replace h:=YR h;obtain ⟨p,rfl,h⟩:=h;cases hg:(EX m&&IH m k) with
  | false=>rw [hg] at h; simp [R.get] at h
  | true=>
  rw [hg,R.get_br,DI,R.get_ok] at h;rw [AH] at hg;have hb:=iW hg.1 k;have run:=o4 10 m.ts p k (MB hg.1).2.2.1 m.ts.length 0 10 (LY m k) (by omega) (by have:=(MB hg.1).2.2.1; omega) (by omega);refine ⟨10,?_⟩;rw [← h];refine (zex 10 m k p).trans ?_;rcases oB hg.1 hg.2 with rfl | rfl | rfl <;> exact run
 ·simp [R.get] at h
theorem zia:DX PR B0 115 c8:=by
 refine D6 [(53,MO),(159,dC)] [] c8 [[.z]] Tryz.func115 zbG ⟨aM,zic,trivial⟩ ?_;intro vs r hwf h;unfold c8 at h;split at h
 ·rename_i m k p;replace h:=KE h;obtain ⟨m,rfl,h⟩:=h;replace h:=YR h;obtain ⟨p,rfl,h⟩:=h;rw [R.get_ok] at h;refine ⟨0,?_⟩;rw [← h];refine (zet 0 m k p).trans ?_;unfold ET IH;cases EX m with
  | false=>rfl
  | true=>
   cases h0:decide (k < 0) with
   | true=>rw [AL (show ¬ 0≤k by have:=A1 h0; omega)]; rfl
   | false=>
    rw [AD (show 0≤k by have:=BH h0; omega)];cases h1:decide (k≥m.c) with
    | true=>rw [AL (show ¬ k < m.c by have:=A1 h1; omega)]; rfl
    | false=>rw [AD (show k < m.c by have:=BH h1; omega)]; rfl
 ·simp [R.get] at h
abbrev zjW (m:Md) (q:Qy) (p:Pt) (own i:Int):St:=
 ⟨[(4,(.ptr 4 0 0)),(5,(.ptr 5 0 0)),(6,(.ptr 6 0 0)),(8,(.bool false)),(9,(.int .i64 own)),(36,(.int .i64 (Md.c m))),(37,(.int .i64 i))],[(4,(some (.box (Md.cs m)))),(5,(some (.box (Qy.cs q)))),(6,(some (.box (Pt.cs p))))]⟩
def d7 (m:Md) (q:Qy) (p:Pt) (own:Int):Nat→Nat→Bool
 | 0,_=>false
 | d+1,i=>(!((i:Int)==q.c)&&decide (ET m (i:Int) p≥own))||d7 m q p own d (i+1)
theorem vV (m:Md) (q:Qy) (p:Pt) (own:Int):∀ d i,d7 m q p own d i=(List.range' i d).any fun c=>!((c:Int)==q.c)&&decide (ET m (c:Int) p≥own)
 | 0,_=>rfl
 | d+1,i=>by rw [d7,vV m q p own d (i+1),List.range'_succ,List.any_cons]
theorem wV (N:Nat) (m:Md) (q:Qy) (p:Pt) (own:Int) (hc:0≤m.c∧m.c≤3):∀ (d i n:Nat),((i+d:Nat):Int)=m.c→d < n →
  DY (LW N) (DK OC [1,1,1,0,1,0,1,1,1,0,0,1,0,0]) ⟨[4,5,6,8,9,36,37],[4,5,6],[]⟩ n (zjW m q p own (i:Int)) (DQ 1 (DS (LW N) (DK OC [1,1,1,0,1,0,1,1,1,0,1]) (DQ 0 (DS (LW N) (DK OC [1,1,1,1]) (DT (LW N) none [(CE 8)] [[.bool]]))))) =
   some (.bool (d7 m q p own d i),[])
 | d,i,0,_,h=>absurd h (by omega)
 | 0,i,n+1,hd,_=>by
  rw [D5,Nk,AL (show ¬ (i:Int) < m.c by omega),DJ];exact Zn N m q p _ _ _ _
 | d+1,i,n+1,hd,hn=>by
  have ei:AA AB ((i:Int)+1)=((i+1:Nat):Int):=HD (by omega);rw [D5,Nk,ei,AD (show (i:Int) < m.c by omega),DI,d7];have ih:=wV N m q p own hc d (i+1) n (by omega) (by omega);have en:((i:Int) != q.c)=!((i:Int)==q.c):=rfl;rw [en];cases ((i:Int)==q.c) with
  | true=>exact ih
  | false=>
   rw [A8,DI,A6];cases decide (ET m (i:Int) p≥own) with
   | true=>exact Zo N m q p _ _ _ _
   | false=>exact ih
theorem X7 {m:Md} {q:Qy} (h:E8 m q=true):EX m=true∧(0≤q.c∧q.c < m.c)∧(0≤q.bu∧q.bu≤65536)∧QL q.bx m.d=true∧RL m q=true:=by
 unfold E8 at h;simp only [AH,AQ] at h;exact ⟨h.1,⟨h.2.1,h.2.2.1⟩,⟨h.2.2.2.1,h.2.2.2.2.1⟩,h.2.2.2.2.2.1,h.2.2.2.2.2.2⟩
theorem kF {m:Md} {q:Qy} (h:RL m q=true):(q.k=1∧q.lo≤q.hi∧q.ft=0∧q.fl=false)∨(q.k=2∧2≤m.c∧q.lo=0∧q.hi=0∧q.ft=0∧q.fl=false)∨(q.k=3∧(0≤q.ft∧q.ft < m.d)∧q.lo=0∧q.hi=0):=by
 unfold RL at h;cases h1:(q.k==1) with
 | true=>
  rw [h1,DI] at h;simp only [AH,AQ,B8,B4] at h;exact .inl ⟨B8.1 h1,h⟩
 | false=>
  rw [h1,DJ] at h;cases h2:(q.k==2) with
  | true=>
   rw [h2,DI] at h;simp only [AH,AQ,B8,B4,ge_iff_le] at h;exact .inr (.inl ⟨B8.1 h2,h⟩)
  | false=>
   rw [h2,DJ] at h;cases h3:(q.k==3) with
   | true=>
    rw [h3,DI] at h;simp only [AH,AQ,B8,ge_iff_le] at h;exact .inr (.inr ⟨B8.1 h3,⟨h.1,h.2.1⟩,h.2.2⟩)
   | false=>rw [h3,DJ] at h; cases h
theorem Kw:DX PR B0 70 WT:=by
 refine D6 [(115,c8),(65,MQ),(116,dK),(114,WX)] [(9,⟨[4,5,6,8,9,36,37],[4,5,6],[]⟩)] WT [[.bool]] Tryz.func70 zbU ⟨zia,aO,zik,La,trivial⟩ ?_;intro vs r hwf h;unfold WT at h;split at h
 ·rename_i m q p t;replace h:=KE h;obtain ⟨m,rfl,h⟩:=h;replace h:=KS h;obtain ⟨q,rfl,h⟩:=h;replace h:=YR h;obtain ⟨p,rfl,h⟩:=h;rw [R.get_ok] at h;refine ⟨10,?_⟩;rw [← h];refine (zeH 10 m q p t).trans ?_;unfold HJ;cases hr:E8 m q with
  | false=>rfl
  | true=>
   obtain ⟨hm,_,_,_,hk⟩:=X7 hr;have hmp:=MB hm;rw [A2,DJ,A6];cases h1:(q.k==1) with
   | true=>rfl
   | false=>
    rw [DJ,DJ];cases h2:(q.k==2) with
    | true=>
     rw [DI,DI];refine (wV 10 m q p _ (by omega) m.c.toNat 0 10 (by omega) (by omega)).trans ?_;rw [vV,← List.range_eq_range'];rfl
    | false=>
     rw [DJ,DJ];rcases kF hk with ⟨e,_⟩ | ⟨e,_⟩ | ⟨_,⟨f0,fd⟩,_⟩
     ·rw [e] at h1; cases h1
     ·rw [e] at h2; cases h2
     ·have step:∀ x:Int,cond (decide (x≥t)) (some (V.bool false,[])) (cond q.fl (some (V.bool (decide (ET m q.c (JJ q p t) > ET m q.c p)),[])) (some (V.bool (decide (ET m q.c (JJ q p t) < ET m q.c p)),[]))) =
        some (V.bool (cond (decide (x≥t)) false (cond q.fl (decide (ET m q.c (JJ q p t) > ET m q.c p)) (decide (ET m q.c (JJ q p t) < ET m q.c p)))),([]:List (List V))):=fun x=>by
       cases decide (x≥t) with
       | true=>rfl
       | false=>cases q.fl <;> rfl
      obtain e | e | e | e:q.ft=0∨q.ft=1∨q.ft=2∨q.ft=3:=by omega
      all_goals
       rw [e];exact step _
 ·simp [R.get] at h
open Go Go.Proofs Go.RowKit Go.Sort
theorem pN (x:Int):∀ l,(XM x l).Perm (x :: l)
 | []=>vbL _
 | y :: r=>by
  rw [XM];cases decide (x≤y) with
  | true=>exact vbL _
  | false=>exact ((pN x r).cons y).trans (List.Perm.swap x y r)
theorem TR:∀ l,(K4 l).Perm l
 | []=>vbL _
 | x :: r=>(pN x (K4 r)).trans ((TR r).cons x)
theorem Cr (x:Int):∀ {l:List Int},l.Pairwise (·≤·)→(XM x l).Pairwise (·≤·)
 | [],_=>by simp [XM]
 | y :: r,h=>by
  rw [XM];cases hd:decide (x≤y) with
  | true=>
   have hd:=A1 hd;rw [DI];rw [vbF] at h ⊢;refine ⟨fun z hz=>?_,by rw [vbF]; exact h⟩;rcases AO.1 hz with rfl | hz
   ·exact hd
   ·exact Int.le_trans hd (h.1 z hz)
  | false=>
   have hd:=BH hd;rw [DJ];rw [vbF] at h ⊢;refine ⟨fun z hz=>?_,Cr x h.2⟩;rcases AO.1 ((pN x r).mem_iff.1 hz) with rfl | hz
   ·omega
   ·exact h.1 z hz
theorem Ll:∀ l,(K4 l).Pairwise (·≤·)
 | []=>List.Pairwise.nil
 | x :: r=>Cr x (Ll r)
theorem zdf (l:List Int):(l.mergeSort fun x y=>decide (x≤y))=K4 l:=by
 refine List.Perm.eq_of_pairwise (le:=(·≤·)) (fun a b _ _ h1 h2=>Int.le_antisymm h1 h2) ?_ (Ll l) ((List.mergeSort_perm l _).trans (TR l).symm)
 have:=List.pairwise_mergeSort (le:=fun (x y:Int)=>decide (x≤y)) (fun a b c h1 h2=>AD (Int.le_trans (A1 h1) (A1 h2))) (fun a b=>by
  rcases Int.le_total a b with h | h
  ·rw [AD h]; rfl
  ·rw [AD h,Bool.or_true]) l
 exact this.imp fun h=>by simpa using h
theorem zX (x:Int):∀ (l:List Int) (p:Int),MV p (l++[x])=MV p l++cond ((l.getLast?.getD p)==x) [] [x]
 | [],p=>by
  show cond (x==p) (MV x []) (x :: MV x [])=_;rw [show ((([]:List Int).getLast?.getD p)==x)=(x==p) by show (p==x)=(x==p); rw [va1,B8,B8]; exact eq_comm];cases (x==p) <;> rfl
 | y :: r,p=>by
  rw [CT,MV,MV,zX x r y];have e:((y :: r).getLast?.getD p)=r.getLast?.getD y:=by
   cases r with
   | nil=>rfl
   | cons z r=>rw [List.getLast?_cons_cons,List.getLast?_eq_some_getLast (List.cons_ne_nil z r)]; rfl
  rw [e];cases (y==p) <;> rfl
theorem We (x:Int) (l:List Int):KH (l++[x])=KH l++cond (l.getLast?==some x) [] [x]:=by
 cases l with
 | nil=>rfl
 | cons y r=>
  rw [CT,KH,KH,zX,CT];congr 2
  have:((y :: r).getLast?==some x)=(r.getLast?.getD y==x):=by
   cases r with
   | nil=>show (some y==some x)=(y==x); rw [va1]; simp
   | cons z r=>rw [List.getLast?_cons_cons,List.getLast?_eq_some_getLast (List.cons_ne_nil z r)]; rw [va1]; simp
  rw [this]
theorem Wf (l:List Int):Lib.compact l=KH l:=by
 have key:∀ m,m≤l.length→vbt l.toArray m=KH (l.take m):=by
  intro m
  induction m with
  | zero=>intro _; rfl
  | succ m ih=>
   intro hm;have e1:vbt l.toArray (m+1)=vbt l.toArray m++cond (Lib.keeps l.toArray m) [l.toArray[m]!] []:=by
    unfold vbt;rw [List.range_succ,List.filter_append,List.map_append];congr 1;cases hk:Lib.keeps l.toArray m <;> simp [hk]
   have hml:m < l.length:=by omega
   have e2:l.toArray[m]! = l[m]:=by simp [hml]
   rw [e1,ih (by omega),List.take_succ_eq_append_getElem hml,We,e2];congr 1;cases m with
   | zero=>simp [Lib.keeps]
   | succ k=>
    have hk:k < l.length:=by omega
    have e3:(l.take (k+1)).getLast?=some l[k]:=by rw [List.getLast?_take]; simp [hk]
    rw [e3];have e4:l.toArray[k]! = l[k]:=by simp [hk]
    cases hq:Lib.keeps l.toArray (k+1) with
    | true=>
     have:¬ (l[k+1]=l[k]):=fun he=>by
      rw [Lib.keeps_neg (Nat.succ_pos k) (by show l.toArray[k+1]! = l.toArray[k]!; rw [e2,e4]; exact he)] at hq;cases hq
     rw [DI];rw [show (some l[k]==some l[k+1])=false by simp; exact fun h=>this h.symm];rfl
    | false=>
     have:l[k+1]=l[k]:=by
      by_cases he:l[k+1]=l[k]
      ·exact he
      ·rw [Lib.keeps_pos (by show l.toArray[k+1]!≠l.toArray[k]!; rw [e2,e4]; exact he)] at hq;cases hq
     rw [DJ,this];rw [show (some l[k]==some l[k])=true by simp];rfl
 unfold Lib.compact;rw [key _ (AZ _),BO]
theorem zW:∀ (l:List Int) (p:Int),(MV p l).length≤l.length
 | [],_=>AZ _
 | x :: r,p=>by
  have:=zW r x
  rw [MV];cases (x==p)
  ·rw [DJ,AM,AM]; omega
  ·rw [DI,AM]; omega
theorem jE (l:List Int):(KH l).length≤l.length:=by
 cases l with
 | nil=>exact AZ _
 | cons x r=>rw [KH,AM,AM]; have:=zW r x; omega
theorem oC {p x:Int}:∀ {l:List Int},x∈MV p l→x∈l
 | [],h=>by cases h
 | y :: r,h=>by
  rw [MV] at h;cases hb:(y==p)
  ·rw [hb,DJ] at h;rcases AO.1 h with h | h
   ·exact h ▸ AN ..
   ·exact AY _ (oC h)
  ·rw [hb,DI] at h;exact AY _ (oC h)
theorem zY {x:Int} {l:List Int} (h:x∈KH l):x∈l:=by
 cases l with
 | nil=>cases h
 | cons y r=>
  rcases AO.1 h with h | h
  ·exact h ▸ AN ..
  ·exact AY _ (oC h)
theorem QE (l:List Int):(iZ l).length=l.length:=BE ..
theorem pG (l:List Int):(iZ l).map IV.toInt=l:=by
 unfold iZ;rw [vaY];exact List.map_id l
theorem nY (l:List Int):MU (iZ l)=l.map (Value.int .i64):=by
 unfold MU iZ;rw [vaY];rfl
theorem Vw (l:LI):MU l=(l.map IV.toInt).map (Value.int .i64):=by
 unfold MU;rw [vaY];rfl
abbrev JS:Int→Value:=Value.int .i64
theorem k9 {w:World} {e g n cap:Nat} {zs:List Int} (h:w.ownsRow 0 e 1 (.slice (some ⟨g,0,none⟩) n cap) zs.length (zs.map JS)):n=zs.length∧n≤cap∧cap≤maxLen∧g < w.heap.size∧Holds JS w g 0 zs.toArray:=by
 rcases h.2 with ⟨h1,_⟩ | ⟨g',cap',cur,h1,_,h2,h3,h4,h5,h6⟩
 ·cases h1
 ·simp only [CH,AC,DH,B7] at h1;obtain ⟨rfl,rfl,rfl⟩:=h1;refine ⟨rfl,h3,h4,(DF.1 h2).1,fun j hj=>?_⟩;have hj':j < zs.length:=by simpa using hj
  rw [BI];constructor
  ·have hc:cur[j]?=some (JS zs[j]):=by
    have:(cur.toList.take (zs.length*1))[j]?=some (JS zs[j]):=by rw [h6]; simp [hj']
    rw [CL,BP (by omega)] at this;simpa using this
   simp only [vaL,h2];simp [hc,hj']
  ·simp [World.frozen?,h2]
theorem zcs {w:World} {g:Nat} {cur:Array Value} {e:TypeId} {fr:Nat × Nat} (h:w.heap[g]?=some (.cells cur e fr)) (q:Nat) (os:Array Obj) (zs:List Int) :
  (grow (putRow JS (vbH w q) g 0 zs.toArray) os).heap[g]?=some (.cells (putCells JS 0 zs.toArray cur) e fr):=by
 have hg:g < w.heap.size:=(DF.1 h).1;have h0:(putRow JS (vbH w q) g 0 zs.toArray).heap[g]?=some (.cells (putCells JS 0 zs.toArray cur) e fr):=by
  unfold putRow mapBlock;simp [va3,onCells,h]
 unfold grow;simp only;rw [Array.getElem?_append_left (by rw [size_putRow]; exact hg)];exact h0
theorem zgq {cur:Array Value} {zs:List Int} (h:zs.length≤cur.size):(putCells JS 0 zs.toArray cur).size=cur.size∧(putCells JS 0 zs.toArray cur).toList.take zs.length=zs.map JS:=by
 refine ⟨by simp [putCells],?_⟩;apply List.ext_getElem?;intro k;rw [CL];by_cases hk:k < zs.length
 ·rw [BP hk];have hc:k < cur.size:=by omega
  simp [putCells,hk,hc]
 ·rw [BD hk];simp [hk]
theorem rL {w:World} {e g n cap:Nat} {zs:List Int} (h:w.ownsRow 0 e 1 (.slice (some ⟨g,0,none⟩) n cap) zs.length (zs.map JS)) (q:Nat) (os:Array Obj) (ys rest:List Int) (hl:(ys++rest).length=zs.length) :
  w.grownBy (grow (putRow JS (vbH w q) g 0 (ys++rest).toArray) os) (some g) ∧
   (grow (putRow JS (vbH w q) g 0 (ys++rest).toArray) os).ownsRow 0 e 1 (.slice (some ⟨g,0,none⟩) ys.length cap) ys.length (ys.map JS):=by
 have hh:=k9 h;rcases h.2 with ⟨h1,_⟩ | ⟨g',cap',cur,h1,_,h2,h3,h4,h5,h6⟩
 ·cases h1
 ·simp only [CH,AC,DH,B7] at h1;obtain ⟨rfl,rfl,rfl⟩:=h1;rw [AT] at hl;have hcur:(ys++rest).length≤cur.size:=by rw [AT]; omega
  obtain ⟨p1,p2⟩:=zgq (zs:=ys++rest) hcur;refine ⟨⟨rfl,rfl,rfl,?_,fun k hk hne=>?_⟩,by simp,.inr ⟨g,cap,_,rfl,B5 _,zcs h2 q os _,by omega,h4,by rw [p1,h5],?_⟩⟩
  ·show w.heap.size≤((putRow JS (vbH w q) g 0 (ys++rest).toArray).heap++os).size;rw [Array.size_append,size_putRow];exact Nat.le_add_right _ _
  ·have hne':g≠k:=fun e=>hne (by rw [e])
   unfold grow;simp only;rw [Array.getElem?_append_left (by rw [size_putRow]; exact hk)];unfold putRow mapBlock;simp [va3,hne']
  ·rw [Nat.mul_one]
   have:=congrArg (AK ys.length) p2
   rw [List.take_take,vay (by rw [AT]; omega),List.map_append,List.take_left' (by simp)] at this;exact this
theorem Ce (w:World) (r:Option Nat):w.grownBy w r:=⟨rfl,rfl,rfl,AZ _,fun _ _ _=>rfl⟩
theorem sV {l:LI} (h:∀ x∈l,AB.min≤x.toInt∧x.toInt≤AB.max) {ys:List Int} (hs:∀ y∈ys,y∈l.map IV.toInt):∀ x∈iZ ys,AB.min≤x.toInt∧x.toInt≤AB.max:=by
 intro x hx;obtain ⟨y,hy,rfl⟩:=CJ.1 hx;obtain ⟨z,hz,hzy⟩:=CJ.1 (hs y hy);show AB.min≤y∧y≤AB.max;rw [← hzy];exact h z hz
theorem rJ {w:World} {e:Nat} {v:Value} {l:LI} (h:w.ownsRow 0 e 1 v l.length (MU l)):(v = .slice none 0 0∧l=[])∨∃ g cap,v = .slice (some ⟨g,0,none⟩) (l.map IV.toInt).length cap∧w.ownsRow 0 e 1 (.slice (some ⟨g,0,none⟩) (l.map IV.toInt).length cap) (l.map IV.toInt).length ((l.map IV.toInt).map JS):=by
 rcases h.2 with ⟨h1,h2⟩ | ⟨g,cap,cur,h1,_⟩
 ·exact .inl ⟨h1,List.length_eq_zero_iff.1 h2⟩
 ·rw [h1] at h;refine .inr ⟨g,cap,by rw [h1,BE],?_⟩;rw [BE,← Vw];exact h
theorem zh8:SJ PR 201 j6:=by
 intro w v l l' rs ys hown hrng hlen hr hg;unfold j6 at hg;simp only at hg;split at hg
 ·simp only [AC] at hg;subst hg;obtain rfl:ys=[]:=by
   cases ys with
   | nil=>rfl
   | cons y ys=>simp [VL] at hr
  refine Does.of_calls Tryz.func201 (by kernel_rfl) (by kernel_rfl) ?_;have hmem:∀ y∈K4 (l.map IV.toInt),y∈l.map IV.toInt:=fun y hy=>(TR _).mem_iff.1 hy
  rcases rJ hown with ⟨rfl,rfl⟩ | ⟨g,cap,rfl,ho⟩
  ·refine (Tryz.slices_Sort_int_none none 0 w).mono ?_;rintro e w' ⟨rfl,rfl⟩;exact ⟨_,rfl,Ce _ _,fun x hx=>(by cases hx),fun h=>(by cases h),fun _=>hown⟩
  ·obtain ⟨_,_,hcm,hgs,hH⟩:=k9 ho;refine (Tryz.slices_Sort_int g 0 cap (l.map IV.toInt) w hH hgs (by rw [BE]; unfold strMax at hlen; omega)).mono ?_;rintro e w' ⟨rfl,q,os,rfl⟩;rw [zdf];have hl:(K4 (l.map IV.toInt)++[]).length=(l.map IV.toInt).length:=by rw [DB]; exact (TR _).length_eq
   have hp:=rL ho q os (K4 (l.map IV.toInt)) [] hl;rw [DB] at hp hl;refine ⟨_,rfl,hp.1,sV hrng hmem,fun h=>(by cases h),fun _=>?_⟩;rw [nY,QE,← hl];exact hp.2
 ·cases hg
theorem zh6:SJ PR 202 j4:=by
 intro w v l l' rs ys hown hrng hlen hr hg;unfold j4 at hg;simp only at hg;split at hg
 ·simp only [AC] at hg;subst hg;obtain rfl:ys=[]:=by
   cases ys with
   | nil=>rfl
   | cons y ys=>simp [VL] at hr
  refine Does.of_calls Tryz.func202 (by kernel_rfl) (by kernel_rfl) ?_;rcases rJ hown with ⟨rfl,rfl⟩ | ⟨g,cap,rfl,ho⟩
  ·refine (Tryz.slices_Compact_int_empty none 0 w).mono ?_;rintro e w' ⟨rfl,rfl⟩;exact ⟨_,rfl,Ce _ _,fun x hx=>(by cases hx),fun _=>⟨hown,fun b hb=>(by simp [CC] at hb)⟩,fun h=>by cases h⟩
  ·obtain ⟨_,hnc,hcm,hgs,hH⟩:=k9 ho;refine (Tryz.slices_Compact_int g 0 cap (l.map IV.toInt) w hH (by rw [BE]; unfold strMax at hlen; omega) hnc).mono ?_;rintro e w' ⟨rfl,q,rfl⟩;rw [Wf];have hlc:=jE (l.map IV.toInt);have hp:=rL ho q #[] (KH (l.map IV.toInt)) (BN ((l.map IV.toInt).length - (KH (l.map IV.toInt)).length) 0) (by rw [AT,List.length_replicate]; omega);rw [grow_empty] at hp;refine ⟨_,rfl,hp.1,sV hrng fun y hy=>zY hy,fun _=>⟨?_,fun b hb=>.inl hb⟩,fun h=>by cases h⟩;rw [nY,QE];exact hp.2
 ·cases hg
set_option maxHeartbeats 1000000 in
theorem Ai (a b x:Int) (B:Nat) (W:World) (ha:W.cell? ⟨B,0,none⟩=some (.int .i64 a)) (hb:W.cell? ⟨B,1,none⟩=some (.int .i64 b)) :
  FnGives Tryz.prog 169 #[.pointer (some ⟨B,0,none⟩)] #[.int .i64 x] (.bool (decide (x < a)||decide (x≥b))) W:=by
 show Calls Tryz.prog 169 #[.int .i64 x,.pointer (some ⟨B,0,none⟩)] W _
 go_enter Tryz.func169,Tryz.ntmps169
 go_wp2
 all_goals (go_ret; exact ⟨by simp_all,0,rfl⟩)
set_option maxHeartbeats 1000000 in
theorem Xc (fv:Value) (w:World):Calls Tryz.prog 167 #[.slice none 0 0,fv] w fun e w'=>e = .returned (.slice none 0 0)∧∃ q,w'=w.drewN q:=by
 go_enter Tryz.func167,Tryz.ntmps167
 go_wp2_with (go_at_call 200; refine (Tryz.slices_IndexFunc_empty (α:=Int) none 0 fv _).mono ?_; rintro e w' ⟨rfl,rfl⟩)
 go_ret
 exact ⟨rfl,0,rfl⟩
theorem zf9 {w:World} {v:Value} {f:Nat} {a b:Int} {ys:List Value} (h:VL w v [.clo f [.bor [.int .i64 a,.int .i64 b]]] ys):∃ B,ys=[.func (.func f) #[] #[.pointer (some ⟨B,0,none⟩)]]∧B < w.heap.size∧w.cell? ⟨B,0,none⟩=some (.int .i64 a)∧w.cell? ⟨B,1,none⟩=some (.int .i64 b)∧v.ownBlock≠some B:=by
 cases ys with
 | nil=>simp [VL] at h
 | cons y r=>
  cases r with
  | cons _ _=>simp [VL] at h
  | nil=>
   simp only [VL] at h;obtain ⟨B,c,T,rfl,hh,hc,hne⟩:=h;refine ⟨B,rfl,(DF.1 hh).1,?_,?_,hne⟩
   ·simp only [vaL,hh];rw [← vau,hc];rfl
   ·simp only [vaL,hh];rw [← vau,hc];rfl
theorem zh7:SJ PR 167 j5:=by
 intro w v l l' rs ys hown hrng hlen hr hg;unfold j5 at hg;simp only at hg;split at hg
 ·rename_i f a b;cases hf:BQ f 169 with
  | false=>rw [hf,DJ] at hg; cases hg
  | true=>
   rw [hf,DI,AC] at hg;subst hg;obtain rfl:=F6.1 hf;obtain ⟨B,rfl,hBs,ha,hb,hne⟩:=zf9 hr;have pe:LF a b (l.map IV.toInt)=(l.map IV.toInt).filter fun x=>!(decide (x < a)||decide (x≥b)):=rfl
   have eg:∀ args w,(callFunc 169 args).run Tryz.prog w = .ok (.enter 169 args) w:=enters_of Tryz.func169 (by kernel_rfl) rfl;have hp:PredAt Tryz.prog 169 #[.pointer (some ⟨B,0,none⟩)] JS (fun x=>decide (x < a)||decide (x≥b)) w:=
    fun W x hbw=>Ai a b x B W ((hbw.cell (p:=⟨B,0,none⟩) hBs).trans ha) ((hbw.cell (p:=⟨B,1,none⟩) hBs).trans hb)
   rcases rJ hown with ⟨rfl,rfl⟩ | ⟨g,cap,rfl,ho⟩
   ·refine Does.of_calls Tryz.func167 (by kernel_rfl) (by kernel_rfl) ((Xc _ w).mono ?_);rintro e w' ⟨rfl,q,rfl⟩;exact ⟨_,rfl,⟨rfl,rfl,rfl,AZ _,fun _ _ _=>rfl⟩,fun x hx=>(by cases hx),fun _=>⟨World.ownsRow_nil _ 0 _ _,fun b hb=>(by simp [CC] at hb)⟩,fun h=>by cases h⟩
   ·obtain ⟨_,hnc,hcm,hgs,hH⟩:=k9 ho;have hBg:B≠g:=fun e=>hne (by rw [e]; rfl)
    have hpo:PredOver Tryz.prog 169 #[.pointer (some ⟨B,0,none⟩)] JS (fun x=>decide (x < a)||decide (x≥b)) g 0 (l.map IV.toInt).toArray.size w:=
     fun n os dk x _=>by
      have hcell:∀ o u,w.cell? ⟨B,o,none⟩=some u→(sortWorld JS w g 0 n dk os).cell? ⟨B,o,none⟩=some u:=fun o u hu=>by
       unfold sortWorld;rw [cell?_grow _ _ _ (by show B < (putRow _ _ _ _ _).heap.size; rw [size_putRow]; exact hBs),cell?_putRow_other _ _ g 0 _ _ (Or.inl hBg)];exact hu
      exact Ai a b x B _ (hcell 0 _ ha) (hcell 1 _ hb)
    refine Does.of_calls Tryz.func167 (by kernel_rfl) (by kernel_rfl) ?_;have hcall:=Tryz.slices_DeleteFunc JS (fun _=>rfl) (fun x=>decide (x < a)||decide (x≥b)) 169 #[.pointer (some ⟨B,0,none⟩)] eg 0 Tryz.zeroValue3 g 0 cap (l.map IV.toInt).toArray w hp hpo hH (by simp; unfold strMax at hlen; omega) (by simp; rw [BE] at hnc; exact hnc);have es:(l.map IV.toInt).toArray.size=(l.map IV.toInt).length:=by simp
    rw [es] at hcall;refine hcall.mono ?_;rintro e w' ⟨rfl,q,rfl⟩;have ef:(l.map IV.toInt).toArray.toList.filter (fun x=>!(decide (x < a)||decide (x≥b)))=LF a b (l.map IV.toInt):=rfl;rw [ef];have hlc:(LF a b (l.map IV.toInt)).length≤(l.map IV.toInt).length:=List.length_filter_le ..
    have hp2:=rL ho q #[] (LF a b (l.map IV.toInt)) (BN ((l.map IV.toInt).length - (LF a b (l.map IV.toInt)).length) 0) (by rw [AT,List.length_replicate]; omega);rw [grow_empty] at hp2;refine ⟨_,rfl,hp2.1,sV hrng fun y hy=>(List.mem_filter.1 hy).1,fun _=>⟨?_,fun b hb=>.inl hb⟩,fun h=>by cases h⟩;rw [nY,QE];exact hp2.2
 ·cases hg
open Go Go.Proofs
set_option maxRecDepth 100000
theorem Fd {dim n:Int}:∀ {l:LI} {i k:Nat} (hk:k < l.length),KM dim n i l=true→GJ (l[k]).toInt=true∧OG dim n (i+k) (DL (l[k]).toInt)=true
 | [],i,k,hk,_=>absurd hk (Nat.not_lt_zero k)
 | w :: r,i,0,hk,h=>by
  rw [KM] at h;simp only [AH] at h;exact h.1
 | w :: r,i,k+1,hk,h=>by
  rw [KM,AH] at h
  have:=Fd (k:=k) (by simpa using hk) h.2
  rw [show i+1+k=i+(k+1) by omega] at this;exact this
theorem mN {l:LI} {dim:Int} (h:G1 l dim=true):(1≤l.length∧l.length≤31)∧(∀ k (hk:k < l.length),GJ (l[k]).toInt=true∧OG dim (ic l.length) k (DL (l[k]).toInt)=true)∧Z7 l=true:=by
 unfold G1 at h;simp only [AH] at h;refine ⟨⟨AP h.1.1,AP h.1.2⟩,fun k hk=>?_,h.2.2⟩
 have:=Fd hk h.2.1
 rwa [BI] at this
theorem zaq {dim n:Int} {i:Nat} {x:Nd} (h:OG dim n i x=true) (hl:x.lf=false):x.f < dim∧x.l≠x.r∧((i:Int) < x.l∧(i:Int) < x.r)∧(x.l < n∧x.r < n):=by
 unfold OG at h;rw [hl,DJ] at h;simp only [AH,B4,BW,A5] at h;obtain ⟨h1,h2,h3,h4⟩:=h;exact ⟨by omega,h2,by omega,by omega⟩
theorem zjp {l:LI} {d e:Int} (h:G1 l d=true) (hde:d≤e):G1 l e=true:=by
 have key:∀ (l:LI) (n:Int) (i:Nat),KM d n i l=true→KM e n i l=true:=by
  intro l n
  induction l with
  | nil=>intro _ _; rfl
  | cons w r ih=>
   intro i h;rw [KM] at h ⊢;simp only [AH] at h ⊢;refine ⟨⟨h.1.1,?_⟩,ih _ h.2⟩;have h2:=h.1.2;unfold OG at h2 ⊢;cases hl:(DL w.toInt).lf with
   | true=>rfl
   | false=>
    rw [hl,DJ] at h2;rw [DJ];simp only [AH,B4,BW] at h2 ⊢;exact ⟨by omega,h2.2⟩
 unfold G1 at h ⊢;simp only [AH] at h ⊢;exact ⟨h.1,key _ _ _ h.2.1,h.2.2⟩
abbrev kpL:KP:=⟨[4,5,6,24,25,26],[20,500],[⟨(.tmp 6),500,275,true,MX⟩]⟩
abbrev Qf (l:LI) (i:Int) (own out:LI):St:=
 ⟨[(4,.zs),(5,(.row 20 0 l.length)),(6,(.row 500 0 out.length)),(24,(.list false [(.int .u64)] l)),(25,(.int .i64 (ic (AF l)))),(26,(.int .i64 i))],[(20,(some (.row true 36 true FB own))),(500,(some (.row true 275 true MX out)))]⟩
theorem kJ (N:Nat) (l:LI) (ht:G1 l 4=true):∀ (m i n:Nat) (own out:LI),i+m=l.length→m < n→own.length=l.length→out.length≤i →
  DY (Q9 N) (DK UY [1,1,1,1,1,0,1,0,0]) kpL n (Qf l (i:Int) own out) (DQ 0 (DS (Q9 N) (DK UY [1,1,1,1,1,1]) (DT (Q9 N) none [(CE 4)] [[(.list true MX)]]))) =
   some (.list true MX (OK (l.drop i) i own out),[])
 | m,i,0,_,_,_,h,_,_=>absurd h (by omega)
 | 0,i,n+1,own,out,hd,_,_,_=>by
  have hi:i=l.length:=by omega
  subst hi;rw [D5,Nb,I5 (AZ _),DJ,Ze,vaA,OK,B2,BO]
 | m+1,i,n+1,own,out,hd,hn,ho,hu=>by
  obtain ⟨⟨l1,l31⟩,hat,_⟩:=mN ht;have hi:i < l.length:=by omega
  have ei:AA AB ((i:Int)+1)=((i+1:Nat):Int):=HD (by omega);obtain ⟨hb,hf⟩:=hat i hi;have io:decide ((i:Int) < ic (l.length - 0))=true:=HA hi;rw [D5,Nb,ei,HA hi,DI,IL,B3,DI,H8 hi,io,B3,BF,BG hi,OK];simp only [BI];cases hl:(DL (l[i]).toInt).lf with
  | true=>
   rw [A2,DJ,DI,DI,A6];have e1:PG (DL (l[i]).toInt) i own=own:=by unfold PG; rw [hl,DI]
   rw [e1];cases (D7 (own.getD i default)).emp with
   | true=>exact kJ N l ht m (i+1) n own out (by omega) (by omega) ho (by omega)
   | false=>
    have ih:=kJ N l ht m (i+1) n own (out++[f8 (D7 (own.getD i default)) (DL (l[i]).toInt).v]) (by omega) (by omega) ho (by rw [AT]; simp; omega);unfold Qf at ih;rw [AT,C3] at ih;rw [A8,DI,DI,AD (show (out.length+1)*88≤EE by unfold EE; omega),DI,BO];exact ih
  | false=>
   obtain ⟨f4,_,_,⟨ln,rn⟩⟩:=zaq hf hl;obtain ⟨⟨f0,_⟩,⟨a1,_⟩,⟨b1,_⟩,_⟩:=qV hb hl;have hp:H9 (DL (l[i]).toInt).f=true:=by unfold H9; rw [AD f0,AD (by omega)]; rfl
   have el:(decide (0≤(DL (l[i]).toInt).l)&&decide ((DL (l[i]).toInt).l < ic (l.length - 0)))=true:=by rw [AD (by omega),AD (show (DL (l[i]).toInt).l < ic (l.length - 0) from ln)]; rfl
   have er:(decide (0≤(DL (l[i]).toInt).r)&&decide ((DL (l[i]).toInt).r < ic (l.length - 0)))=true:=by rw [AD (by omega),AD (show (DL (l[i]).toInt).r < ic (l.length - 0) from rn)]; rfl
   rw [A8,DI,DI,hp,DI,el,DI,er,DI,BM,DJ];have e1:PG (DL (l[i]).toInt) i own=(own.set (DL (l[i]).toInt).l.toNat ((D7 (own.getD i default)).cutL (DL (l[i]).toInt).f (DL (l[i]).toInt).a).I).set (DL (l[i]).toInt).r.toNat ((D7 (own.getD i default)).cutH (DL (l[i]).toInt).f (DL (l[i]).toInt).a).I:=by unfold PG; rw [hl,DJ]
   rw [e1];exact kJ N l ht m (i+1) n _ out (by omega) (by omega) (by rw [vaF,vaF]; exact ho) (by omega)
theorem zh9:DX PR B0 218 c7:=by
 refine D6 [(111,P0),(112,K9),(55,MP),(96,W3)] [(7,⟨[4,5,6,24,25,26],[20,500],[⟨.tmp 6,500,275,true,[.z,.z,.z,.z,.z,.z,.z,.z,.z,.z,.z]⟩]⟩)] c7 [[.list true [.z,.z,.z,.z,.z,.z,.z,.z,.z,.z,.z]]] Tryz.func218 zbF ⟨lU,YA,aN,Lk,trivial⟩ ?_;intro vs r hwf h;unfold c7 at h;split at h
 ·rename_i l b;replace h:=J0 h;obtain ⟨b,rfl,h⟩:=h;rw [R.get_ok] at h;refine ⟨40,?_⟩;rw [← h];refine (zes 40 l b).trans ?_;unfold IX;cases ht:G1 l 4 with
  | false=>rfl
  | true=>
   rw [A2,DJ,A6];cases b.emp with
   | true=>rfl
   | false=>
    obtain ⟨⟨l1,l31⟩,_,_⟩:=mN ht;have run:=kJ 40 l ht l.length 0 40 ((BN l.length ZB.I).set 0 b.I) [] (by omega) (by omega) (by simp) (B5 _);rw [DJ,AD (show (0:Int)≤ic l.length by simp only [ic]; omega),AD (show ic l.length=ic l.length from rfl),AD (show ic l.length*ic 80≤ic EE by unfold EE; simp only [ic]; omega),B3,B3,DI,
     AD (show 0≤0 from AZ 0),AD (show (0:Int) < ic (AE (ic l.length) - 0) by simp only [ic]; omega),B3,DI]
    exact run
 ·simp [R.get] at h
abbrev zj1 (l:LI) (lo hi i:Int):St:=⟨[(4,(.int .i64 0)),(5,(.int .i64 0)),(6,(.bool false)),(8,(.int .i64 lo)),(9,(.int .i64 hi)),(26,(.list true MX l)),(27,(.int .i64 (ic (AF l)))),(28,(.int .i64 i))],[]⟩
theorem wU (N:Nat) (l:LI) (hl:l.length≤strMax):∀ (m i n:Nat) (lo hi:Int),i+m=l.length→m < n →
  DY (Q6 N) (DK UU [1,1,1,1,0,1,0,0]) ⟨[4,5,6,8,9,26,27,28],[],[]⟩ n (zj1 l lo hi (i:Int)) (DQ 0 (DS (Q6 N) (DK UU [1,1,1,1,1]) (DT (Q6 N) none [(CE 4),(CE 5),(CE 6)] [[.z],[.z],[.bool]]))) =
   some (.tup [.int .i64 (PI (l.drop i) lo),.int .i64 (PH (l.drop i) hi),.bool true],[])
 | m,i,0,_,_,_,h=>absurd h (by omega)
 | 0,i,n+1,lo,hi,hd,_=>by
  have hi:i=l.length:=by omega
  subst hi;rw [D5,Ml,I5 (AZ _),DJ,vaA];exact Yc N _ _ _ _ _ l _ _
 | m+1,i,n+1,lo,hi,hd,hn=>by
  have hi:i < l.length:=by omega
  have mx:strMax=140737488355327:=rfl;have ei:AA AB ((i:Int)+1)=((i+1:Nat):Int):=HD (by omega);rw [D5,Ml,ei,HA hi,DI,IL,B3,DI,H8 hi,BG hi,PI,PH];exact wU N l hl m (i+1) n _ _ (by omega) (by omega)
theorem Ec:∀ (l:LI) (i:Nat) (own out:LI),(OK l i own out).length≤out.length+l.length
 | [],_,_,out=>AZ _
 | w :: r,i,own,out=>by
  rw [OK]
  have:=Ec r (i+1) (PG (DL w.toInt) i own) (cond ((DL w.toInt).lf&&!(D7 (own.getD i default)).emp) (out++[f8 (D7 (own.getD i default)) (DL w.toInt).v]) out)
  refine C2 this ?_;cases ((DL w.toInt).lf&&!(D7 (own.getD i default)).emp) with
  | true=>rw [DI,AT,C3,AM]; omega
  | false=>rw [DJ,AM]; omega
theorem zcT (l:LI) (b:Bx):(IX l b).length≤31:=by
 unfold IX;cases ht:G1 l 4 with
 | false=>exact B5 _
 | true=>
  cases b.emp with
  | true=>exact B5 _
  | false=>
   have:=Ec l 0 ((BN l.length ZB.I).set 0 b.I) []
   have h2:=(mN ht).1.2;simp only [A7,BI] at this;exact C2 this h2
theorem zhx:DX PR B0 196 bV:=by
 refine D6 [(218,c7)] [(6,⟨[4,5,6,8,9,26,27,28],[],[]⟩)] bV [[.z],[.z],[.bool]] Tryz.func196 zaQ ⟨zh9,trivial⟩ ?_;intro vs r hwf h;unfold bV at h;split at h
 ·rename_i l b;replace h:=J0 h;obtain ⟨b,rfl,h⟩:=h;rw [R.get_ok] at h;refine ⟨40,?_⟩;rw [← h];refine (zdI 40 l b).trans ?_;have h31:=zcT l b;unfold IF IE YE gD gC;generalize IX l b=ps at h31 ⊢;cases ps with
  | nil=>rfl
  | cons x r=>
   have run:=wU 40 (x :: r) (C2 h31 (by decide)) (x :: r).length 0 40 (HR x) (HR x) (by omega) (by omega);have e0:(ic (x :: r).length==0)=false:=by
    simp only [ic,AM,A5];omega
   have e1:(decide (0≤0)&&decide (0 < ic (x :: r).length))=true:=by
    rw [AD (show 0≤0 from AZ 0),AD (show 0 < ic (x :: r).length by simp only [ic,AM]; omega)];rfl
   rw [e0,DJ,e1,DI,DI];exact run
 ·simp [R.get] at h
theorem zdg {l:LI}:∀ {a:Int},E5 a=true→(∀ x∈l,E5 (HR x)=true)→E5 (PI l a)=true:=by
 induction l with
 | nil=>intro a h _; exact h
 | cons x r ih=>
  intro a h hx;rw [PI];refine ih ?_ fun y hy=>hx y (AY _ hy)
  have:=NP h
  have:=NP (hx x (AN ..))
  unfold E5;rw [AD (by omega),AD (by omega)];rfl
theorem zdc {l:LI}:∀ {a:Int},E5 a=true→(∀ x∈l,E5 (HR x)=true)→E5 (PH l a)=true:=by
 induction l with
 | nil=>intro a h _; exact h
 | cons x r ih=>
  intro a h hx;rw [PH];refine ih ?_ fun y hy=>hx y (AY _ hy)
  have:=NP h
  have:=NP (hx x (AN ..))
  unfold E5;rw [AD (by omega),AD (by omega)];rfl
theorem Eb:∀ (l:LI) (i:Nat) (own out:LI),(∀ x∈out,E5 (HR x)=true)→∀ x∈OK l i own out,E5 (HR x)=true
 | [],_,_,_,h=>h
 | w :: r,i,own,out,h=>by
  rw [OK];refine Eb r (i+1) _ _ ?_;cases ((DL w.toInt).lf&&!(D7 (own.getD i default)).emp) with
  | true=>
   intro x hx;rcases AX.1 hx with hx | hx
   ·exact h x hx
   ·obtain rfl:=BL.1 hx;exact Fc _
  | false=>exact h
theorem zcS (l:LI) (b:Bx):∀ x∈IX l b,E5 (HR x)=true:=by
 unfold IX;cases (G1 l 4&&!b.emp) with
 | true=>exact Eb _ _ _ _ (fun x hx=>by cases hx)
 | false=>intro x hx; cases hx
theorem mH (l:LI) (b:Bx):E5 (IF l b)=true∧E5 (IE l b)=true:=by
 unfold IF IE YE;have hf:=zcS l b;generalize IX l b=ps at hf ⊢;cases ps with
 | nil=>exact ⟨rfl,rfl⟩
 | cons x r=>exact ⟨zdg (hf x (AN ..)) hf,zdc (hf x (AN ..)) hf⟩
abbrev zj0 (ts:LI) (b:Bx) (k lo hi i:Int):St:=⟨[(1,(.int .i64 k)),(5,(.ptr 5 0 0)),(6,(.int .i64 0)),(7,(.int .i64 0)),(8,(.bool false)),(9,(.int .i64 lo)),(10,(.int .i64 hi)),(42,(.list true MY ts)),(43,(.int .i64 (ic (AF ts)))),(44,(.int .i64 i))],[(5,(some (.box (Bx.cs b))))]⟩
theorem uP (N:Nat) (ts:LI) (b:Bx) (k:Int) (hts:ts.length≤8):∀ (m i n:Nat) (lo hi:Int),i+m=ts.length→m < n→(-2147483648*(i+1)≤lo∧lo≤2147483648*(i+1))→(-2147483648*(i+1)≤hi∧hi≤2147483648*(i+1)) →
  DY (G2 N) (DK IS [1,1,1,0,1,0,0]) ⟨[1,5,6,7,8,9,10,42,43,44],[5],[]⟩ n (zj0 ts b k lo hi (i:Int)) (DQ 0 (DS (G2 N) (DK IS [1,1,1,1]) (DT (G2 N) none [(CE 6),(CE 7),(CE 8)] [[.z],[.z],[.bool]]))) =
   some (.tup [.int .i64 (I9 (fun l=>IF l b) k (ts.drop i) lo),.int .i64 (I9 (fun l=>IE l b) k (ts.drop i) hi),.bool true],[])
 | m,i,0,_,_,_,h,_,_=>absurd h (by omega)
 | 0,i,n+1,lo,hi,hd,_,_,_=>by
  have hlt:i=ts.length:=by omega
  subst hlt;rw [D5,Mk,I5 (AZ _),DJ,vaA];exact Yb N b _ _ _ _ _ _ _ _ _
 | m+1,i,n+1,lo,hi,hd,hn,h1,h2=>by
  have hlt:i < ts.length:=by omega
  have ei:AA AB ((i:Int)+1)=((i+1:Nat):Int):=HD (by omega);rw [D5,Mk,ei,HA hlt,DI,IL,B3,DI,H8 hlt,BG hlt,I9,I9];obtain ⟨q1,q2⟩:=mH (FI ts[i]) b;have q1:=NP q1;have q2:=NP q2;have en:((ts[i].cell 0).toInt != k)=!((ts[i].cell 0).toInt==k):=rfl;rw [en];cases ((ts[i].cell 0).toInt==k) with
  | true=>
   rw [A2,DJ,DI,DI];have ew:AA AB (lo+IF (FI ts[i]) b)=lo+IF (FI ts[i]) b:=EL (by omega) (by omega);have ew2:AA AB (hi+IE (FI ts[i]) b)=hi+IE (FI ts[i]) b:=EL (by omega) (by omega);have ih:=uP N ts b k hts m (i+1) n (lo+IF (FI ts[i]) b) (hi+IE (FI ts[i]) b) (by omega) (by omega) (by omega) (by omega);rw [← ew,← ew2] at ih;refine Eq.trans ih ?_;rw [ew,ew2]
  | false=>
   rw [A8,DI,DJ,DJ];exact uP N ts b k hts m (i+1) n lo hi (by omega) (by omega) (by omega) (by omega)
theorem tP:DX PR B0 162 SN:=by
 refine D6 [(196,bV),(112,K9),(53,MO)] [(5,⟨[1,5,6,7,8,9,10,42,43,44],[5],[]⟩)] SN [[.z],[.z],[.bool]] Tryz.func162 zaP ⟨zhx,YA,aM,trivial⟩ ?_;intro vs r hwf h;unfold SN at h;split at h
 ·rename_i m k b;replace h:=KE h;obtain ⟨m,rfl,h⟩:=h;replace h:=J0 h;obtain ⟨b,rfl,h⟩:=h;rw [R.get_ok] at h;refine ⟨10,?_⟩;rw [← h];refine (zdH 10 m k b).trans ?_;unfold EA D8 G8;cases hm:EX m with
  | false=>rfl
  | true=>
   rw [A2,DJ];cases h0:decide (k < 0) with
   | true=>
    have:IH m k=false:=by unfold IH; rw [AL (show ¬ 0≤k by have:=A1 h0; omega)]; rfl
    rw [this];rfl
   | false=>
    rw [DJ];cases h1:decide (k≥m.c) with
    | true=>
     have:IH m k=false:=by unfold IH; rw [AL (show ¬ k < m.c by have:=A1 h1; omega),vae]
     rw [this];rfl
    | false=>
     have hc:IH m k=true:=by unfold IH; rw [AD (show 0≤k by have:=BH h0; omega),AD (show k < m.c by have:=BH h1; omega)]; rfl
     rw [DJ,hc];cases b.emp with
     | true=>rfl
     | false=>
      have hb:=iW hm k;have run:=uP 10 m.ts b k (MB hm).2.2.1 m.ts.length 0 10 (LY m k) (LY m k) (by omega) (by have:=(MB hm).2.2.1; omega) (by omega) (by omega);rw [DJ];rcases oB hm hc with rfl | rfl | rfl <;> exact run
 ·simp [R.get] at h
theorem uN (g:LI→Int) (hg:∀ l,-2147483648≤g l∧g l≤2147483648) (k:Int):∀ (ts:LI) (s:Int) (n:Nat),(-2147483648*(n:Int)≤s∧s≤2147483648*(n:Int)) → -2147483648*((n+ts.length:Nat):Int)≤I9 g k ts s∧I9 g k ts s≤2147483648*((n+ts.length:Nat):Int)
 | [],s,n,h=>by
  rw [I9];simpa using h
 | t :: r,s,n,h=>by
  rw [I9];have h1:=hg (FI t)
  have:=uN g hg k r (cond (VS t==k) (s+g (FI t)) s) (n+1) (by cases (VS t==k) <;> simp only [BJ,BC] <;> omega)
  rw [AM];rw [show n+1+r.length=n+(r.length+1) by omega] at this;exact this
theorem lM {m:Md} (k:Int) (b:Bx):(-34359738368≤EA m k b∧EA m k b≤34359738368)∧(-34359738368≤D8 m k b∧D8 m k b≤34359738368):=by
 unfold EA D8;cases hs:G8 m k b with
 | false=>simp only [BC]; omega
 | true=>
  unfold G8 at hs;simp only [AH] at hs;have hb:=iW hs.1 k;have h8:=(MB hs.1).2.2.1;have h1:=uN (fun l=>IF l b) (fun l=>by have:=NP (mH l b).1; omega) k m.ts (LY m k) 1 (by omega);have h2:=uN (fun l=>IE l b) (fun l=>by have:=NP (mH l b).2; omega) k m.ts (LY m k) 1 (by omega);rw [DI,DI];omega
abbrev zjY (m:Md) (b:Bx) (k lo a:Int) (z:Bool) (i:Int):St:=⟨[(1,(.int .i64 k)),(3,(.ptr 3 0 0)),(5,(.ptr 5 0 0)),(6,(.int .i64 0)),(7,(.bool false)),(8,(.int .i64 lo)),(11,(.int .i64 a)),(12,(.bool z)),(33,(.int .i64 (Md.c m))),(34,(.int .i64 i))],[(3,(some (.box (Md.cs m)))),(5,(some (.box (Bx.cs b))))]⟩
theorem Eg (N:Nat) (m:Md) (b:Bx) (k:Int) (hc:0≤m.c∧m.c≤3) (lo:Int) (hlo : -34359738368≤lo∧lo≤34359738368):∀ (d i n:Nat) (a:Int) (z:Bool),((i+d:Nat):Int)=m.c→d < n →
  DY (Q5 N) (DK UT [1,1,1,1,0,1,0,0]) ⟨[1,3,5,6,7,8,11,12,33,34],[3,5],[]⟩ n (zjY m b k lo a z (i:Int)) (DQ 0 (DS (Q5 N) (DK UT [1,1,1,1,1]) (DT (Q5 N) none [(CE 6),(CE 7)] [[.z],[.bool]]))) =
   some (.tup [.int .i64 (RQ m k lo b d (i:Int) a z),.bool true],[])
 | d,i,0,_,_,_,h=>absurd h (by omega)
 | 0,i,n+1,a,z,hd,_=>by
  rw [D5,Mj,AL (show ¬ (i:Int) < m.c by omega),DJ];exact Ya N m b _ _ _ _ _ _ _ _
 | d+1,i,n+1,a,z,hd,hn=>by
  have ei:AA AB ((i:Int)+1)=((i+1:Nat):Int):=HD (by omega);have hs:=(lM (m:=m) (i:Int) b).2;have ew:AA AB (lo - D8 m (i:Int) b)=lo - D8 m (i:Int) b:=EL (by omega) (by omega);have ec:(i:Int)+1=((i+1:Nat):Int):=by omega
  rw [D5,Mj,ei,ew,AD (show (i:Int) < m.c by omega),DI,RQ,ec];have ih:=fun a z=>Eg N m b k hc lo hlo d (i+1) n a z (by omega) (by omega)
  cases ((i:Int)==k) with
  | true=>exact ih a z
  | false=>
   rw [DJ,DJ];cases z with
   | false=>exact ih _ true
   | true=>
    rw [A2,DJ,vaw];cases decide (lo - D8 m (i:Int) b < a) with
    | true=>exact ih _ true
    | false=>exact ih a true
theorem zhw:DX PR B0 163 bU:=by
 refine D6 [(162,SN)] [(6,⟨[1,3,5,6,7,8,11,12,33,34],[3,5],[]⟩)] bU [[.z],[.bool]] Tryz.func163 zaO ⟨tP,trivial⟩ ?_;intro vs r hwf h;unfold bU at h;split at h
 ·rename_i m k b;replace h:=KE h;obtain ⟨m,rfl,h⟩:=h;replace h:=J0 h;obtain ⟨b,rfl,h⟩:=h;rw [R.get_ok] at h;refine ⟨10,?_⟩;rw [← h];refine (zdG 10 m k b).trans ?_;unfold VA NU;cases hs:G8 m k b with
  | false=>rfl
  | true=>
   have hm:EX m=true:=by unfold G8 at hs; simp only [AH] at hs; exact hs.1
   have hc:=(MB hm).2.1;rw [A2,DJ];cases h2:decide (m.c < 2) with
   | true=>rw [AL (show ¬ m.c≥2 by have:=A1 h2; omega)]; rfl
   | false=>
    rw [AD (show m.c≥2 by have:=BH h2; omega),DJ];exact Eg 10 m b k (by omega) (EA m k b) (lM k b).1 m.c.toNat 0 10 0 false (by omega) (by omega)
 ·simp [R.get] at h
theorem zhT:DX PR B0 165 cN:=by
 refine D6 [(162,SN),(198,cO),(199,cQ),(197,P3)] [] cN [[.z],[.z],[.bool]] Tryz.func165 zbm ⟨tP,zhU,zhW,lX,trivial⟩ ?_;intro vs r hwf h;unfold cN at h;split at h
 ·rename_i m q b;replace h:=KE h;obtain ⟨m,rfl,h⟩:=h;replace h:=KS h;obtain ⟨q,rfl,h⟩:=h;replace h:=J0 h;obtain ⟨b,rfl,h⟩:=h;rw [R.get_ok] at h;refine ⟨0,?_⟩;rw [← h];refine (zd9 0 m q b).trans ?_;have h1:=lM (m:=m) q.c (J6 q b);have h2:=lM (m:=m) q.c (KA q b);rw [EL (n:=EA m q.c (KA q b) - D8 m q.c (J6 q b)) (by omega) (by omega),EL (n:=D8 m q.c (KA q b) - EA m q.c (J6 q b)) (by omega) (by omega)];unfold S3 S2 LC;cases HB q <;> cases G8 m q.c (J6 q b) <;> cases G8 m q.c (KA q b) <;> rfl
 ·simp [R.get] at h
theorem zhZ:DX PR B0 122 cT:=by
 refine D6 [(163,bU),(162,SN),(112,K9),(165,cN),(164,cP),(65,MQ)] [] cT [[.bool]] Tryz.func122 zby ⟨zhw,tP,YA,zhT,zhV,aO,trivial⟩ ?_;intro vs r hwf h;unfold cT at h;split at h
 ·rename_i m q b;replace h:=KE h;obtain ⟨m,rfl,h⟩:=h;replace h:=KS h;obtain ⟨q,rfl,h⟩:=h;replace h:=J0 h;obtain ⟨b,rfl,h⟩:=h;rw [R.get_ok] at h;refine ⟨0,?_⟩;rw [← h];refine (zel 0 m q b).trans ?_;unfold GW;cases E8 m q <;> cases b.emp <;> cases (q.k==1) <;> cases (q.k==2) <;> cases G8 m q.c b <;> cases decide (q.lo≤EA m q.c b) <;> cases NU m q.c b <;> cases QI q b <;> cases q.fl <;> cases LC m q b <;> rfl
 ·simp [R.get] at h
theorem zh0:DX PR B0 123 cU:=by
 refine D6 [(81,bX)] [] cU [[.z,.z,.z,.z],[.z]] Tryz.func123 zbz ⟨zhz,trivial⟩ ?_;intro vs r hwf h;unfold cU at h;split at h
 ·rename_i b;replace h:=J0 h;obtain ⟨b,rfl,h⟩:=h;rw [R.get_ok] at h;exact ⟨0,(zem 0 b).trans h⟩
 ·simp [R.get] at h
theorem zh3:DX PR B0 166 cX:=by
 refine D6 [] [] cX [[.z]] Tryz.func166 zbC trivial ?_;intro vs r hwf h;unfold cX at h;split at h
 ·rename_i q i;replace h:=KS h;obtain ⟨q,rfl,h⟩:=h;rw [R.get_ok] at h;refine ⟨0,?_⟩;rw [← h];refine (zeo 0 q i).trans ?_;unfold IW;cases decide (i≥0) <;> cases decide (i < 4) <;> cases (i==4) <;> cases (q.k==3) <;> rfl
 ·simp [R.get] at h
def oJ (m:Md) (f:Int) (s:Sp):DN:=
 cond (decide (f < 0)) (some (.list false [.z] [],[]))
  (cond (EX m)
   (cond (BQ (iZ (JV m.ts f)).length (iZ (JV m.ts f)).length)
    (cond (B6 (iZ (LF s.lo s.hi ((iZ (JV m.ts f)).map IV.toInt))).length (iZ (JV m.ts f)).length)
     (some (.list false [.z] (AS 0 (AK (iZ (LF s.lo s.hi ((iZ (JV m.ts f)).map IV.toInt))).length (iZ (LF s.lo s.hi ((iZ (JV m.ts f)).map IV.toInt))))),[])) none) none) none)
theorem Wn {m:Md} (hm:EX m=true) (f:Int) (s:Sp):oJ m f s=some (.list false [.z] (iZ (cond (decide (f < 0)) [] (LF s.lo s.hi (JV m.ts f)))),[]):=by
 unfold oJ;cases decide (f < 0) with
 | true=>rfl
 | false=>
  rw [DJ,hm,DI,vbn,DI,pG,DJ];have hle:(iZ (LF s.lo s.hi (JV m.ts f))).length≤(iZ (JV m.ts f)).length:=by
   rw [QE,QE];exact List.length_filter_le ..
  rw [C7 hle,DI,B2,BO]
theorem zg6 (m:Md) (q:Qy) (b:Bx):∀ i:Nat,i < 5→DZ (vO 0) nT [.tmp 8] [[.list false [.z]]] [m.V,q.V,b.V,.int .i64 (i:Int)]=oJ m (IW q (i:Int)) (b.g i)
 | 0,_=>by kernel_rfl
 | 1,_=>by kernel_rfl
 | 2,_=>by kernel_rfl
 | 3,_=>by kernel_rfl
 | 4,_=>by kernel_rfl
 | i+5,h=>absurd h (by omega)
abbrev De:KP:=⟨[1,4,5,16,17,18],[500],[⟨(.tmp 5),500,3,false,[.z]⟩]⟩
abbrev Df:KP:=⟨[1,4,5,16,17,18,23,24,25],[500],[⟨(.tmp 5),500,3,false,[.z]⟩]⟩
abbrev mZ (f:Int) (ts:LI) (i:Int) (W:LI) (j:Int) (O:LI):St:=
 ⟨[(1,(.int .i64 f)),(4,.zs),(5,(.row 500 0 O.length)),(16,(.list true MY ts)),(17,(.int .i64 (ic ts.length))),(18,(.int .i64 i)),(23,(.list false [(.int .u64)] W)),(24,(.int .i64 (ic W.length))),(25,(.int .i64 j))],[(500,(some (.row true 3 false [.z] O)))]⟩
theorem mK (N:Nat) (f:Int) (ts:LI) (i:Int) (W:LI) (hW:W.length≤31) (K:Out→St→DN):∀ (m j n:Nat) (O:LI),j+m=W.length→m < n→O.length+m≤1000 →
  DY (N8 N) (DK O8 [1,1,1,0,1,0,0,1,1,0,0,1,1,0,0]) Df n (mZ f ts i W (j:Int) O) K=K (.exit 2) (mZ f ts i W (ic W.length) (O++iZ ((W.drop j).flatMap (JA f))))
 | m,j,0,_,_,h,_=>absurd h (by omega)
 | 0,j,n+1,O,hd,_,_=>by
  have hj:j=W.length:=by omega
  subst hj;rw [D5,Ng,I5 (AZ _),DJ,vaA];show K (.exit 2) _=K (.exit 2) (mZ f ts i W (ic W.length) (O++[]));rw [DB]
 | m+1,j,n+1,O,hd,hn,hO=>by
  have hj:j < W.length:=by omega
  have ej:AA AB ((j:Int)+1)=((j+1:Nat):Int):=HD (by omega);rw [D5,Ng,ej,HA hj,DI,IL,B3,DI,H8 hj,BG hj,vao];unfold JA;cases (DL (W[j]).toInt).lf with
  | true=>
   rw [A2,DJ,BM,DJ,C5];exact mK N f ts i W hW K m (j+1) n O (by omega) (by omega) (by omega)
  | false=>
   rw [A8,DI,A6];cases ((DL (W[j]).toInt).f==f) with
   | false=>
    rw [DJ,DJ,C5];exact mK N f ts i W hW K m (j+1) n O (by omega) (by omega) (by omega)
   | true=>
    rw [DI,DI,AD (show (O.length+1)*8≤EE by unfold EE; omega),DI,BO];have ih:=mK N f ts i W hW K m (j+1) n (O++[IV.int (DL (W[j]).toInt).a]) (by omega) (by omega) (by rw [AT,C3]; omega);rw [vaH] at ih;unfold mZ at ih ⊢;rw [AT,C3] at ih;exact ih
abbrev vL (f:Int) (ts:LI) (i:Int) (O:LI):St:=
 ⟨[(1,(.int .i64 f)),(4,.zs),(5,(.row 500 0 O.length)),(16,(.list true MY ts)),(17,(.int .i64 (ic ts.length))),(18,(.int .i64 i))],[(500,(some (.row true 3 false [.z] O)))]⟩
theorem uT (f:Int):∀ W:LI,(W.flatMap (JA f)).length≤W.length
 | []=>AZ _
 | w :: r=>by
  rw [vao,AT,AM]
  have:=uT f r
  unfold JA at this ⊢;cases (!(DL w.toInt).lf&&(DL w.toInt).f==f) <;> simp only [BJ,BC,A7,C3] <;> omega
theorem Ox {d c:Int} {t:IV} (h:HN d c t=true):(0≤VS t∧VS t < c)∧G1 (FI t) d=true:=by
 unfold HN at h;simp only [AH,B4,BW] at h;exact ⟨⟨by show 0≤(t.cell 0).toInt; omega,by show (t.cell 0).toInt < c; omega⟩,h.2.2⟩
theorem Pa {d c:Int} {ts:LI} (h:ts.all (HN d c)=true) {t:IV} (ht:t∈ts):(FI t).length≤31:=by
 have:=(Ox (CQ.1 h t ht)).2
 exact (mN this).1.2
theorem Ok (N:Nat) (hN:40≤N) (f:Int) (ts:LI) (hts:ts.length≤8) (hW:∀ t∈ts,(FI t).length≤31) (K:Out→St→DN):∀ (m i n:Nat) (O:LI),i+m=ts.length→m < n→O.length≤31*i →
  DY (N8 N) (DK O8 [1,1,1,0,1,0,0]) De n (vL f ts (i:Int) O) K=K (.exit 0) (vL f ts (ic ts.length) (O++iZ (IQ (ts.drop i) f)))
 | m,i,0,_,_,h,_=>absurd h (by omega)
 | 0,i,n+1,O,hd,_,_=>by
  have hi:i=ts.length:=by omega
  subst hi;rw [D5,Nf,I5 (AZ _),DJ,vaA];show K (.exit 0) _=K (.exit 0) (vL f ts (ic ts.length) (O++[]));rw [DB]
 | m+1,i,n+1,O,hd,hn,hO=>by
  have hi:i < ts.length:=by omega
  have ei:AA AB ((i:Int)+1)=((i+1:Nat):Int):=HD (by omega);have hw:=hW ts[i] (C1 hi);have hl:=uT f (FI ts[i]);rw [D5,Nf,HA hi,DI,IL,B3,DI,H8 hi,BG hi];refine (mK N f ts (i:Int) (FI ts[i]) hw _ (FI ts[i]).length 0 N O (by omega) (by omega) (by omega)).trans ?_;rw [Zi,ei,B2];have ih:=Ok N hN f ts hts hW K m (i+1) n (O++iZ ((FI ts[i]).flatMap (JA f))) (by omega) (by omega) (by rw [AT,QE]; omega);have e:IQ (ts[i] :: ts.drop (i+1)) f=(FI ts[i]).flatMap (JA f)++IQ (ts.drop (i+1)) f:=by unfold IQ; rw [vao]
  rw [e];have e2:iZ ((FI ts[i]).flatMap (JA f)++IQ (ts.drop (i+1)) f)=iZ ((FI ts[i]).flatMap (JA f))++iZ (IQ (ts.drop (i+1)) f):=by unfold iZ; rw [List.map_append]
  rw [e2,← vaH];exact ih
theorem zib:DX PR B0 168 dA:=by
 refine Kt [(53,MO),(55,MP)] [(202,j4),(201,j6)] [(5,De),(8,Df)] dA [] Tryz.func168 zbJ ⟨aM,aN,trivial⟩ ⟨zh6,zh8,trivial⟩ ?_;intro vs r hwf h;unfold dA at h;split at h
 ·rename_i m f;replace h:=KE h;obtain ⟨m,rfl,h⟩:=h;cases hm:EX m with
  | false=>rw [hm] at h; simp [R.get] at h
  | true=>
   rw [hm,R.get_br,DI,R.get_ok] at h;refine ⟨40,?_⟩;rw [← h];refine (zew 40 m f).trans ?_;have hmp:=MB hm;rw [hm,A2,DJ];refine (Ok 40 (by omega) f m.ts hmp.2.2.1 (fun t ht=>Pa hmp.2.2.2.2 ht) _ m.ts.length 0 40 [] (by omega) (by have:=hmp.2.2.1; omega) (B5 _)).trans ?_;rw [B2,C5,Zh,vbn,DI,pG];have e1:(iZ (K4 (IQ m.ts f))).length=(iZ (IQ m.ts f)).length:=by rw [QE,QE]; exact (TR _).length_eq
   have e2:(iZ (KH (K4 (IQ m.ts f)))).length≤(iZ (IQ m.ts f)).length:=by rw [← e1,QE,QE]; exact jE _
   rw [e1,vbn,DI,DI,pG,C7 e2,DI,BO];rfl
 ·simp [R.get] at h
theorem zh2:DX PR B0 126 cW:=by
 refine Kt [(166,cX),(168,dA)] [(167,j5)] [] cW [[.list false [.z]]] Tryz.func126 zbB ⟨zh3,zib,trivial⟩ ⟨zh7,trivial⟩ ?_;intro vs r hwf h;unfold cW at h;split at h
 ·rename_i m q b i;replace h:=KE h;obtain ⟨m,rfl,h⟩:=h;replace h:=KS h;obtain ⟨q,rfl,h⟩:=h;replace h:=J0 h;obtain ⟨b,rfl,h⟩:=h;cases hg:(EX m&&H9 i) with
  | false=>rw [hg] at h; simp [R.get] at h
  | true=>
  rw [hg,R.get_br,DI,R.get_ok] at h;rw [AH] at hg;refine ⟨0,?_⟩;rw [← h];have key:∀ k:Nat,k < 5→DZ (vO 0) nT [.tmp 8] [[.list false [.z]]] [m.V,q.V,b.V,.int .i64 (k:Int)]=some (.list false [.z] (iZ (FG m q b k)),[]):=fun k hk=>by
   rw [zg6 m q b k hk,Wn hg.1];rfl
  rcases Cn hg.2 with rfl | rfl | rfl | rfl | rfl
  ·exact key 0 (by omega)
  ·exact key 1 (by omega)
  ·exact key 2 (by omega)
  ·exact key 3 (by omega)
  ·exact key 4 (by omega)
 ·simp [R.get] at h
abbrev zjZ (m:Md) (q:Qy) (b:Bx) (i:Int):St:=⟨[(3,(.ptr 3 0 0)),(4,(.ptr 4 0 0)),(5,(.ptr 5 0 0)),(6,(.int .i64 0)),(7,(.int .i64 0)),(8,(.bool false)),(11,(.int .i64 i))],[(3,(some (.box (Md.cs m)))),(4,(some (.box (Qy.cs q)))),(5,(some (.box (Bx.cs b))))]⟩
theorem Wu {m:Md} (hm:EX m=true) (q:Qy) (b:Bx) (i:Nat):(FG m q b i).length≤248:=by
 have key:∀ (ts:LI) (f:Int),(∀ t∈ts,(FI t).length≤31)→(IQ ts f).length≤31*ts.length:=by
  intro ts f
  induction ts with
  | nil=>intro _; exact AZ _
  | cons t r ih=>
   intro ht;have h1:=ih fun u hu=>ht u (AY _ hu)
   have h2:=uT f (FI t);have h3:=ht t (AN ..);unfold IQ at h1 ⊢;rw [vao,AT,AM];omega
 have hmp:=MB hm;have h1:=key m.ts (IW q (i:Int)) fun t ht=>Pa hmp.2.2.2.2 ht
 unfold FG;cases decide (IW q (i:Int) < 0) with
 | true=>exact B5 _
 | false=>
  rw [DJ];have h2:(LF (b.g i).lo (b.g i).hi (JV m.ts (IW q (i:Int)))).length≤(JV m.ts (IW q (i:Int))).length:=List.length_filter_le ..
  have h3:(JV m.ts (IW q (i:Int))).length≤(IQ m.ts (IW q (i:Int))).length:=by
   unfold JV;exact C2 (jE _) (Nat.le_of_eq (TR _).length_eq)
  have:=hmp.2.2.1
  omega
theorem Mc (N:Nat) (m:Md) (hm:EX m=true) (q:Qy) (b:Bx):∀ (d i n:Nat),i+d=5→d < n →
  DY (OY N) (DK SZ [1,0,1,0,0]) ⟨[3,4,5,6,7,8,11],[3,4,5],[]⟩ n (zjZ m q b (i:Int)) (DQ 0 (DS (OY N) (DK SZ [1,1]) (DT (OY N) none [(CE 6),(CE 7),(CE 8)] [[.z],[.z],[.bool]]))) =
   some (.tup [.int .i64 (KC (LR m q b d i)),.int .i64 (I8 (LR m q b d i)),.bool (LR m q b d i).isSome],[])
 | d,i,0,_,h=>absurd h (by omega)
 | 0,i,n+1,hd,_=>by
  have hi:i=5:=by omega
  subst hi;rw [D5,Na,AL (show ¬ ((5:Nat):Int) < 5 by omega),DJ];exact Zc N m q b _ _ _ _
 | d+1,i,n+1,hd,hn=>by
  have hp:H9 (i:Int)=true:=by unfold H9; rw [AD (show (0:Int)≤(i:Int) by omega),AD (show (i:Int) < 5 by omega)]; rfl
  have ei:AA AB ((i:Int)+1)=((i+1:Nat):Int):=HD (by omega);have hc:=Wu hm q b i;rw [D5,Na,ei,AD (show (i:Int) < 5 by omega),DI,hm,hp,B3,DI,BF,LR,QE];generalize FG m q b i=cs at hc ⊢;have ed:decide (ic cs.length > 0)=decide (cs.length > 0):=by rw [va1]; simp
  rw [ed];cases hpos:decide (cs.length > 0) with
  | true=>
   have hpos:=A1 hpos;have ew:AA AB (Int.tdiv (AA AB (ic cs.length - 1)) 2)=(((cs.length - 1) / 2:Nat):Int):=by
    have e1:AA AB (ic cs.length - 1)=((cs.length - 1:Nat):Int):=by rw [EL (by simp only [ic]; omega) (by simp only [ic]; omega)]; simp only [ic]; omega
    have e2:Int.tdiv ((cs.length - 1:Nat):Int) 2=(((cs.length - 1) / 2:Nat):Int):=by
     rw [Int.tdiv_eq_ediv_of_nonneg (by omega)];omega
    rw [e1,e2,EL (by omega) (by omega)]
   have hlt:(cs.length - 1) / 2 < cs.length:=by omega
   rw [DI,ew,IL,AD (show (((cs.length - 1) / 2:Nat):Int) < ic cs.length by simp only [ic]; omega),B3,DI,DI,BF];have eg:IV.toInt (AI (iZ cs) ((cs.length - 1) / 2) default)=cs.getD ((cs.length - 1) / 2) 0:=by
    unfold iZ;rw [BV,BV,B9,A9 hlt];rfl
   rw [eg];exact Zd N m q b _ _ _ _
  | false=>
   rw [DJ,DJ];exact Mc N m hm q b d (i+1) n (by omega) (by omega)
theorem zh1:DX PR B0 124 cV:=by
 refine D6 [(126,cW)] [(2,⟨[3,4,5,6,7,8,11],[3,4,5],[]⟩)] cV [[.z],[.z],[.bool]] Tryz.func124 zbA ⟨zh2,trivial⟩ ?_;intro vs r hwf h;unfold cV at h;split at h
 ·rename_i m q b;replace h:=KE h;obtain ⟨m,rfl,h⟩:=h;replace h:=KS h;obtain ⟨q,rfl,h⟩:=h;replace h:=J0 h;obtain ⟨b,rfl,h⟩:=h;cases hg:(EX m) with
  | false=>rw [hg] at h; simp [R.get] at h
  | true=>
  rw [hg,R.get_br,DI,R.get_ok] at h;refine ⟨10,?_⟩;rw [← h];exact (zen 10 m q b).trans (Mc 10 m hg q b 5 0 10 rfl (by omega))
 ·simp [R.get] at h
open Go Go.Proofs
def Sx (N:Nat):Env:=D4 [(65,MQ),(66,WU)] [] 26 N
theorem zeN (N:Nat) (m:Md) (q:Qy):DZ (Sx N) y4 [.tmp 4] [[.list false []]] [(Md.V m),(Qy.V q)]=(cond (!E8 m q) (some ((.bor (F3 m q [.zs,.zs,.i 4,.zs,.i 0,.i 0,.i 0,.i 0,.i 0,.i 0,.i 0])),[])) (some ((.bor (F3 m q [.vec 36 true FB [(Bx.I (GE q))],.zs,.i 0,.zs,.i 0,.i 0,.i 0,.i 0,.i 0,.i 0,.i 0])),[]))):=by kernel_rfl
def iD (N:Nat):Env:=D4 [(125,iH)] [] 22 N
theorem zeR (N:Nat) (m:Md) (q:Qy) (left u00:LI) (k w0 w1 w2 w3 tw vs sp:Int):DZ (iD N) eE [.cell 2 55] [[.z,.list true [.bool,.z,.z],.z,.z,.z,.z,.z,.z]] [.bor (F3 m q [.vec 36 true FB left,.vec 127 true EB u00,.i k,.zs,.i w0,.i w1,.i w2,.i w3,.i tw,.i vs,.i sp])]=(cond (k==0) (some ((.agg [.i 3,.list true EB [],.i w0,.i w1,.i w2,.i w3,.i tw,.i sp]),[(F3 m q [.vec 36 true FB (AK (AF left) left),.vec 127 true EB (AK (AF u00) u00),.i k,.zs,.i w0,.i w1,.i w2,.i w3,.i tw,.i vs,.i sp])])) (some ((.agg [.i k,.list true EB [],.i w0,.i w1,.i w2,.i w3,.i tw,.i sp]),[(F3 m q [.vec 36 true FB (AK (AF left) left),.vec 127 true EB (AK (AF u00) u00),.i k,.zs,.i w0,.i w1,.i w2,.i w3,.i tw,.i vs,.i sp])]))):=by kernel_rfl
theorem zeS (N:Nat) (m:Md) (q:Qy) (left:LI) (k w0 w1 w2 w3 tw vs sp:Int):DZ (iD N) eE [.cell 2 55] [[.z,.list true [.bool,.z,.z],.z,.z,.z,.z,.z,.z]] [.bor (F3 m q [.vec 36 true FB left,.zs,.i k,.zs,.i w0,.i w1,.i w2,.i w3,.i tw,.i vs,.i sp])]=(cond (k==0) (some ((.agg [.i 3,.list true EB [],.i w0,.i w1,.i w2,.i w3,.i tw,.i sp]),[(F3 m q [.vec 36 true FB (AK (AF left) left),.zs,.i k,.zs,.i w0,.i w1,.i w2,.i w3,.i tw,.i vs,.i sp])])) (some ((.agg [.i k,.list true EB [],.i w0,.i w1,.i w2,.i w3,.i tw,.i sp]),[(F3 m q [.vec 36 true FB (AK (AF left) left),.zs,.i k,.zs,.i w0,.i w1,.i w2,.i w3,.i tw,.i vs,.i sp])]))):=by kernel_rfl
theorem zeT (N:Nat) (m:Md) (q:Qy) (left u00 vp:LI) (k w0 w1 w2 w3 tw vs sp:Int):DZ (iD N) eE [.cell 2 55] [[.z,.list true [.bool,.z,.z],.z,.z,.z,.z,.z,.z]] [.bor (F3 m q [.vec 36 true FB left,.list true EB u00,.i k,.list true EB vp,.i w0,.i w1,.i w2,.i w3,.i tw,.i vs,.i sp])]=(cond (k==0) (cond (B6 (AF vp) 100000) (some ((.agg [.i 3,.list true EB (AS 0 (AK (AF vp) vp)),.i w0,.i w1,.i w2,.i w3,.i tw,.i sp]),[(F3 m q [.vec 36 true FB (AK (AF left) left),.list true EB u00,.i k,.list true EB vp,.i w0,.i w1,.i w2,.i w3,.i tw,.i vs,.i sp])])) none) (cond (B6 (AF vp) 100000) (some ((.agg [.i k,.list true EB (AS 0 (AK (AF vp) vp)),.i w0,.i w1,.i w2,.i w3,.i tw,.i sp]),[(F3 m q [.vec 36 true FB (AK (AF left) left),.list true EB u00,.i k,.list true EB vp,.i w0,.i w1,.i w2,.i w3,.i tw,.i vs,.i sp])])) none)):=by kernel_rfl
theorem zeU (N:Nat) (m:Md) (q:Qy) (k w0 w1 w2 w3 tw vs sp:Int):DZ (iD N) eE [.cell 2 55] [[.z,.list true [.bool,.z,.z],.z,.z,.z,.z,.z,.z]] [.bor (F3 m q [.zs,.zs,.i k,.zs,.i w0,.i w1,.i w2,.i w3,.i tw,.i vs,.i sp])]=(cond (k==0) (some ((.agg [.i 3,.list true EB [],.i w0,.i w1,.i w2,.i w3,.i tw,.i sp]),[(F3 m q [.zs,.zs,.i k,.zs,.i w0,.i w1,.i w2,.i w3,.i tw,.i vs,.i sp])])) (some ((.agg [.i k,.list true EB [],.i w0,.i w1,.i w2,.i w3,.i tw,.i sp]),[(F3 m q [.zs,.zs,.i k,.zs,.i w0,.i w1,.i w2,.i w3,.i tw,.i vs,.i sp])]))):=by kernel_rfl
def iC (N:Nat):Env:=D4 [(111,P0),(122,cT),(123,cU),(124,cV),(70,WT)] [] 165 N
theorem Ev (N:Nat) (m:Md) (q:Qy) (left u00:LI) (k w0 w1 w2 w3 tw vs sp:Int):DZ (iC N) eD [.tmp 2] [[.bool]] [.bor (F3 m q [.vec 36 true FB left,.vec 127 true EB u00,.i k,.zs,.i w0,.i w1,.i w2,.i w3,.i tw,.i vs,.i sp])]=(cond (k != 0) (some ((.bool false),[(F3 m q [.vec 36 true FB (AK (AF left) left),.vec 127 true EB (AK (AF u00) u00),.i k,.zs,.i w0,.i w1,.i w2,.i w3,.i tw,.i vs,.i sp])])) (cond (decide (sp≥Qy.bu q)) (some ((.bool false),[(F3 m q [.vec 36 true FB (AK (AF left) left),.vec 127 true EB (AK (AF u00) u00),.i k,.zs,.i w0,.i w1,.i w2,.i w3,.i tw,.i vs,.i sp])])) (cond (decide (0≤AA AB (ic (AF left - 0) - 1))&&decide (AA AB (ic (AF left - 0) - 1) < ic (AF left - 0))) (cond (decide (0≤AA AB (ic (AF left - 0) - 1))&&decide (AA AB (ic (AF left - 0) - 1)≤ic (AF left - 0))) (cond (GW m q (D7 (AI left (0+AE (AA AB (ic (AF left - 0) - 1))) default))) (cond (decide ((AF u00+1)*24≤EE)) (cond (ic (0+AE (AA AB (ic (AF left - 0) - 1)) - 0)==0) (some ((.bool true),[(F3 m q [.vec 36 true FB (AK (0+AE (AA AB (ic (AF left - 0) - 1))) left),.list true EB (AS 0 (AK (AF u00+1) (AK (AF u00) u00++[IV.agg [IV.bool true,IV.int 0,IV.int 0]]))),.i 1,.list true EB (AS 0 (AK (AF u00+1) (AK (AF u00) u00++[IV.agg [IV.bool true,IV.int 0,IV.int 0]]))),.i 0,.i 0,.i 0,.i 0,.i 0,.i 0,.i (AA AB (sp+1))])])) (some ((.bool true),[(F3 m q [.vec 36 true FB (AK (0+AE (AA AB (ic (AF left - 0) - 1))) left),.vec 127 true EB (AK (AF u00+1) (AK (AF u00) u00++[IV.agg [IV.bool true,IV.int 0,IV.int 0]])),.i k,.zs,.i w0,.i w1,.i w2,.i w3,.i tw,.i vs,.i (AA AB (sp+1))])]))) none) (cond (HJ m q (Bx.low (D7 (AI left (0+AE (AA AB (ic (AF left - 0) - 1))) default))) (Sp.hi (Bx.s4 (D7 (AI left (0+AE (AA AB (ic (AF left - 0) - 1))) default))))) (some ((.bool true),[(F3 m q [.vec 36 true FB (AK (0+AE (AA AB (ic (AF left - 0) - 1))) left),.vec 127 true EB (AK (AF u00) u00),.i 2,.zs,.i (Pt.p0 (Bx.low (D7 (AI left (0+AE (AA AB (ic (AF left - 0) - 1))) default)))),.i (Pt.p1 (Bx.low (D7 (AI left (0+AE (AA AB (ic (AF left - 0) - 1))) default)))),.i (Pt.p2 (Bx.low (D7 (AI left (0+AE (AA AB (ic (AF left - 0) - 1))) default)))),.i (Pt.p3 (Bx.low (D7 (AI left (0+AE (AA AB (ic (AF left - 0) - 1))) default)))),.i (Sp.hi (Bx.s4 (D7 (AI left (0+AE (AA AB (ic (AF left - 0) - 1))) default)))),.i 0,.i (AA AB (sp+1))])])) (cond (EX m) (cond (!Option.isSome (E1 m q (D7 (AI left (0+AE (AA AB (ic (AF left - 0) - 1))) default)))) (some ((.bool true),[(F3 m q [.vec 36 true FB (AK (0+AE (AA AB (ic (AF left - 0) - 1))) left),.vec 127 true EB (AK (AF u00) u00),.i 3,.zs,.i 0,.i 0,.i 0,.i 0,.i 0,.i 0,.i (AA AB (sp+1))])])) (cond (H9 (KC (E1 m q (D7 (AI left (0+AE (AA AB (ic (AF left - 0) - 1))) default))))) (cond (decide ((0+AE (AA AB (ic (AF left - 0) - 1))+2)*80≤EE)) (cond (decide ((AF u00+1)*24≤EE)) (some ((.bool true),[(F3 m q [.vec 36 true FB (AK (0+AE (AA AB (ic (AF left - 0) - 1))+2) (AK (0+AE (AA AB (ic (AF left - 0) - 1))) left++[(Bx.I (Bx.cutH (D7 (AI left (0+AE (AA AB (ic (AF left - 0) - 1))) default)) (KC (E1 m q (D7 (AI left (0+AE (AA AB (ic (AF left - 0) - 1))) default)))) (I8 (E1 m q (D7 (AI left (0+AE (AA AB (ic (AF left - 0) - 1))) default)))))),(Bx.I (Bx.cutL (D7 (AI left (0+AE (AA AB (ic (AF left - 0) - 1))) default)) (KC (E1 m q (D7 (AI left (0+AE (AA AB (ic (AF left - 0) - 1))) default)))) (I8 (E1 m q (D7 (AI left (0+AE (AA AB (ic (AF left - 0) - 1))) default))))))])),.vec 127 true EB (AK (AF u00+1) (AK (AF u00) u00++[IV.agg [IV.bool false,IV.int (KC (E1 m q (D7 (AI left (0+AE (AA AB (ic (AF left - 0) - 1))) default)))),IV.int (I8 (E1 m q (D7 (AI left (0+AE (AA AB (ic (AF left - 0) - 1))) default))))]])),.i k,.zs,.i w0,.i w1,.i w2,.i w3,.i tw,.i vs,.i (AA AB (sp+1))])])) none) none) none)) none))) none) none))):=by kernel_rfl
theorem Ew (N:Nat) (m:Md) (q:Qy) (left:LI) (k w0 w1 w2 w3 tw vs sp:Int):DZ (iC N) eD [.tmp 2] [[.bool]] [.bor (F3 m q [.vec 36 true FB left,.zs,.i k,.zs,.i w0,.i w1,.i w2,.i w3,.i tw,.i vs,.i sp])]=(cond (k != 0) (some ((.bool false),[(F3 m q [.vec 36 true FB (AK (AF left) left),.zs,.i k,.zs,.i w0,.i w1,.i w2,.i w3,.i tw,.i vs,.i sp])])) (cond (decide (sp≥Qy.bu q)) (some ((.bool false),[(F3 m q [.vec 36 true FB (AK (AF left) left),.zs,.i k,.zs,.i w0,.i w1,.i w2,.i w3,.i tw,.i vs,.i sp])])) (cond (decide (0≤AA AB (ic (AF left - 0) - 1))&&decide (AA AB (ic (AF left - 0) - 1) < ic (AF left - 0))) (cond (decide (0≤AA AB (ic (AF left - 0) - 1))&&decide (AA AB (ic (AF left - 0) - 1)≤ic (AF left - 0))) (cond (GW m q (D7 (AI left (0+AE (AA AB (ic (AF left - 0) - 1))) default))) (cond (ic (0+AE (AA AB (ic (AF left - 0) - 1)) - 0)==0) (some ((.bool true),[(F3 m q [.vec 36 true FB (AK (0+AE (AA AB (ic (AF left - 0) - 1))) left),.list true EB [(IV.agg [IV.bool true,IV.int 0,IV.int 0])],.i 1,.list true EB [(IV.agg [IV.bool true,IV.int 0,IV.int 0])],.i 0,.i 0,.i 0,.i 0,.i 0,.i 0,.i (AA AB (sp+1))])])) (some ((.bool true),[(F3 m q [.vec 36 true FB (AK (0+AE (AA AB (ic (AF left - 0) - 1))) left),.vec 127 true EB [(IV.agg [IV.bool true,IV.int 0,IV.int 0])],.i k,.zs,.i w0,.i w1,.i w2,.i w3,.i tw,.i vs,.i (AA AB (sp+1))])]))) (cond (HJ m q (Bx.low (D7 (AI left (0+AE (AA AB (ic (AF left - 0) - 1))) default))) (Sp.hi (Bx.s4 (D7 (AI left (0+AE (AA AB (ic (AF left - 0) - 1))) default))))) (some ((.bool true),[(F3 m q [.vec 36 true FB (AK (0+AE (AA AB (ic (AF left - 0) - 1))) left),.zs,.i 2,.zs,.i (Pt.p0 (Bx.low (D7 (AI left (0+AE (AA AB (ic (AF left - 0) - 1))) default)))),.i (Pt.p1 (Bx.low (D7 (AI left (0+AE (AA AB (ic (AF left - 0) - 1))) default)))),.i (Pt.p2 (Bx.low (D7 (AI left (0+AE (AA AB (ic (AF left - 0) - 1))) default)))),.i (Pt.p3 (Bx.low (D7 (AI left (0+AE (AA AB (ic (AF left - 0) - 1))) default)))),.i (Sp.hi (Bx.s4 (D7 (AI left (0+AE (AA AB (ic (AF left - 0) - 1))) default)))),.i 0,.i (AA AB (sp+1))])])) (cond (EX m) (cond (!Option.isSome (E1 m q (D7 (AI left (0+AE (AA AB (ic (AF left - 0) - 1))) default)))) (some ((.bool true),[(F3 m q [.vec 36 true FB (AK (0+AE (AA AB (ic (AF left - 0) - 1))) left),.zs,.i 3,.zs,.i 0,.i 0,.i 0,.i 0,.i 0,.i 0,.i (AA AB (sp+1))])])) (cond (H9 (KC (E1 m q (D7 (AI left (0+AE (AA AB (ic (AF left - 0) - 1))) default))))) (cond (decide ((0+AE (AA AB (ic (AF left - 0) - 1))+2)*80≤EE)) (some ((.bool true),[(F3 m q [.vec 36 true FB (AK (0+AE (AA AB (ic (AF left - 0) - 1))+2) (AK (0+AE (AA AB (ic (AF left - 0) - 1))) left++[(Bx.I (Bx.cutH (D7 (AI left (0+AE (AA AB (ic (AF left - 0) - 1))) default)) (KC (E1 m q (D7 (AI left (0+AE (AA AB (ic (AF left - 0) - 1))) default)))) (I8 (E1 m q (D7 (AI left (0+AE (AA AB (ic (AF left - 0) - 1))) default)))))),(Bx.I (Bx.cutL (D7 (AI left (0+AE (AA AB (ic (AF left - 0) - 1))) default)) (KC (E1 m q (D7 (AI left (0+AE (AA AB (ic (AF left - 0) - 1))) default)))) (I8 (E1 m q (D7 (AI left (0+AE (AA AB (ic (AF left - 0) - 1))) default))))))])),.vec 127 true EB [(IV.agg [IV.bool false,IV.int (KC (E1 m q (D7 (AI left (0+AE (AA AB (ic (AF left - 0) - 1))) default)))),IV.int (I8 (E1 m q (D7 (AI left (0+AE (AA AB (ic (AF left - 0) - 1))) default))))])],.i k,.zs,.i w0,.i w1,.i w2,.i w3,.i tw,.i vs,.i (AA AB (sp+1))])])) none) none)) none))) none) none))):=by kernel_rfl
theorem zeP (N:Nat) (m:Md) (q:Qy) (left u00 vp:LI) (k w0 w1 w2 w3 tw vs sp:Int):DZ (iC N) eD [.tmp 2] [[.bool]] [.bor (F3 m q [.vec 36 true FB left,.list true EB u00,.i k,.list true EB vp,.i w0,.i w1,.i w2,.i w3,.i tw,.i vs,.i sp])]=(cond (k != 0) (some ((.bool false),[(F3 m q [.vec 36 true FB (AK (AF left) left),.list true EB u00,.i k,.list true EB vp,.i w0,.i w1,.i w2,.i w3,.i tw,.i vs,.i sp])])) (cond (decide (sp≥Qy.bu q)) (some ((.bool false),[(F3 m q [.vec 36 true FB (AK (AF left) left),.list true EB u00,.i k,.list true EB vp,.i w0,.i w1,.i w2,.i w3,.i tw,.i vs,.i sp])])) (cond (decide (0≤AA AB (ic (AF left - 0) - 1))&&decide (AA AB (ic (AF left - 0) - 1) < ic (AF left - 0))) (cond (decide (0≤AA AB (ic (AF left - 0) - 1))&&decide (AA AB (ic (AF left - 0) - 1)≤ic (AF left - 0))) (cond (GW m q (D7 (AI left (0+AE (AA AB (ic (AF left - 0) - 1))) default))) none (cond (HJ m q (Bx.low (D7 (AI left (0+AE (AA AB (ic (AF left - 0) - 1))) default))) (Sp.hi (Bx.s4 (D7 (AI left (0+AE (AA AB (ic (AF left - 0) - 1))) default))))) (some ((.bool true),[(F3 m q [.vec 36 true FB (AK (0+AE (AA AB (ic (AF left - 0) - 1))) left),.list true EB u00,.i 2,.zs,.i (Pt.p0 (Bx.low (D7 (AI left (0+AE (AA AB (ic (AF left - 0) - 1))) default)))),.i (Pt.p1 (Bx.low (D7 (AI left (0+AE (AA AB (ic (AF left - 0) - 1))) default)))),.i (Pt.p2 (Bx.low (D7 (AI left (0+AE (AA AB (ic (AF left - 0) - 1))) default)))),.i (Pt.p3 (Bx.low (D7 (AI left (0+AE (AA AB (ic (AF left - 0) - 1))) default)))),.i (Sp.hi (Bx.s4 (D7 (AI left (0+AE (AA AB (ic (AF left - 0) - 1))) default)))),.i 0,.i (AA AB (sp+1))])])) (cond (EX m) (cond (!Option.isSome (E1 m q (D7 (AI left (0+AE (AA AB (ic (AF left - 0) - 1))) default)))) (some ((.bool true),[(F3 m q [.vec 36 true FB (AK (0+AE (AA AB (ic (AF left - 0) - 1))) left),.list true EB u00,.i 3,.zs,.i 0,.i 0,.i 0,.i 0,.i 0,.i 0,.i (AA AB (sp+1))])])) (cond (H9 (KC (E1 m q (D7 (AI left (0+AE (AA AB (ic (AF left - 0) - 1))) default))))) (cond (decide ((0+AE (AA AB (ic (AF left - 0) - 1))+2)*80≤EE)) none none) none)) none))) none) none))):=by kernel_rfl
theorem zeQ (N:Nat) (m:Md) (q:Qy) (k w0 w1 w2 w3 tw vs sp:Int):DZ (iC N) eD [.tmp 2] [[.bool]] [.bor (F3 m q [.zs,.zs,.i k,.zs,.i w0,.i w1,.i w2,.i w3,.i tw,.i vs,.i sp])]=(cond (k != 0) (some ((.bool false),[(F3 m q [.zs,.zs,.i k,.zs,.i w0,.i w1,.i w2,.i w3,.i tw,.i vs,.i sp])])) (cond (decide (sp≥Qy.bu q)) (some ((.bool false),[(F3 m q [.zs,.zs,.i k,.zs,.i w0,.i w1,.i w2,.i w3,.i tw,.i vs,.i sp])])) none)):=by kernel_rfl
open Go Go.Proofs Go.RowKit Go.Sort Go.Lib
theorem zi0:(PR.info? 127).map (fun i=>(i.zero,i.size,i.bytes))=some (some (.agg #[.bool false,.int .i64 0,.int .i64 0]),3,24):=by kernel_rfl
set_option maxHeartbeats 4000000 in
theorem Wa (b:Addr) (n c:Nat) (news:List Value) (w:World) (hl:news.length=n*3) (hn:n≤maxLen) (hbig:n*24≤140737488355328)
  (hc:∀ j u,news[j]?=some u→w.cell? (b.add j)=some u) (h1:∀ u∈news,u.oneCell'=true) :
  Calls Tryz.prog 125 #[.slice (some b) n c] w fun e w'=>∃ v',e = .returned v'∧w'.ownsRow w.heap.size 127 3 v' n news∧Below w.heap.size w w':=by
 obtain ⟨i0,hi,hz0,hz1,hz2⟩:∃ i,PR.info? 127=some i∧i.zero=some (.agg #[.bool false,.int .i64 0,.int .i64 0])∧i.size=3∧i.bytes=24:=by
  have h:=zi0;rw [Option.map_eq_some_iff] at h;obtain ⟨i,hi,he⟩:=h;simp only [Prod.mk.injEq] at he;exact ⟨i,hi,he⟩
 have qS:∀ (w:World) (a:Option Addr) (n c n' c':Nat),(binOp .eql 51 (.slice a n c) (.slice none n' c')).run Tryz.prog w = .ok (.bool a.isNone) w:=fun w a n c n' c'=>Lib.run_eql_slice_nil w _ _ a n c n' c' Tryz.underlying51
 have A:Aside (∀ j u,news[j]?=some u→w.cell? (b.add j)=some u):=hc;clear hc
 go_enter Tryz.func125,Tryz.ntmps125
 go_wp2_with (at_builtin; refine wpList_append_own _ rfl _ _ 51 rfl w.heap.size 127 i0 (.agg #[.bool false,.int .i64 0,.int .i64 0]) 3 24 Tryz.underlying51 hi hz0 hz1 hz2 rfl (by decide) _ _ _ rfl (World.ownsRow_made w #[] 0 (Nat.le_refl _) (Nat.zero_le _) (by simp)) b n c news rfl ?qc1 ?qc2 ?qc3 ?qc4 ?qc5 ?qc6 ?_)
 case qc1=>exact hl
 case qc2=>
  intro j u hj;exact Lib.cell?_alloc_some _ (A.out j u hj)
 case qc3=>exact h1
 case qc4=>rw [Nat.zero_add]; exact hn
 case qc5=>rw [Nat.zero_add]; exact hbig
 case qc6=>simp
 intro v' w1 hown hgrow hnil
 go_wp2
 go_ret
 refine ⟨v',rfl,by simpa using hown,?_⟩;exact ((Below.refl _ w).alloc (Nat.le_refl _) _).grown hgrow (by simp) (by intro k hk; simp [Value.ownBlock] at hk; omega)
set_option maxHeartbeats 1000000 in
theorem Wb (n c:Nat) (w:World):Calls Tryz.prog 125 #[.slice none n c] w fun e w'=>e = .returned (.slice none 0 0)∧w'=w:=by
 have qS:∀ (w:World) (a:Option Addr) (n c n' c':Nat),(binOp .eql 51 (.slice a n c) (.slice none n' c')).run Tryz.prog w = .ok (.bool a.isNone) w:=fun w a n c n' c'=>Lib.run_eql_slice_nil w _ _ a n c n' c' Tryz.underlying51
 go_enter Tryz.func125,Tryz.ntmps125
 go_wp2
 go_ret
 exact ⟨rfl,rfl⟩
def PT (y:IV):Nat→Value
 | 0=>.bool (GZ y)
 | 1=>.int .i64 (FD y)
 | _=>.int .i64 (FR y)
def QR (l:LI):List Value:=l.flatMap fun y=>[PT y 0,PT y 1,PT y 2]
theorem uF:∀ l:LI,(QR l).length=l.length*3
 | []=>rfl
 | y :: r=>by
  have:=uF r
  unfold QR at this ⊢;rw [vao,AT,this,AM];simp;omega
theorem l9:∀ (l:LI) (j:Nat) (u:Value),(QR l)[j]?=some u→∃ i y k,j=i*3+k∧k < 3∧l[i]?=some y∧u=PT y k
 | [],j,u,h=>by simp [QR] at h
 | y :: r,j,u,h=>by
  have e:QR (y :: r)=[PT y 0,PT y 1,PT y 2]++QR r:=by unfold QR; rw [vao]
  rw [e] at h
  match j,h with
  | 0,h=>exact ⟨0,y,0,rfl,by omega,rfl,by simpa using h.symm⟩
  | 1,h=>exact ⟨0,y,1,rfl,by omega,rfl,by simpa using h.symm⟩
  | 2,h=>exact ⟨0,y,2,rfl,by omega,rfl,by simpa using h.symm⟩
  | j+3,h=>
   obtain ⟨i,z,k,rfl,hk,hi,hu⟩:=l9 r j u (by simpa using h);exact ⟨i+1,z,k,by omega,hk,by simpa using hi,hu⟩
theorem ziN (l:LI) (i:Nat) (y:IV) (hy:l[i]?=some y) (k:Nat) (hk:k < 3):(QR l)[i*3+k]?=some (PT y k):=by
 have hi:i < l.length:=(BR.1 hy).1;have hlt:i*3+k < (QR l).length:=by rw [uF]; omega
 obtain ⟨i',y',k',h1,h2,h3,h4⟩:=l9 l (i*3+k) _ (A9 hlt);obtain rfl:i'=i:=by omega
 obtain rfl:k'=k:=by omega
 rw [hy] at h3;simp only [AC] at h3;subst h3;rw [A9 hlt,h4]
theorem ziq:DX PR B0 125 iH:=by
 intro w X γ vs xs r out hsp hg hx hR hV;unfold iH at hsp;simp only at hsp;split at hsp
 ·rename_i l;cases hc:B6 l.length 100000 with
  | false=>rw [hc] at hsp; simp [R.get] at hsp
  | true=>
   rw [hc] at hsp;have hc:=AP hc;simp only [R.get,AC,AU] at hsp;obtain ⟨rfl,rfl⟩:=hsp;obtain ⟨x0,rfl⟩:∃ x0,xs=[x0]:=by
    have:=hV.length
    simp at this
    match xs,this with
    | [a],_=>exact ⟨a,rfl⟩
   simp only [A0,CA,ER,VRels,VRel,B7] at hV;simp only [Kd.Rel,IV.toList] at hV;obtain ⟨p,c,rfl,hc1,hc2,hc3,hcell⟩:=hV;have key:∀ i y,l[i]?=some y→∃ b o,p=some ⟨b,o,none⟩∧(∀ k,k < 3→w.cell? ⟨b,o+i*3+k,none⟩=some (PT y k))∧(AB.min≤FD y∧FD y≤AB.max)∧(AB.min≤FR y∧FR y≤AB.max):=fun i y hy=>by
    obtain ⟨b,o,rfl,_,_,hr⟩:=hcell i y hy;simp only [Kd.RelAll,B7,AM,A7,BI,DA] at hr;obtain ⟨⟨u0,a0,b0⟩,⟨u1,a1,b1⟩,⟨u2,a2,b2⟩⟩:=hr;simp only [Kd.Rel,GB] at b0 b1 b2;refine ⟨b,o,rfl,fun k hk=>?_,b1.2,b2.2⟩
    match k,hk with
    | 0,_=>rw [b0] at a0; exact a0
    | 1,_=>rw [b1.1] at a1; exact a1
    | 2,_=>rw [b2.1] at a2; exact a2
   have hel:∀ (w':World) (O:Nat→Prop) i y,l[i]?=some y→Kd.RelAll w' O EB (GB true y) 0 (fun j u=>(QR l)[i*EB.length+j]?=some u):=fun w' O i y hy=>by
    obtain ⟨_,_,_,_,k1,k2⟩:=key i y hy;simp only [Kd.RelAll,AM,A7,BI,DA,B7];have g:=ziN l i y hy;refine ⟨⟨_,g 0 (by omega),?_⟩,⟨_,g 1 (by omega),?_⟩,⟨_,g 2 (by omega),?_⟩⟩
    ·simp only [Kd.Rel,GB,PT,GZ]
    ·simp only [Kd.Rel,GB,PT,FD]; exact ⟨trivial,k1⟩
    ·simp only [Kd.Rel,GB,PT,FR]; exact ⟨trivial,k2⟩
   refine Kr hR rfl (by decide) (by decide) hc3 (Does.of_calls Tryz.func125 (by kernel_rfl) (by kernel_rfl) ?_);cases p with
   | none=>
    have h0:l=[]:=by
     cases l with
     | nil=>rfl
     | cons y r=>
      obtain ⟨b,o,hp,_⟩:=key 0 y rfl;cases hp
    subst h0;refine (Wb _ c w).mono ?_;rintro e w' ⟨rfl,rfl⟩;exact ⟨_,[],rfl,Keep.refl _ _,⟨rfl,.inl ⟨rfl,rfl⟩⟩,hel _⟩
   | some a=>
    refine (Wa a l.length c (QR l) w (uF l) (by unfold maxLen; omega) (by omega) (fun j u hj=>?_) (fun u hu=>?_)).mono ?_
    ·obtain ⟨i,y,k,rfl,hk,hi,rfl⟩:=l9 l j u hj;obtain ⟨b,o,hp,hu,_⟩:=key i y hi;simp only [AC] at hp;subst hp;rw [Addr.add_lit,← vaT];exact hu k hk
    ·obtain ⟨j,hj⟩:=List.getElem?_of_mem hu;obtain ⟨i,y,k,_,hk,_,rfl⟩:=l9 l j u hj
     match k,hk with
     | 0,_=>rfl
     | 1,_=>rfl
     | 2,_=>rfl
    ·rintro e w' ⟨v',rfl,hown,hw⟩;exact ⟨v',_,rfl,Keep.below hw,hown,hel _⟩
 ·simp [R.get] at hsp
open Go Go.Proofs
set_option maxRecDepth 100000
theorem zdd {l:List V} {m:Md} (h:mdOf? l=some m):l=m.cs:=by
 unfold mdOf? at h;split at h
 ·simp only [AC] at h;subst h;rfl
 ·cases h
theorem zgt {l:List V} {q:Qy} (h:qyOf? l=some q):l=q.cs:=by
 unfold qyOf? at h;split at h
 ·simp only [AC] at h;subst h;rfl
 ·cases h
theorem zhf {l r:List V} {m:Md} {q:Qy} (h:seOf? l=some (m,q,r)):l=F3 m q r:=by
 unfold seOf? at h;split at h
 ·rename_i m' q' h1 h2;simp only [AC,AU] at h;obtain ⟨rfl,rfl,rfl⟩:=h;unfold F3;rw [← zdd h1,← zgt h2,List.take_append_drop,List.take_append_drop]
 ·cases h
def Me (t:Nat) (s:Sr):Prop:=t≤3∧(t=3→s.left=[])∧(t=1∨t=3→s.proof=[])∧(t≠2→s.v.proof=[])
theorem ziM {r:List V} {t:Nat} {s:Sr} (h:srT? r=some (t,s)) (m:Md) (q:Qy):F3 m q r=PS t m q s∧Me t s:=by
 unfold srT? at h;split at h
 case h_5=>cases h
 all_goals
  simp only [AC,AU] at h;obtain ⟨rfl,rfl⟩:=h;refine ⟨rfl,by omega,?_,?_,?_⟩ <;> intro h <;> first | rfl | (exfalso; omega)
theorem Qb {v:V} {k:Nat→Md→Qy→Sr→R} {z:V × List (List V)} (h:(mU v k).get=some z):∃ t m q s,v = .bor (PS t m q s)∧Me t s∧(k t m q s).get=some z:=by
 unfold mU at h;split at h
 ·rename_i l;split at h
  ·rename_i m q r hl;split at h
   ·rename_i t s hr;obtain ⟨e,hw⟩:=ziM hr m q;exact ⟨t,m,q,s,by rw [zhf hl,e],hw,h⟩
   ·simp [R.get] at h
  ·simp [R.get] at h
 ·simp [R.get] at h
theorem zin:DX PR B0 74 dN:=by
 refine D6 [(65,MQ),(66,WU)] [] dN [[.list false []]] Tryz.func74 zb1 ⟨aO,Kx,trivial⟩ ?_;intro vs r hwf h;unfold dN at h;split at h
 ·rename_i m q;replace h:=KE h;obtain ⟨m,rfl,h⟩:=h;replace h:=KS h;obtain ⟨q,rfl,h⟩:=h;refine ⟨0,(zeN 0 m q).trans ?_⟩;cases hr:E8 m q with
  | true=>rw [hr,R.get_br,DI,R.get_ok] at h; exact h
  | false=>rw [hr,R.get_br,DJ,R.get_ok] at h; exact h
 ·simp [R.get] at h
theorem zip:DX PR B0 76 dP:=by
 refine D6 [(125,iH)] [] dP [[.z,.list true [.bool,.z,.z],.z,.z,.z,.z,.z,.z]] Tryz.func76 zb4 ⟨ziq,trivial⟩ ?_;intro vs r hwf h;unfold dP at h;split at h
 ·replace h:=Qb h;obtain ⟨t,m,q,s,rfl,hw,h⟩:=h;cases hg:B6 s.v.proof.length 100000 with
  | false=>rw [hg] at h; simp [R.get] at h
  | true=>
   rw [hg,R.get_br,DI,R.get_ok] at h;refine ⟨0,?_⟩;rw [← h];obtain ⟨left,proof,⟨k,vp,a,b,c,d,tw,vs⟩,sp⟩:=s;replace hg:B6 vp.length 100000=true:=hg
   match t,hw with
   | 0,hw=>
    obtain rfl:vp=[]:=hw.2.2.2 (by omega);refine (zeR 0 m q left proof k a b c d tw vs sp).trans ?_;rw [BO,BO];unfold GQ;cases (k==0) <;> rfl
   | 1,hw=>
    obtain rfl:vp=[]:=hw.2.2.2 (by omega);refine (zeS 0 m q left k a b c d tw vs sp).trans ?_;rw [BO];unfold GQ;cases (k==0) <;> rfl
   | 2,_=>
    refine (zeT 0 m q left proof vp k a b c d tw vs sp).trans ?_;rw [BO,hg,DI,DI,B2,BO];unfold GQ;cases (k==0) <;> rfl
   | 3,hw=>
    obtain rfl:vp=[]:=hw.2.2.2 (by omega);refine (zeU 0 m q k a b c d tw vs sp).trans ?_;unfold GQ;cases (k==0) <;> rfl
   | t+4,hw=>exact absurd hw.1 (by omega)
 ·simp [R.get] at h
theorem Lr (m:Md) (q:Qy) (b:Bx):∀ (d i:Nat),i+d=5→(LR m q b d i).isSome=true→H9 (KC (LR m q b d i))=true
 | 0,i,_,h=>by rw [LR] at h; cases h
 | d+1,i,hd,h=>by
  rw [LR] at h ⊢;cases hc:decide ((FG m q b i).length > 0) with
  | true=>
   rw [DI];show H9 (i:Int)=true;unfold H9;rw [AD (show (0:Int)≤(i:Int) by omega),AD (show (i:Int) < 5 by omega)];rfl
  | false=>
   rw [hc,DJ] at h;rw [DJ];exact Lr m q b d (i+1) (by omega) h
theorem zio:DX PR B0 75 dO:=by
 refine D6 [(111,P0),(122,cT),(123,cU),(124,cV),(70,WT)] [] dO [[.bool]] Tryz.func75 zb3 ⟨lU,zhZ,zh0,zh1,Kw,trivial⟩ ?_;intro vs r hwf h;unfold dO at h;split at h
 ·replace h:=Qb h;obtain ⟨t,m,q,s,rfl,hw,h⟩:=h;refine ⟨0,?_⟩;obtain ⟨left,proof,⟨k,vp,a,b,c,d,tw,vs⟩,sp⟩:=s;cases ho:JU q ⟨left,proof,⟨k,vp,a,b,c,d,tw,vs⟩,sp⟩ with
  | true=>
   rw [ho,R.get_br,DI,R.get_ok] at h;rw [← h];have hk:(k != 0)=true∨(k != 0)=false∧decide (sp≥q.bu)=true:=by
    unfold JU at ho;have e:(k != 0)=!(k==0):=rfl;rw [e];cases hk:(k==0) with
    | false=>exact .inl rfl
    | true=>
     replace ho:(!(k==0)||decide (sp≥q.bu))=true:=ho;rw [hk,A2,vaw] at ho;exact .inr ⟨rfl,ho⟩
   match t,hw with
   | 0,hw=>
    refine (Ev 0 m q left proof k a b c d tw vs sp).trans ?_;rcases hk with hk | ⟨hk,hs⟩
    ·rw [hk,DI,BO,BO]; rfl
    ·rw [hk,DJ,hs,DI,BO,BO]; rfl
   | 1,hw=>
    refine (Ew 0 m q left k a b c d tw vs sp).trans ?_;rcases hk with hk | ⟨hk,hs⟩
    ·rw [hk,DI,BO]; rfl
    ·rw [hk,DJ,hs,DI,BO]; rfl
   | 2,hw=>
    refine (zeP 0 m q left proof vp k a b c d tw vs sp).trans ?_;rcases hk with hk | ⟨hk,hs⟩
    ·rw [hk,DI,BO]; rfl
    ·rw [hk,DJ,hs,DI,BO]; rfl
   | 3,hw=>
    refine (zeQ 0 m q k a b c d tw vs sp).trans ?_;rcases hk with hk | ⟨hk,hs⟩
    ·rw [hk,DI]; rfl
    ·rw [hk,DJ,hs,DI]; rfl
   | t+4,hw=>exact absurd hw.1 (by omega)
  | false=>
   rw [ho,R.get_br,DJ] at h;unfold JU at ho;replace ho:(!(k==0)||decide (sp≥q.bu))=false:=ho;rw [vaq] at ho;have hk:(k != 0)=false:=ho.1;have hsp:decide (sp≥q.bu)=false:=ho.2;cases hg:(B6 t 1&&(E8 m q&&(decide (0≤sp)&&(BS 0 left.length&&(B6 left.length 100000&&B6 proof.length 100000))))) with
   | false=>
    replace h:(R.br (B6 t 1&&(E8 m q&&(decide (0≤sp)&&(BS 0 left.length&&(B6 left.length 100000&&B6 proof.length 100000))))) _ R.no).get=some r:=h;rw [hg] at h;simp [R.get] at h
   | true=>
    replace h:(R.br (B6 t 1&&(E8 m q&&(decide (0≤sp)&&(BS 0 left.length&&(B6 left.length 100000&&B6 proof.length 100000))))) _ R.no).get=some r:=h;rw [hg,R.get_br,DI] at h;have hst:some (.bool true,[PS (mF m q t ⟨left,proof,⟨k,vp,a,b,c,d,tw,vs⟩,sp⟩) m q (GM m q ⟨left,proof,⟨k,vp,a,b,c,d,tw,vs⟩,sp⟩)])=some r:=by
     rw [← h];unfold mF;simp only [R.get_br,R.get_ok];cases GW m q (D0 left) with
     | true=>cases (ic (left.length - 1)==0) <;> rfl
     | false=>
      cases HJ m q (D0 left).low (D0 left).s4.hi with
      | true=>rfl
      | false=>cases (E1 m q (D0 left)).isSome <;> rfl
    rw [← hst];simp only [AH] at hg;obtain ⟨ht,hr,h0,hl,hl5,hp5⟩:=hg;obtain ⟨hm,_,⟨_,hbu⟩,_,_⟩:=X7 hr;have h0:=A1 h0;have hs1:=BH hsp;have hl:0 < left.length:=AP hl;have hl5:=AP hl5;have hp5:=AP hp5;have esp:AA AB (sp+1)=sp+1:=EL (by omega) (by omega);have etop:AA AB (ic (left.length - 0) - 1)=((left.length - 1:Nat):Int):=by
     rw [EL (by simp only [ic]; omega) (by simp only [ic]; omega)];simp only [ic];omega
    have ed:(decide (0≤((left.length - 1:Nat):Int))&&decide (((left.length - 1:Nat):Int) < ic (left.length - 0)))=true:=by
     rw [AD (by omega),AD (by simp only [ic]; omega)];rfl
    have ee:(decide (0≤((left.length - 1:Nat):Int))&&decide (((left.length - 1:Nat):Int)≤ic (left.length - 0)))=true:=by
     rw [AD (by omega),AD (by simp only [ic]; omega)];rfl
    have epop:left.take (left.length - 1+2)=left.take (left.length - 1+2):=rfl;have hlen:(F8 left).length=left.length - 1:=by unfold F8; rw [BB]; omega
    have htk:∀ (x y:IV),AK (left.length - 1+2) (AK (left.length - 1) left++[x,y])=F8 left++[x,y]:=fun x y=>CV (by rw [AT]; unfold F8 at hlen; rw [hlen]; simp)
    have hb80:decide ((left.length - 1+2)*80≤EE)=true:=AD (by unfold EE; omega);have hin:=Lr m q (D0 left) 5 0 rfl;replace hin:(E1 m q (D0 left)).isSome=true→H9 (KC (E1 m q (D0 left)))=true:=hin
    match t,ht,hw with
    | 0,_,_=>
     have hb24:decide ((proof.length+1)*24≤EE)=true:=AD (by unfold EE; omega);have htp:∀ x:IV,AK (proof.length+1) (proof++[x])=proof++[x]:=fun x=>CV (by rw [AT]; simp)
     refine (Ev 0 m q left proof k a b c d tw vs sp).trans ?_;rw [hk,DJ,hsp,DJ,etop,ed,DI,ee,DI,esp,BF];simp only [BI,vaD,BO];rw [hb24,hb80,hm];unfold GM mF;show cond (GW m q (D0 left)) _ (cond (HJ m q (D0 left).low (D0 left).s4.hi) _ _)=_;cases GW m q (D0 left) with
     | true=>
      simp only [htp,B2];rw [DI,DI];show cond (ic (left.length - 1)==0) _ _=_;cases (ic (left.length - 1)==0) <;> rfl
     | false=>
      rw [DJ];cases HJ m q (D0 left).low (D0 left).s4.hi with
      | true=>rfl
      | false=>
       rw [DJ,DI];show cond (!(E1 m q (D0 left)).isSome) _ (cond (H9 (KC (E1 m q (D0 left)))) _ _)=_;cases hs:(E1 m q (D0 left)).isSome with
       | false=>rfl
       | true=>
        rw [A2,DJ,hin hs,DI,DI,DI];simp only [htp,htk];rfl
    | 1,_,hw=>
     obtain rfl:proof=[]:=hw.2.2.1 (.inl rfl);refine (Ew 0 m q left k a b c d tw vs sp).trans ?_;rw [hk,DJ,hsp,DJ,etop,ed,DI,ee,DI,esp,BF];simp only [BI,vaD];rw [hb80,hm];unfold GM mF;show cond (GW m q (D0 left)) _ (cond (HJ m q (D0 left).low (D0 left).s4.hi) _ _)=_;cases GW m q (D0 left) with
     | true=>
      rw [DI];show cond (ic (left.length - 1)==0) _ _=_;cases (ic (left.length - 1)==0) <;> rfl
     | false=>
      rw [DJ];cases HJ m q (D0 left).low (D0 left).s4.hi with
      | true=>rfl
      | false=>
       rw [DJ,DI];show cond (!(E1 m q (D0 left)).isSome) _ (cond (H9 (KC (E1 m q (D0 left)))) _ _)=_;cases hs:(E1 m q (D0 left)).isSome with
       | false=>rfl
       | true=>
        rw [A2,DJ,hin hs,DI,DI];simp only [htk];rfl
    | t+2,ht,_=>exact absurd (AP ht) (by omega)
 ·simp [R.get] at h
open Go Go.Proofs
def UF (N:Nat):Env:=D4 [(74,dN),(75,dO),(76,dP)] [(2,⟨[4,5],[4,8,500,501],[⟨.cell 8 23,500,36,true,FB⟩,⟨.cell 8 24,501,127,true,EB⟩]⟩)] 13 N
open Go Go.Proofs
set_option maxRecDepth 100000
abbrev fH:KP:=⟨[4,5],[4,8,500,501],[⟨.cell 8 23,500,36,true,FB⟩,⟨.cell 8 24,501,127,true,EB⟩]⟩
def zg1 (sh:Bool) (s:Sr):List V:=match sh with
 | false=>.row 500 0 s.left.length :: .row 501 0 s.proof.length :: aU s.v .zs s.spent
 | true=>.row 500 0 s.left.length :: jU s.proof :: aU s.v (jU s.v.proof) s.spent
def zg2 (sh:Bool) (s:Sr):Option Ob:=match sh with
 | false=>some (.row true 127 true EB s.proof)
 | true=>none
def M7 (m:Md) (q:Qy) (sh:Bool) (s:Sr):St:=
 ⟨[(4,.ptr 4 0 0),(5,.ptr 8 0 0)],[(4,some (.box [.int .i64 0,.zs,.int .i64 0,.int .i64 0,.int .i64 0,.int .i64 0,.int .i64 0,.int .i64 0])),(8,some (.box (F3 m q (zg1 sh s)))),(500,some (.row true 36 true FB s.left)),(501,zg2 sh s)]⟩
def MH (s:Sr):Sr:=⟨s.left.take s.left.length,s.proof.take s.proof.length,⟨s.v.kind,[],s.v.w0,s.v.w1,s.v.w2,s.v.w3,s.v.twin,s.v.spent⟩,s.spent⟩
def g6 (s:Sr):Sr:=⟨s.left.take s.left.length,s.proof,s.v,s.spent⟩
theorem g7 {s:Sr} (h:s.v.proof=[]):MH s=s:=by
 obtain ⟨left,proof,⟨k,vp,a,b,c,d,tw,vs⟩,sp⟩:=s;obtain rfl:vp=[]:=h;unfold MH;simp only [BO]
theorem On (s:Sr):g6 s=s:=by
 obtain ⟨left,proof,v,sp⟩:=s;unfold g6;simp only [BO]
def rA (m:Md) (q:Qy) (s:Sr):Bool:=E8 m q&&(decide (0≤s.spent)&&(BS 0 s.left.length&&(B6 s.left.length 100000&&B6 s.proof.length 100000)))
noncomputable abbrev fE (N:Nat):Out→St→DN:=DQ 0 (DS (UF N) (DK U0 [1,1,1]) (DT (UF N) none [.cell 4 55] [[.z,.list true EB,.z,.z,.z,.z,.z,.z]]))
theorem zeO (N:Nat) (m:Md) (q:Qy):DZ (UF N) U0 [.cell 4 55] [[.z,.list true [.bool,.z,.z],.z,.z,.z,.z,.z,.z]] [m.V,q.V] =
 cond (E8 m q) (DY (UF N) (DK U0 [1,1,0,0,0]) fH N (M7 m q false ⟨[(GE q).I],[],Vd.none,0⟩) (fE N))
 (DY (UF N) (DK U0 [1,1,0,0,0]) fH N (M7 m q false ⟨[],[],⟨4,[],0,0,0,0,0,0⟩,0⟩) (fE N)):=by kernel_rfl
theorem uI (N:Nat) (m:Md) (q:Qy) (s:Sr) (again:St→DN) (k:Out→St→DN):E2 (UF N) (DK U0 [1,1,0,0,0]) (M7 m q false s) (EQ again fH k) =
 cond (JU q (MH s)) (k (.exit 0) (M7 m q false (MH s)))
 (cond (rA m q (MH s))
 (cond (GW m q (D0 (MH s).left)) (cond (ic ((MH s).left.length - 1)==0) (again (M7 m q true (GM m q (MH s)))) (again (M7 m q false (GM m q (MH s)))))
 (cond (HJ m q (D0 (MH s).left).low (D0 (MH s).left).s4.hi) (again (M7 m q false (GM m q (MH s))))
 (cond (E1 m q (D0 (MH s).left)).isSome (again (M7 m q false (GM m q (MH s)))) (again (M7 m q false (GM m q (MH s))))))) none):=by kernel_rfl
theorem ziY (N:Nat) (m:Md) (q:Qy) (s:Sr) (again:St→DN) (k:Out→St→DN):E2 (UF N) (DK U0 [1,1,0,0,0]) (M7 m q true s) (EQ again fH k) =
 cond (JU q (g6 s)) (k (.exit 0) (M7 m q true (g6 s))) none:=by kernel_rfl
theorem Bj (N:Nat) (m:Md) (q:Qy) (s:Sr):fE N (.exit 0) (M7 m q false s)=some ((GQ (MH s)).V,[]):=by kernel_rfl
theorem Zp (N:Nat) (m:Md) (q:Qy) (s:Sr):fE N (.exit 0) (M7 m q true s)=cond (B6 s.v.proof.length 100000) (some ((GQ (g6 s)).V,[])) none:=by kernel_rfl
structure SrInv (q:Qy) (sh:Bool) (s:Sr):Prop where
 sp0:0≤s.spent
 sp1:s.spent≤max 0 q.bu
 left:(s.left.length:Int)≤s.spent+1
 proof:(s.proof.length:Int)≤s.spent
 vp:(s.v.proof.length:Int)≤s.spent
 own:sh=false→s.v.proof=[]
 open_:s.v.kind=0→0 < s.left.length
 shut:sh=true→s.v.kind≠0
theorem zf5 (l:LI):(F8 l).length=l.length - 1:=by
 unfold F8;rw [BB];omega
theorem SrInv.step {m:Md} {q:Qy} {s:Sr} (h:SrInv q false s) (ho:JU q s=false) :
  SrInv q (GW m q (D0 s.left)&&(ic (s.left.length - 1)==0)) (GM m q s)∧(GM m q s).spent=s.spent+1:=by
 unfold JU at ho;rw [vaq] at ho;have hk:s.v.kind=0:=by simpa using ho.1
 have hs:=BH ho.2;have h1:=h.sp0;have h2:=h.left;have h3:=h.proof;have h4:=h.vp;have h5:=h.own rfl;have h6:=h.open_ hk;have hp:=zf5 s.left;have h5':s.v.proof.length=0:=by rw [h5]; rfl
 unfold GM;cases GW m q (D0 s.left) with
 | true=>
  rw [DI];cases he:(ic (s.left.length - 1)==0) with
  | true=>
   refine ⟨⟨?_,?_,?_,?_,?_,fun h=>(by cases h),fun h=>(by cases h),fun _=>(show (1:Int)≠0 by decide)⟩,rfl⟩ <;> simp only [BJ,AT,C3] <;> omega
  | false=>
   have hne:s.left.length - 1≠0:=by simpa [ic] using he
   refine ⟨⟨?_,?_,?_,?_,?_,fun _=>h5,fun _=>?_,fun h=>(by cases h)⟩,rfl⟩ <;> simp only [BC,AT,C3] <;> omega
 | false=>
  rw [DJ,BM];cases HJ m q (D0 s.left).low (D0 s.left).s4.hi with
  | true=>refine ⟨⟨?_,?_,?_,?_,?_,fun _=>rfl,fun h=>(by cases h),fun h=>(by cases h)⟩,rfl⟩ <;> simp only [BJ,A7] <;> omega
  | false=>
   rw [DJ];cases (E1 m q (D0 s.left)).isSome with
   | true=>refine ⟨⟨?_,?_,?_,?_,?_,fun _=>h5,fun _=>?_,fun h=>(by cases h)⟩,rfl⟩ <;> simp only [BJ,AT,AM,A7] <;> omega
   | false=>refine ⟨⟨?_,?_,?_,?_,?_,fun _=>rfl,fun h=>(by cases h),fun h=>(by cases h)⟩,rfl⟩ <;> simp only [BC,A7] <;> omega
theorem zft {m:Md} {q:Qy} {s:Sr} (hr:E8 m q=true) (h:SrInv q false s) (hk:s.v.kind=0):rA m q s=true:=by
 have hb:=(X7 hr).2.2.1;have h1:=h.sp0;have h2:=h.left;have h3:=h.proof;have h6:=h.open_ hk;have h7:=h.sp1;unfold rA;rw [hr,AD h1,C7 (show s.left.length≤100000 by omega),C7 (show s.proof.length≤100000 by omega)]
 have:BS 0 s.left.length=true:=C7 h6
 rw [this];rfl
theorem Jc (N:Nat) (m:Md) (q:Qy) (hr:E8 m q=true) (K:Out→St→DN):∀ (d n:Nat) (sh:Bool) (s:Sr),SrInv q sh s→q.bu < s.spent+d→d < n →
  ∃ sh',SrInv q sh' (LQ m q d s)∧DY (UF N) (DK U0 [1,1,0,0,0]) fH n (M7 m q sh s) K=K (.exit 0) (M7 m q sh' (LQ m q d s))
 | d,0,sh,s,_,_,h=>absurd h (by omega)
 | 0,n+1,sh,s,hi,hd,_=>by
  have h1:=hi.sp1;have h2:=hi.sp0;have h3:=(X7 hr).2.2.1;omega
 | d+1,n+1,sh,s,hi,hd,hn=>by
  rw [LQ];cases ho:JU q s with
  | true=>
   rw [DI];refine ⟨sh,hi,?_⟩;cases sh with
   | false=>rw [D5,uI,g7 (hi.own rfl),ho,DI]
   | true=>rw [D5,ziY,On,ho,DI]
  | false=>
   rw [DJ];cases sh with
   | true=>
    unfold JU at ho;rw [vaq] at ho
    have:=hi.shut rfl
    simp at ho;exact absurd ho.1 this
   | false=>
    obtain ⟨hi',hs'⟩:=hi.step (m:=m) ho;have hk:s.v.kind=0:=by
     unfold JU at ho;rw [vaq] at ho;simpa using ho.1
    obtain ⟨sh',hi2,hrun⟩:=Jc N m q hr K d n _ (GM m q s) hi' (by rw [hs']; omega) (by omega);refine ⟨sh',hi2,?_⟩;rw [← hrun,D5,uI,g7 (hi.own rfl),ho,DJ,zft hr hi hk,DI];cases GW m q (D0 s.left) with
    | true=>
     rw [DI,A6];cases (ic (s.left.length - 1)==0) <;> rfl
    | false=>
     rw [DJ,BM];cases HJ m q (D0 s.left).low (D0 s.left).s4.hi with
     | true=>rfl
     | false=>cases (E1 m q (D0 s.left)).isSome <;> rfl
theorem zdl {m:Md} {q:Qy} (hr:E8 m q=true):SrInv q false ⟨[(GE q).I],[],Vd.none,0⟩:=
 ⟨vab _,by have:=(X7 hr).2.2.1; show (0:Int)≤_; omega,by simp,by simp,by simp [Vd.none],fun _=>rfl,fun _=>by simp,fun h=>by cases h⟩
theorem tT:DX PR B0 35 SR:=by
 refine D6 [(74,dN),(75,dO),(76,dP)] [(2,⟨[4,5],[4,8,500,501],[⟨.cell 8 23,500,36,true,FB⟩,⟨.cell 8 24,501,127,true,EB⟩]⟩)] SR [[.z,.list true [.bool,.z,.z],.z,.z,.z,.z,.z,.z]] Tryz.func35 zb2 ⟨zin,zio,zip,trivial⟩ ?_;intro vs r hwf h;unfold SR at h;split at h
 ·rename_i m q;replace h:=KE h;obtain ⟨m,rfl,h⟩:=h;replace h:=KS h;obtain ⟨q,rfl,h⟩:=h;rw [R.get_ok] at h;refine ⟨70000,?_⟩;rw [← h];refine (zeO 70000 m q).trans ?_;unfold EC RS;cases hr:E8 m q with
  | true=>
   have hb:=(X7 hr).2.2.1;rw [DI,DI];obtain ⟨sh',hi,hrun⟩:=Jc 70000 m q hr (fE 70000) (q.bu.toNat+1) 70000 false _ (zdl hr) (by show q.bu < 0+_; omega) (by omega);rw [hrun];generalize LQ m q (q.bu.toNat+1) _=s at hi ⊢;cases sh' with
   | false=>rw [Bj,g7 (hi.own rfl)]
   | true=>
    have h1:=hi.vp;have h2:=hi.sp1;rw [Zp,On,C7 (show s.v.proof.length≤100000 by omega),DI]
  | false=>
   rw [DJ,DJ];have e:JU q ⟨[],[],⟨4,[],0,0,0,0,0,0⟩,0⟩=true:=rfl;rw [D5,uI,g7 rfl,e,DI,Bj,g7 rfl,LQ,e,DI]
 ·simp [R.get] at h
open Go
def zji:Md:=⟨1,1,3,0,0,[.agg [.int 0,.list [.int (IM false 0 0 5 1 2),.int (IM true 10 0 0 0 0),.int (IM true 20 0 0 0 0)]]]⟩
def cJ:DV
 | []=>.ok zji.V []
 | _=>.no
open Go
def XK (s:Sp):Bool:=decide (-2147483648≤s.lo)&&(decide (s.lo≤s.hi)&&decide (s.hi≤2147483647))
def F7 (b:Bx):Bool:=XK b.s0&&(XK b.s1&&(XK b.s2&&(XK b.s3&&XK b.s4)))
def cE:DV
 | [.list false [.int .u64] l,b]=>JL b fun b=>.br (G1 l 4&&F7 b) (.ok (.tup [.int .i64 (IF l b),.int .i64 (IE l b)]) []) .no
 | _=>.no
def cD:DV
 | [m,.int .i64 k,b]=>J1 m fun m=>JL b fun b=>.br (b.emp||F7 b) (.ok (.tup [.int .i64 (EA m k b),.int .i64 (D8 m k b)]) []) .no
 | _=>.no
def cF:DV
 | [m,q,b]=>J1 m fun m=>KF q fun q=>JL b fun b=>.br (E8 m q&&(b.emp||F7 b)) (.ok (.bool (GW m q b)) []) .no
 | _=>.no
def I2 (x:IV):Bool:=cond (GZ x) (FD x==0&&FR x==0) (decide (0≤FD x)&&decide (FD x≤4))
def dJ:DV
 | [.agg [.bool s,.int .i64 p,.int .i64 a]]=>.ok (.bool (I2 (NY s p a))) []
 | _=>.no
def LE (st:Int × Int) (x:IV):Option (Int × Int):=
 cond (st.1==0||!(I2 x)) none (cond (GZ x) (some (st.1 - 1,st.2)) (some (st.1+1,max st.2 (st.1+1))))
def JF:LI→Int × Int→Option (Int × Int)
 | [],st=>some st
 | x :: r,st=>match LE st x with
  | some st'=>JF r st'
  | none=>none
def JQ (l:LI):Int:=cond (decide (ic l.length > 65536)) 0 (match JF l (1,1) with
 | some st=>cond (!(st.1==0)||decide (st.2 > 200)) 0 st.2
 | none=>0)
def dI:DV
 | [.list true [.bool,.z,.z] l]=>.ok (.int .i64 (JQ l)) []
 | _=>.no
def dG:DV
 | [.list true [.bool,.z,.z] l]=>.ok (.bool (decide (JQ l > 0))) []
 | _=>.no
def LM (st:LI × LI) (x:IV):Option (List IV × LI):=
 cond (GZ x) (some (F8 st.1,st.2++[(D0 st.1).I]))
  (cond (decide (FR x < ((D0 st.1).g (FD x).toNat).lo)||decide (FR x≥((D0 st.1).g (FD x).toNat).hi)) none
   (some (F8 st.1++[((D0 st.1).cutH (FD x) (FR x)).I,((D0 st.1).cutL (FD x) (FR x)).I],st.2)))
def ID:LI→LI × LI→Option (List IV × LI)
 | [],st=>some st
 | x :: r,st=>match LM st x with
  | some st'=>ID r st'
  | none=>none
def I7 (b:Bx) (l:LI):Option LI:=cond (decide (JQ l > 0)) ((ID l ([b.I],[])).map (·.2)) none
def dH:DV
 | [b,.list true [.bool,.z,.z] l]=>JL b fun b=>.br (I7 b l).isSome (.ok (.tup [.list true FB ((I7 b l).getD []),.bool true]) []) (.ok (.tup [.list true FB [],.bool false]) [])
 | _=>.no
def Vd.p (v:Vd):Pt:=⟨v.w0,v.w1,v.w2,v.w3⟩
def IC (m:Md) (q:Qy) (v:Vd):Bool:=
 E8 m q&&cond (v.kind==1) (match I7 (GE q) v.proof with
   | some l=>l.all fun x=>GW m q (D7 x)
   | none=>false)
  (cond (v.kind==2) ((GE q).has v.p v.twin&&HJ m q v.p v.twin) false)
def P2:DV
 | [m,q,v]=>J1 m fun m=>KF q fun q=>vF v fun v=>.ok (.bool (IC m q v)) []
 | _=>.no
open Go Go.Proofs
def Sn (N:Nat):Env:=D4 [] [] 16 N
theorem zeF (N:Nat) (u01:Bool) (u00 s_At:Int):DZ (Sn N) yV [.tmp 2] [[.bool]] [.agg [.bool u01,.i u00,.i s_At]]=(cond u01 (some ((.bool (u01==true&&(u00==0&&(s_At==0&&true)))),[])) (cond (decide (u00≥0)) (some ((.bool (decide (u00≤4))),[])) (some ((.bool false),[])))):=by kernel_rfl
def Sm (N:Nat):Env:=D4 [(156,dI)] [] 6 N
theorem zeD (N:Nat) (l:LI):DZ (Sm N) yU [.tmp 2] [[.bool]] [.list true [.bool,.z,.z] l]=(some ((.bool (decide (JQ l > 0))),[])):=by kernel_rfl
def Qz (N:Nat):Env:=D4 [(114,WX)] [(2,⟨[2,3,6,9,10],[3],[]⟩)] 25 N
open Go Go.Proofs
def RA (N:Nat):Env:=D4 [(192,dJ)] [(5,⟨[2,3,4,10,11,12],[],[]⟩)] 40 N
abbrev SH (x2 x3 x4:Int) (l10:LI) (x11 x12:Int):St:=⟨[(2,(.i x2)),(3,(.i x3)),(4,(.i x4)),(10,(.list true EB l10)),(11,(.i x11)),(12,(.i x12))],[]⟩
theorem zeE (N:Nat) (l:LI):DZ (RA N) UZ [.tmp 2] [[.z]] [.list true [.bool,.z,.z] l]=(cond (decide (ic (AF l) > 65536)) (some ((.i 0),[])) (DY (RA N) (DK UZ [1,1,1,0,1,0,0]) ⟨[2,3,4,10,11,12],[],[]⟩ N (SH 0 1 1 l (ic (AF l)) 0) (DQ 0 (DS (RA N) (DK UZ [1,1,1,1]) (DT (RA N) none [.tmp 2] [[.z]]))))):=by kernel_rfl
theorem Ni (N:Nat) (x2 x3 x4:Int) (l10:LI) (x11 x12:Int) (again:St→DN) (k:Out→St→DN):E2 (RA N) (DK UZ [1,1,1,0,1,0,0]) (SH x2 x3 x4 l10 x11 x12) (EQ again ⟨[2,3,4,10,11,12],[],[]⟩ k)=(cond (decide (x12 < x11)) (cond (decide (0≤x12)&&decide (x12 < ic (AF l10))) (cond (x3==0) (k .ret (SH 0 x3 x4 l10 x11 x12)) (cond (!I2 (NY (IV.toBool (IV.cell (AI l10 (AE x12) default) 0)) (IV.toInt (IV.cell (AI l10 (AE x12) default) 1)) (IV.toInt (IV.cell (AI l10 (AE x12) default) 2)))) (k .ret (SH 0 x3 x4 l10 x11 x12)) (cond (IV.toBool (IV.cell (AI l10 (AE x12) default) 0)) (again (SH x2 (AA AB (x3 - 1)) x4 l10 x11 (AA AB (x12+1)))) (again (SH x2 (AA AB (x3+1)) (max x4 (AA AB (x3+1))) l10 x11 (AA AB (x12+1))))))) none) (k (.exit 0) (SH x2 x3 x4 l10 x11 x12))):=by kernel_rfl
theorem Zk (N:Nat) (x2 x3 x4:Int) (l10:LI) (x11 x12:Int):(DQ 0 (DS (RA N) (DK UZ [1,1,1,1]) (DT (RA N) none [.tmp 2] [[.z]]))) (.exit 0) (SH x2 x3 x4 l10 x11 x12)=(cond (x3 != 0) (some ((.i 0),[])) (cond (decide (x4 > 200)) (some ((.i 0),[])) (some ((.i x4),[])))):=by kernel_rfl
theorem Zl (N:Nat) (x2 x3 x4:Int) (l10:LI) (x11 x12:Int):(DQ 0 (DS (RA N) (DK UZ [1,1,1,1]) (DT (RA N) none [.tmp 2] [[.z]]))) .ret (SH x2 x3 x4 l10 x11 x12)=(some ((.i x2),[])):=by kernel_rfl
def G3 (N:Nat):Env:=D4 [(112,K9),(158,cE),(53,MO)] [(5,⟨[1,5,6,7,8,9,40,41,42],[5],[]⟩)] 66 N
abbrev ND (a2:Bx) (x1 x6 x7 x8 x9:Int) (l40:LI) (x41 x42:Int):St:=⟨[(1,(.i x1)),(5,(.ptr 5 0 0)),(6,(.i x6)),(7,(.i x7)),(8,(.i x8)),(9,(.i x9)),(40,(.list true MY l40)),(41,(.i x41)),(42,(.i x42))],[(5,(some (.box (Bx.cs a2))))]⟩
theorem zdR (N:Nat) (m:Md) (a1:Int) (a2:Bx):DZ (G3 N) IT [.tmp 6,.tmp 7] [[.z],[.z]] [(Md.V m),.i a1,(Bx.V a2)]=(cond (!EX m) (some ((.tup [.i 0,.i 0]),[])) (cond (decide (a1 < 0)) (some ((.tup [.i 0,.i 0]),[])) (cond (decide (a1≥Md.c m)) (some ((.tup [.i 0,.i 0]),[])) (cond (Bx.emp a2) (some ((.tup [.i 0,.i 0]),[])) (cond (decide (a1=ic 0)) (cond (decide (a1=ic 0)) (DY (G3 N) (DK IT [1,1,1,0,1,0,0]) ⟨[1,5,6,7,8,9,40,41,42],[5],[]⟩ N (ND a2 a1 0 0 (Md.b0 m) (Md.b0 m) (Md.ts m) (ic (AF (Md.ts m))) 0) (DQ 0 (DS (G3 N) (DK IT [1,1,1,1]) (DT (G3 N) none [.tmp 6,.tmp 7] [[.z],[.z]])))) (cond (decide (a1=ic 1)) (DY (G3 N) (DK IT [1,1,1,0,1,0,0]) ⟨[1,5,6,7,8,9,40,41,42],[5],[]⟩ N (ND a2 a1 0 0 (Md.b0 m) (Md.b1 m) (Md.ts m) (ic (AF (Md.ts m))) 0) (DQ 0 (DS (G3 N) (DK IT [1,1,1,1]) (DT (G3 N) none [.tmp 6,.tmp 7] [[.z],[.z]])))) (cond (decide (a1=ic 2)) (DY (G3 N) (DK IT [1,1,1,0,1,0,0]) ⟨[1,5,6,7,8,9,40,41,42],[5],[]⟩ N (ND a2 a1 0 0 (Md.b0 m) (Md.b2 m) (Md.ts m) (ic (AF (Md.ts m))) 0) (DQ 0 (DS (G3 N) (DK IT [1,1,1,1]) (DT (G3 N) none [.tmp 6,.tmp 7] [[.z],[.z]])))) none))) (cond (decide (a1=ic 1)) (cond (decide (a1=ic 0)) (DY (G3 N) (DK IT [1,1,1,0,1,0,0]) ⟨[1,5,6,7,8,9,40,41,42],[5],[]⟩ N (ND a2 a1 0 0 (Md.b1 m) (Md.b0 m) (Md.ts m) (ic (AF (Md.ts m))) 0) (DQ 0 (DS (G3 N) (DK IT [1,1,1,1]) (DT (G3 N) none [.tmp 6,.tmp 7] [[.z],[.z]])))) (cond (decide (a1=ic 1)) (DY (G3 N) (DK IT [1,1,1,0,1,0,0]) ⟨[1,5,6,7,8,9,40,41,42],[5],[]⟩ N (ND a2 a1 0 0 (Md.b1 m) (Md.b1 m) (Md.ts m) (ic (AF (Md.ts m))) 0) (DQ 0 (DS (G3 N) (DK IT [1,1,1,1]) (DT (G3 N) none [.tmp 6,.tmp 7] [[.z],[.z]])))) (cond (decide (a1=ic 2)) (DY (G3 N) (DK IT [1,1,1,0,1,0,0]) ⟨[1,5,6,7,8,9,40,41,42],[5],[]⟩ N (ND a2 a1 0 0 (Md.b1 m) (Md.b2 m) (Md.ts m) (ic (AF (Md.ts m))) 0) (DQ 0 (DS (G3 N) (DK IT [1,1,1,1]) (DT (G3 N) none [.tmp 6,.tmp 7] [[.z],[.z]])))) none))) (cond (decide (a1=ic 2)) (cond (decide (a1=ic 0)) (DY (G3 N) (DK IT [1,1,1,0,1,0,0]) ⟨[1,5,6,7,8,9,40,41,42],[5],[]⟩ N (ND a2 a1 0 0 (Md.b2 m) (Md.b0 m) (Md.ts m) (ic (AF (Md.ts m))) 0) (DQ 0 (DS (G3 N) (DK IT [1,1,1,1]) (DT (G3 N) none [.tmp 6,.tmp 7] [[.z],[.z]])))) (cond (decide (a1=ic 1)) (DY (G3 N) (DK IT [1,1,1,0,1,0,0]) ⟨[1,5,6,7,8,9,40,41,42],[5],[]⟩ N (ND a2 a1 0 0 (Md.b2 m) (Md.b1 m) (Md.ts m) (ic (AF (Md.ts m))) 0) (DQ 0 (DS (G3 N) (DK IT [1,1,1,1]) (DT (G3 N) none [.tmp 6,.tmp 7] [[.z],[.z]])))) (cond (decide (a1=ic 2)) (DY (G3 N) (DK IT [1,1,1,0,1,0,0]) ⟨[1,5,6,7,8,9,40,41,42],[5],[]⟩ N (ND a2 a1 0 0 (Md.b2 m) (Md.b2 m) (Md.ts m) (ic (AF (Md.ts m))) 0) (DQ 0 (DS (G3 N) (DK IT [1,1,1,1]) (DT (G3 N) none [.tmp 6,.tmp 7] [[.z],[.z]])))) none))) none))))))):=by kernel_rfl
theorem Mp (N:Nat) (a2:Bx) (x1 x6 x7 x8 x9:Int) (l40:LI) (x41 x42:Int) (again:St→DN) (k:Out→St→DN):E2 (G3 N) (DK IT [1,1,1,0,1,0,0]) (ND a2 x1 x6 x7 x8 x9 l40 x41 x42) (EQ again ⟨[1,5,6,7,8,9,40,41,42],[5],[]⟩ k)=(cond (decide (x42 < x41)) (cond (decide (0≤x42)&&decide (x42 < ic (AF l40))) (cond (IV.toInt (IV.cell (AI l40 (AE x42) default) 0)==x1) (cond (G1 (IV.toList (IV.cell (AI l40 (AE x42) default) 1)) 4&&F7 a2) (again (ND a2 x1 x6 x7 (AA AB (x8+IF (IV.toList (IV.cell (AI l40 (AE x42) default) 1)) a2)) (AA AB (x9+IE (IV.toList (IV.cell (AI l40 (AE x42) default) 1)) a2)) l40 x41 (AA AB (x42+1)))) none) (again (ND a2 x1 x6 x7 x8 x9 l40 x41 (AA AB (x42+1))))) none) (k (.exit 0) (ND a2 x1 x6 x7 x8 x9 l40 x41 x42))):=by kernel_rfl
theorem Yk (N:Nat) (a2:Bx) (x1 x6 x7 x8 x9:Int) (l40:LI) (x41 x42:Int):(DQ 0 (DS (G3 N) (DK IT [1,1,1,1]) (DT (G3 N) none [.tmp 6,.tmp 7] [[.z],[.z]]))) (.exit 0) (ND a2 x1 x6 x7 x8 x9 l40 x41 x42)=(some ((.tup [.i x8,.i x9]),[])):=by kernel_rfl
def LU (N:Nat):Env:=D4 [(112,K9),(113,cD)] [(9,⟨[3,4,5,6,7,42,43],[3,4,5],[]⟩)] 94 N
abbrev T5 (m:Md) (a1:Qy) (a2:Bx) (b6:Bool) (x7 x42 x43:Int):St:=⟨[(3,(.ptr 3 0 0)),(4,(.ptr 4 0 0)),(5,(.ptr 5 0 0)),(6,(.bool b6)),(7,(.i x7)),(42,(.i x42)),(43,(.i x43))],[(3,(some (.box (Md.cs m)))),(4,(some (.box (Qy.cs a1)))),(5,(some (.box (Bx.cs a2))))]⟩
theorem zdS (N:Nat) (m:Md) (a1:Qy) (a2:Bx):DZ (LU N) OB [.tmp 6] [[.bool]] [(Md.V m),(Qy.V a1),(Bx.V a2)]=(cond (Bx.emp a2) (some ((.bool true),[])) (cond (Bx.emp a2||F7 a2) (cond (Qy.k a1==1) (cond (decide (Qy.lo a1≤EA m (Qy.c a1) a2)) (some ((.bool (decide (D8 m (Qy.c a1) a2≤Qy.hi a1))),[])) (some ((.bool false),[]))) (cond (Qy.k a1==2) (DY (LU N) (DK OB [1,1,1,0,1,0,1,1,1,0,0,1,0,0]) ⟨[3,4,5,6,7,42,43],[3,4,5],[]⟩ N (T5 m a1 a2 false (EA m (Qy.c a1) a2) (Md.c m) 0) (DQ 1 (DS (LU N) (DK OB [1,1,1,0,1,0,1,1,1,0,1]) (DQ 0 (DS (LU N) (DK OB [1,1,1,1]) (DT (LU N) none [.tmp 6] [[.bool]])))))) (cond (decide (Qy.ft a1=ic 0)) (cond (decide (Sp.lo (Bx.s0 a2)≥Sp.hi (Bx.s4 a2))) (some ((.bool true),[])) (cond (decide (Qy.ft a1=ic 0)) (cond (Bx.emp {a2 with s0:=(Bx.s4 a2)}||F7 {a2 with s0:=(Bx.s4 a2)}) (cond (Qy.fl a1) (some ((.bool (decide (D8 m (Qy.c a1) {a2 with s0:=(Bx.s4 a2)}≤EA m (Qy.c a1) a2))),[])) (some ((.bool (decide (EA m (Qy.c a1) {a2 with s0:=(Bx.s4 a2)}≥D8 m (Qy.c a1) a2))),[]))) none) (cond (decide (Qy.ft a1=ic 1)) (cond (Bx.emp {a2 with s1:=(Bx.s4 a2)}||F7 {a2 with s1:=(Bx.s4 a2)}) (cond (Qy.fl a1) (some ((.bool (decide (D8 m (Qy.c a1) {a2 with s1:=(Bx.s4 a2)}≤EA m (Qy.c a1) a2))),[])) (some ((.bool (decide (EA m (Qy.c a1) {a2 with s1:=(Bx.s4 a2)}≥D8 m (Qy.c a1) a2))),[]))) none) (cond (decide (Qy.ft a1=ic 2)) (cond (Bx.emp {a2 with s2:=(Bx.s4 a2)}||F7 {a2 with s2:=(Bx.s4 a2)}) (cond (Qy.fl a1) (some ((.bool (decide (D8 m (Qy.c a1) {a2 with s2:=(Bx.s4 a2)}≤EA m (Qy.c a1) a2))),[])) (some ((.bool (decide (EA m (Qy.c a1) {a2 with s2:=(Bx.s4 a2)}≥D8 m (Qy.c a1) a2))),[]))) none) (cond (decide (Qy.ft a1=ic 3)) (cond (Bx.emp {a2 with s3:=(Bx.s4 a2)}||F7 {a2 with s3:=(Bx.s4 a2)}) (cond (Qy.fl a1) (some ((.bool (decide (D8 m (Qy.c a1) {a2 with s3:=(Bx.s4 a2)}≤EA m (Qy.c a1) a2))),[])) (some ((.bool (decide (EA m (Qy.c a1) {a2 with s3:=(Bx.s4 a2)}≥D8 m (Qy.c a1) a2))),[]))) none) (cond (decide (Qy.ft a1=ic 4)) (cond (Bx.emp a2||F7 a2) (cond (Qy.fl a1) (some ((.bool (decide (D8 m (Qy.c a1) a2≤EA m (Qy.c a1) a2))),[])) (some ((.bool (decide (EA m (Qy.c a1) a2≥D8 m (Qy.c a1) a2))),[]))) none) none)))))) (cond (decide (Qy.ft a1=ic 1)) (cond (decide (Sp.lo (Bx.s1 a2)≥Sp.hi (Bx.s4 a2))) (some ((.bool true),[])) (cond (decide (Qy.ft a1=ic 0)) (cond (Bx.emp {a2 with s0:=(Bx.s4 a2)}||F7 {a2 with s0:=(Bx.s4 a2)}) (cond (Qy.fl a1) (some ((.bool (decide (D8 m (Qy.c a1) {a2 with s0:=(Bx.s4 a2)}≤EA m (Qy.c a1) a2))),[])) (some ((.bool (decide (EA m (Qy.c a1) {a2 with s0:=(Bx.s4 a2)}≥D8 m (Qy.c a1) a2))),[]))) none) (cond (decide (Qy.ft a1=ic 1)) (cond (Bx.emp {a2 with s1:=(Bx.s4 a2)}||F7 {a2 with s1:=(Bx.s4 a2)}) (cond (Qy.fl a1) (some ((.bool (decide (D8 m (Qy.c a1) {a2 with s1:=(Bx.s4 a2)}≤EA m (Qy.c a1) a2))),[])) (some ((.bool (decide (EA m (Qy.c a1) {a2 with s1:=(Bx.s4 a2)}≥D8 m (Qy.c a1) a2))),[]))) none) (cond (decide (Qy.ft a1=ic 2)) (cond (Bx.emp {a2 with s2:=(Bx.s4 a2)}||F7 {a2 with s2:=(Bx.s4 a2)}) (cond (Qy.fl a1) (some ((.bool (decide (D8 m (Qy.c a1) {a2 with s2:=(Bx.s4 a2)}≤EA m (Qy.c a1) a2))),[])) (some ((.bool (decide (EA m (Qy.c a1) {a2 with s2:=(Bx.s4 a2)}≥D8 m (Qy.c a1) a2))),[]))) none) (cond (decide (Qy.ft a1=ic 3)) (cond (Bx.emp {a2 with s3:=(Bx.s4 a2)}||F7 {a2 with s3:=(Bx.s4 a2)}) (cond (Qy.fl a1) (some ((.bool (decide (D8 m (Qy.c a1) {a2 with s3:=(Bx.s4 a2)}≤EA m (Qy.c a1) a2))),[])) (some ((.bool (decide (EA m (Qy.c a1) {a2 with s3:=(Bx.s4 a2)}≥D8 m (Qy.c a1) a2))),[]))) none) (cond (decide (Qy.ft a1=ic 4)) (cond (Bx.emp a2||F7 a2) (cond (Qy.fl a1) (some ((.bool (decide (D8 m (Qy.c a1) a2≤EA m (Qy.c a1) a2))),[])) (some ((.bool (decide (EA m (Qy.c a1) a2≥D8 m (Qy.c a1) a2))),[]))) none) none)))))) (cond (decide (Qy.ft a1=ic 2)) (cond (decide (Sp.lo (Bx.s2 a2)≥Sp.hi (Bx.s4 a2))) (some ((.bool true),[])) (cond (decide (Qy.ft a1=ic 0)) (cond (Bx.emp {a2 with s0:=(Bx.s4 a2)}||F7 {a2 with s0:=(Bx.s4 a2)}) (cond (Qy.fl a1) (some ((.bool (decide (D8 m (Qy.c a1) {a2 with s0:=(Bx.s4 a2)}≤EA m (Qy.c a1) a2))),[])) (some ((.bool (decide (EA m (Qy.c a1) {a2 with s0:=(Bx.s4 a2)}≥D8 m (Qy.c a1) a2))),[]))) none) (cond (decide (Qy.ft a1=ic 1)) (cond (Bx.emp {a2 with s1:=(Bx.s4 a2)}||F7 {a2 with s1:=(Bx.s4 a2)}) (cond (Qy.fl a1) (some ((.bool (decide (D8 m (Qy.c a1) {a2 with s1:=(Bx.s4 a2)}≤EA m (Qy.c a1) a2))),[])) (some ((.bool (decide (EA m (Qy.c a1) {a2 with s1:=(Bx.s4 a2)}≥D8 m (Qy.c a1) a2))),[]))) none) (cond (decide (Qy.ft a1=ic 2)) (cond (Bx.emp {a2 with s2:=(Bx.s4 a2)}||F7 {a2 with s2:=(Bx.s4 a2)}) (cond (Qy.fl a1) (some ((.bool (decide (D8 m (Qy.c a1) {a2 with s2:=(Bx.s4 a2)}≤EA m (Qy.c a1) a2))),[])) (some ((.bool (decide (EA m (Qy.c a1) {a2 with s2:=(Bx.s4 a2)}≥D8 m (Qy.c a1) a2))),[]))) none) (cond (decide (Qy.ft a1=ic 3)) (cond (Bx.emp {a2 with s3:=(Bx.s4 a2)}||F7 {a2 with s3:=(Bx.s4 a2)}) (cond (Qy.fl a1) (some ((.bool (decide (D8 m (Qy.c a1) {a2 with s3:=(Bx.s4 a2)}≤EA m (Qy.c a1) a2))),[])) (some ((.bool (decide (EA m (Qy.c a1) {a2 with s3:=(Bx.s4 a2)}≥D8 m (Qy.c a1) a2))),[]))) none) (cond (decide (Qy.ft a1=ic 4)) (cond (Bx.emp a2||F7 a2) (cond (Qy.fl a1) (some ((.bool (decide (D8 m (Qy.c a1) a2≤EA m (Qy.c a1) a2))),[])) (some ((.bool (decide (EA m (Qy.c a1) a2≥D8 m (Qy.c a1) a2))),[]))) none) none)))))) (cond (decide (Qy.ft a1=ic 3)) (cond (decide (Sp.lo (Bx.s3 a2)≥Sp.hi (Bx.s4 a2))) (some ((.bool true),[])) (cond (decide (Qy.ft a1=ic 0)) (cond (Bx.emp {a2 with s0:=(Bx.s4 a2)}||F7 {a2 with s0:=(Bx.s4 a2)}) (cond (Qy.fl a1) (some ((.bool (decide (D8 m (Qy.c a1) {a2 with s0:=(Bx.s4 a2)}≤EA m (Qy.c a1) a2))),[])) (some ((.bool (decide (EA m (Qy.c a1) {a2 with s0:=(Bx.s4 a2)}≥D8 m (Qy.c a1) a2))),[]))) none) (cond (decide (Qy.ft a1=ic 1)) (cond (Bx.emp {a2 with s1:=(Bx.s4 a2)}||F7 {a2 with s1:=(Bx.s4 a2)}) (cond (Qy.fl a1) (some ((.bool (decide (D8 m (Qy.c a1) {a2 with s1:=(Bx.s4 a2)}≤EA m (Qy.c a1) a2))),[])) (some ((.bool (decide (EA m (Qy.c a1) {a2 with s1:=(Bx.s4 a2)}≥D8 m (Qy.c a1) a2))),[]))) none) (cond (decide (Qy.ft a1=ic 2)) (cond (Bx.emp {a2 with s2:=(Bx.s4 a2)}||F7 {a2 with s2:=(Bx.s4 a2)}) (cond (Qy.fl a1) (some ((.bool (decide (D8 m (Qy.c a1) {a2 with s2:=(Bx.s4 a2)}≤EA m (Qy.c a1) a2))),[])) (some ((.bool (decide (EA m (Qy.c a1) {a2 with s2:=(Bx.s4 a2)}≥D8 m (Qy.c a1) a2))),[]))) none) (cond (decide (Qy.ft a1=ic 3)) (cond (Bx.emp {a2 with s3:=(Bx.s4 a2)}||F7 {a2 with s3:=(Bx.s4 a2)}) (cond (Qy.fl a1) (some ((.bool (decide (D8 m (Qy.c a1) {a2 with s3:=(Bx.s4 a2)}≤EA m (Qy.c a1) a2))),[])) (some ((.bool (decide (EA m (Qy.c a1) {a2 with s3:=(Bx.s4 a2)}≥D8 m (Qy.c a1) a2))),[]))) none) (cond (decide (Qy.ft a1=ic 4)) (cond (Bx.emp a2||F7 a2) (cond (Qy.fl a1) (some ((.bool (decide (D8 m (Qy.c a1) a2≤EA m (Qy.c a1) a2))),[])) (some ((.bool (decide (EA m (Qy.c a1) a2≥D8 m (Qy.c a1) a2))),[]))) none) none)))))) (cond (decide (Qy.ft a1=ic 4)) (cond (decide (Sp.lo (Bx.s4 a2)≥Sp.hi (Bx.s4 a2))) (some ((.bool true),[])) (cond (decide (Qy.ft a1=ic 0)) (cond (Bx.emp {a2 with s0:=(Bx.s4 a2)}||F7 {a2 with s0:=(Bx.s4 a2)}) (cond (Qy.fl a1) (some ((.bool (decide (D8 m (Qy.c a1) {a2 with s0:=(Bx.s4 a2)}≤EA m (Qy.c a1) a2))),[])) (some ((.bool (decide (EA m (Qy.c a1) {a2 with s0:=(Bx.s4 a2)}≥D8 m (Qy.c a1) a2))),[]))) none) (cond (decide (Qy.ft a1=ic 1)) (cond (Bx.emp {a2 with s1:=(Bx.s4 a2)}||F7 {a2 with s1:=(Bx.s4 a2)}) (cond (Qy.fl a1) (some ((.bool (decide (D8 m (Qy.c a1) {a2 with s1:=(Bx.s4 a2)}≤EA m (Qy.c a1) a2))),[])) (some ((.bool (decide (EA m (Qy.c a1) {a2 with s1:=(Bx.s4 a2)}≥D8 m (Qy.c a1) a2))),[]))) none) (cond (decide (Qy.ft a1=ic 2)) (cond (Bx.emp {a2 with s2:=(Bx.s4 a2)}||F7 {a2 with s2:=(Bx.s4 a2)}) (cond (Qy.fl a1) (some ((.bool (decide (D8 m (Qy.c a1) {a2 with s2:=(Bx.s4 a2)}≤EA m (Qy.c a1) a2))),[])) (some ((.bool (decide (EA m (Qy.c a1) {a2 with s2:=(Bx.s4 a2)}≥D8 m (Qy.c a1) a2))),[]))) none) (cond (decide (Qy.ft a1=ic 3)) (cond (Bx.emp {a2 with s3:=(Bx.s4 a2)}||F7 {a2 with s3:=(Bx.s4 a2)}) (cond (Qy.fl a1) (some ((.bool (decide (D8 m (Qy.c a1) {a2 with s3:=(Bx.s4 a2)}≤EA m (Qy.c a1) a2))),[])) (some ((.bool (decide (EA m (Qy.c a1) {a2 with s3:=(Bx.s4 a2)}≥D8 m (Qy.c a1) a2))),[]))) none) (cond (decide (Qy.ft a1=ic 4)) (cond (Bx.emp a2||F7 a2) (cond (Qy.fl a1) (some ((.bool (decide (D8 m (Qy.c a1) a2≤EA m (Qy.c a1) a2))),[])) (some ((.bool (decide (EA m (Qy.c a1) a2≥D8 m (Qy.c a1) a2))),[]))) none) none)))))) none))))))) none)):=by kernel_rfl
theorem Mq (N:Nat) (m:Md) (a1:Qy) (a2:Bx) (b6:Bool) (x7 x42 x43:Int) (again:St→DN) (k:Out→St→DN):E2 (LU N) (DK OB [1,1,1,0,1,0,1,1,1,0,0,1,0,0]) (T5 m a1 a2 b6 x7 x42 x43) (EQ again ⟨[3,4,5,6,7,42,43],[3,4,5],[]⟩ k)=(cond (decide (x43 < x42)) (cond (Bx.emp a2||F7 a2) (cond (x43 != Qy.c a1) (cond (decide (D8 m x43 a2≥x7)) (k .ret (T5 m a1 a2 false x7 x42 x43)) (again (T5 m a1 a2 b6 x7 x42 (AA AB (x43+1))))) (again (T5 m a1 a2 b6 x7 x42 (AA AB (x43+1))))) none) (k (.exit 1) (T5 m a1 a2 b6 x7 x42 x43))):=by kernel_rfl
theorem Yl (N:Nat) (m:Md) (a1:Qy) (a2:Bx) (b6:Bool) (x7 x42 x43:Int):(DQ 1 (DS (LU N) (DK OB [1,1,1,0,1,0,1,1,1,0,1]) (DQ 0 (DS (LU N) (DK OB [1,1,1,1]) (DT (LU N) none [.tmp 6] [[.bool]]))))) (.exit 1) (T5 m a1 a2 b6 x7 x42 x43)=(some ((.bool true),[])):=by kernel_rfl
theorem Ym (N:Nat) (m:Md) (a1:Qy) (a2:Bx) (b6:Bool) (x7 x42 x43:Int):(DQ 1 (DS (LU N) (DK OB [1,1,1,0,1,0,1,1,1,0,1]) (DQ 0 (DS (LU N) (DK OB [1,1,1,1]) (DT (LU N) none [.tmp 6] [[.bool]]))))) .ret (T5 m a1 a2 b6 x7 x42 x43)=(some ((.bool b6),[])):=by kernel_rfl
def J2 (N:Nat):Env:=D4 [(69,bW),(68,cF),(67,dH),(70,WT),(65,MQ),(66,WU)] [(8,⟨[3,4,6,9,29,30,31],[3,4],[]⟩)] 59 N
abbrev T4 (m:Md) (q:Qy) (b6 b9:Bool) (l29:LI) (x30 x31:Int):St:=⟨[(3,(.ptr 3 0 0)),(4,(.ptr 4 0 0)),(6,(.bool b6)),(9,(.bool b9)),(29,(.list true FB l29)),(30,(.i x30)),(31,(.i x31))],[(3,(some (.box (Md.cs m)))),(4,(some (.box (Qy.cs q))))]⟩
theorem zdQ (N:Nat) (m:Md) (q:Qy) (v:Vd):DZ (J2 N) L3 [.tmp 6] [[.bool]] [(Md.V m),(Qy.V q),(Vd.V v)]=(cond (!E8 m q) (some ((.bool false),[])) (cond (Vd.kind v==1) (cond (Option.isSome (I7 (GE q) (Vd.proof v))) (DY (J2 N) (DK L3 [1,1,1,0,1,0,1,0,1,0,1,0,0]) ⟨[3,4,6,9,29,30,31],[3,4],[]⟩ N (T4 m q false true (vbb (I7 (GE q) (Vd.proof v)) []) (ic (AF (vbb (I7 (GE q) (Vd.proof v)) []))) 0) (DQ 1 (DS (J2 N) (DK L3 [1,1,1,0,1,0,1,0,1,1]) (DQ 0 (DS (J2 N) (DK L3 [1,1,1,1]) (DT (J2 N) none [.tmp 6] [[.bool]])))))) (DY (J2 N) (DK L3 [1,1,1,0,1,0,1,0,1,0,1,0,0]) ⟨[3,4,6,9,29,30,31],[3,4],[]⟩ N (T4 m q false false [] (ic 0) 0) (DQ 1 (DS (J2 N) (DK L3 [1,1,1,0,1,0,1,0,1,1]) (DQ 0 (DS (J2 N) (DK L3 [1,1,1,1]) (DT (J2 N) none [.tmp 6] [[.bool]]))))))) (cond (Vd.kind v==2) (cond (Bx.has (GE q) {p0:=Vd.w0 v,p1:=Vd.w1 v,p2:=Vd.w2 v,p3:=Vd.w3 v} (Vd.twin v)) (some ((.bool (HJ m q {p0:=Vd.w0 v,p1:=Vd.w1 v,p2:=Vd.w2 v,p3:=Vd.w3 v} (Vd.twin v))),[])) (some ((.bool false),[]))) (some ((.bool false),[]))))):=by kernel_rfl
theorem uH (N:Nat) (m:Md) (q:Qy) (b6 b9:Bool) (l29:LI) (x30 x31:Int) (again:St→DN) (k:Out→St→DN):E2 (J2 N) (DK L3 [1,1,1,0,1,0,1,0,1,0,1,0,0]) (T4 m q b6 b9 l29 x30 x31) (EQ again ⟨[3,4,6,9,29,30,31],[3,4],[]⟩ k)=(cond (decide (x31 < x30)) (cond (decide (0≤x31)&&decide (x31 < ic (AF l29))) (cond (E8 m q&&(Bx.emp (D7 (AI l29 (AE x31) default))||F7 (D7 (AI l29 (AE x31) default)))) (cond (!GW m q (D7 (AI l29 (AE x31) default))) (k .ret (T4 m q false b9 l29 x30 x31)) (again (T4 m q b6 b9 l29 x30 (AA AB (x31+1))))) none) none) (k (.exit 1) (T4 m q b6 b9 l29 x30 x31))):=by kernel_rfl
theorem Bh (N:Nat) (m:Md) (q:Qy) (b6 b9:Bool) (l29:LI) (x30 x31:Int):(DQ 1 (DS (J2 N) (DK L3 [1,1,1,0,1,0,1,0,1,1]) (DQ 0 (DS (J2 N) (DK L3 [1,1,1,1]) (DT (J2 N) none [.tmp 6] [[.bool]]))))) (.exit 1) (T4 m q b6 b9 l29 x30 x31)=(some ((.bool b9),[])):=by kernel_rfl
theorem Yj (N:Nat) (m:Md) (q:Qy) (b6 b9:Bool) (l29:LI) (x30 x31:Int):(DQ 1 (DS (J2 N) (DK L3 [1,1,1,0,1,0,1,0,1,1]) (DQ 0 (DS (J2 N) (DK L3 [1,1,1,1]) (DT (J2 N) none [.tmp 6] [[.bool]]))))) .ret (T4 m q b6 b9 l29 x30 x31)=(some ((.bool b6),[])):=by kernel_rfl
open Go Go.Proofs
theorem zij:DX PR B0 192 dJ:=by
 refine D6 [] [] dJ [[.bool]] Tryz.func192 zbT trivial ?_;intro vs r hwf h;unfold dJ at h;split at h
 ·rename_i s p a;rw [R.get_ok] at h;refine ⟨0,(zeF 0 s p a).trans ?_⟩;rw [← h];unfold I2;show _=some (V.bool (cond s (p==0&&a==0) (decide (0≤p)&&decide (p≤4))),[]);cases s with
  | true=>
   simp only [BJ,B1];rfl
  | false=>
   simp only [BC];by_cases hp:0≤p
   ·rw [AD (show p≥0 from hp)]; rfl
   ·rw [AL (show ¬ p≥0 from hp)]; rfl
 ·simp [R.get] at h
def Xa (o:Option (Int × Int)):Int:=match o with
 | some st=>cond (!(st.1==0)||decide (st.2 > 200)) 0 st.2
 | none=>0
theorem oO (N:Nat) (l:LI) (K:Out→St→DN) (hl:l.length≤65536)
  (hx:∀ x2 x3 x4 x11 x12,K (.exit 0) ⟨[(2,(.int .i64 x2)),(3,(.int .i64 x3)),(4,(.int .i64 x4)),(10,(.list true EB l)),(11,(.int .i64 x11)),(12,(.int .i64 x12))],[]⟩=cond (x3 != 0) (some ((.int .i64 0),[])) (cond (decide (x4 > 200)) (some ((.int .i64 0),[])) (some ((.int .i64 x4),[]))))
  (hr:∀ x2 x3 x4 x11 x12,K .ret ⟨[(2,(.int .i64 x2)),(3,(.int .i64 x3)),(4,(.int .i64 x4)),(10,(.list true EB l)),(11,(.int .i64 x11)),(12,(.int .i64 x12))],[]⟩=some (.int .i64 x2,[])) :
  ∀ (d i n:Nat) (left most:Int),i+d=l.length→d < n→0≤left→left≤i+1 →
   DY (RA N) (DK UZ [1,1,1,0,1,0,0]) ⟨[2,3,4,10,11,12],[],[]⟩ n ⟨[(2,(.int .i64 0)),(3,(.int .i64 left)),(4,(.int .i64 most)),(10,(.list true EB l)),(11,(.int .i64 (ic l.length))),(12,(.int .i64 (i:Int)))],[]⟩ K=some (.int .i64 (Xa (JF (l.drop i) (left,most))),[])
 | d,i,0,_,_,_,h,_,_=>absurd h (by omega)
 | 0,i,n+1,left,most,hd,_,_,_=>by
  rw [D5,Ni,I5 (by omega),DJ,hx,CS (by omega)];show _=some (V.int .i64 (cond (!(left==0)||decide (most > 200)) 0 most),[])
  have:(left != 0)=!(left==0):=rfl
  rw [this];cases left==0 <;> cases decide (most > 200) <;> rfl
 | d+1,i,n+1,left,most,hd,hn,h0,h1=>by
  have hi:i < l.length:=by omega
  rw [D5,Ni,HA hi,DI,IL,B3,DI,HD (by omega),H8 hi,BG hi,JF];unfold LE;have er:I2 (NY (IV.toBool (IV.cell l[i] 0)) (IV.toInt (IV.cell l[i] 1)) (IV.toInt (IV.cell l[i] 2)))=I2 l[i]:=rfl;have es:IV.toBool (IV.cell l[i] 0)=GZ l[i]:=rfl;rw [er,es];generalize l[i]=x;cases hz:(left==0) with
  | true=>rw [DI,hr]; rfl
  | false=>
   have hne:left≠0:=by simpa using hz
   rw [DJ];cases I2 x with
   | false=>rw [A8,DI,hr]; rfl
   | true=>
    rw [A2,DJ,Bool.or_false,DJ];cases GZ x with
    | true=>
     rw [DI,DI,show AA AB (left - 1)=left - 1 from EL (by omega) (by omega)];exact oO N l K hl hx hr d (i+1) n (left - 1) most (by omega) (by omega) (by omega) (by omega)
    | false=>
     rw [DJ,DJ,show AA AB (left+1)=left+1 from EL (by omega) (by omega)];exact oO N l K hl hx hr d (i+1) n (left+1) _ (by omega) (by omega) (by omega) (by omega)
theorem zii:DX PR B0 156 dI:=by
 refine D6 [(192,dJ)] [(5,⟨[2,3,4,10,11,12],[],[]⟩)] dI [[.z]] Tryz.func156 zbS ⟨zij,trivial⟩ ?_;intro vs r hwf h;unfold dI at h;split at h
 ·rename_i l;rw [R.get_ok] at h;refine ⟨l.length+1,(zeE (l.length+1) l).trans ?_⟩;rw [← h];unfold JQ;by_cases hl:l.length≤65536
  ·rw [AL (show ¬ ic l.length > 65536 by simp only [ic]; omega),DJ,DJ]
   have:=oO (l.length+1) l _ hl (fun x2 x3 x4 x11 x12=>Zk (l.length+1) x2 x3 x4 l x11 x12) (fun x2 x3 x4 x11 x12=>Zl (l.length+1) x2 x3 x4 l x11 x12) l.length 0 (l.length+1) 1 1 (by omega) (by omega) (by omega) (by omega)
   rw [B2] at this;exact this
  ·rw [AD (show ic l.length > 65536 by simp only [ic]; omega)];rfl
 ·simp [R.get] at h
theorem zig:DX PR B0 110 dG:=by
 refine D6 [(156,dI)] [] dG [[.bool]] Tryz.func110 zbQ ⟨zii,trivial⟩ ?_;intro vs r hwf h;unfold dG at h;split at h
 ·rename_i l;rw [R.get_ok] at h;exact ⟨0,(zeD 0 l).trans h⟩
 ·simp [R.get] at h
theorem zep (b:Bx) (p:Pt) (t:Int):DZ (Qz 6) xJ [.tmp 6] [[.bool]] [b.V,p.V,.int .i64 t] =
 cond (!b.s0.has p.p0) (some (.bool false,[])) (cond (!b.s1.has p.p1) (some (.bool false,[])) (cond (!b.s2.has p.p2) (some (.bool false,[])) (cond (!b.s3.has p.p3) (some (.bool false,[])) (some (.bool (b.s4.has t),[]))))):=by kernel_rfl
theorem zhy:DX PR B0 69 bW:=by
 refine D6 [(114,WX)] [(2,⟨[2,3,6,9,10],[3],[]⟩)] bW [[.bool]] Tryz.func69 zaT ⟨La,trivial⟩ ?_;intro vs r hwf h;unfold bW at h;split at h
 ·rename_i b p t;replace h:=J0 h;obtain ⟨b,rfl,h⟩:=h;replace h:=YR h;obtain ⟨p,rfl,h⟩:=h;rw [R.get_ok] at h;refine ⟨6,(zep b p t).trans ?_⟩;rw [← h];unfold Bx.has;cases b.s0.has p.p0 <;> cases b.s1.has p.p1 <;> cases b.s2.has p.p2 <;> cases b.s3.has p.p3 <;> rfl
 ·simp [R.get] at h
open Go
theorem PQ {s:Sp} {n:Int}:s.has n=true↔s.lo≤n∧n≤s.hi:=by
 unfold Sp.has;rw [AH,AQ,AQ]
theorem ziF {s:Sp}:s.emp=false↔s.lo≤s.hi:=by
 unfold Sp.emp;rw [BW];omega
theorem Lo {lo hi n:Int}:(M8 lo hi).has n=true↔lo≤n∧n≤hi:=by
 unfold M8;cases hd:decide (lo > hi) with
 | true=>
  have:=A1 hd
  rw [DI,PQ];show (1:Int)≤n∧n≤0↔_;omega
 | false=>rw [DJ,PQ]
theorem oI {s:Sp} {a n:Int}:(s.cutL a).has n=true↔s.has n=true∧n≤a:=by
 unfold Sp.cutL;rw [Lo,PQ];omega
theorem oG {s:Sp} {a n:Int} (ha : -9223372036854775808≤a) (hs:s.hi≤9223372036854775807):(s.cutH a).has n=true↔s.has n=true∧a < n:=by
 unfold Sp.cutH;cases hd:decide (a≥s.hi) with
 | true=>
  have:=A1 hd
  rw [DI,PQ,PQ];show (1:Int)≤n∧n≤0↔_;omega
 | false=>
  have:=BH hd
  have e:FO (a+1)=a+1:=EL (by omega) (by omega);rw [DJ,Lo,PQ,e];omega
def co (p:Pt) (t:Int):Nat→Int
 | 0=>p.p0
 | 1=>p.p1
 | 2=>p.p2
 | 3=>p.p3
 | _=>t
theorem RD {b:Bx} {p:Pt} {t:Int}:b.has p t=true↔∀ i,i < 5→(b.g i).has (co p t i)=true:=by
 unfold Bx.has;simp only [AH];constructor
 ·rintro ⟨h0,h1,h2,h3,h4⟩ i hi
  match i,hi with
  | 0,_=>exact h0
  | 1,_=>exact h1
  | 2,_=>exact h2
  | 3,_=>exact h3
  | 4,_=>exact h4
  | i+5,h=>exact absurd h (by omega)
 ·intro h;exact ⟨h 0 (by omega),h 1 (by omega),h 2 (by omega),h 3 (by omega),h 4 (by omega)⟩
theorem nS {b:Bx}:b.emp=false↔∀ i,i < 5→(b.g i).lo≤(b.g i).hi:=by
 unfold Bx.emp;simp only [vaq,ziF];constructor
 ·rintro ⟨h0,h1,h2,h3,h4⟩ i hi
  match i,hi with
  | 0,_=>exact h0
  | 1,_=>exact h1
  | 2,_=>exact h2
  | 3,_=>exact h3
  | 4,_=>exact h4
  | i+5,h=>exact absurd h (by omega)
 ·intro h;exact ⟨h 0 (by omega),h 1 (by omega),h 2 (by omega),h 3 (by omega),h 4 (by omega)⟩
theorem LZ (b:Bx) (s:Sp):∀ {i j:Nat},i < 5→j < 5→(b.p s i).g j=if j=i then s else b.g j
 | 0,0,_,_=>rfl
 | 0,1,_,_=>rfl
 | 0,2,_,_=>rfl
 | 0,3,_,_=>rfl
 | 0,4,_,_=>rfl
 | 1,0,_,_=>rfl
 | 1,1,_,_=>rfl
 | 1,2,_,_=>rfl
 | 1,3,_,_=>rfl
 | 1,4,_,_=>rfl
 | 2,0,_,_=>rfl
 | 2,1,_,_=>rfl
 | 2,2,_,_=>rfl
 | 2,3,_,_=>rfl
 | 2,4,_,_=>rfl
 | 3,0,_,_=>rfl
 | 3,1,_,_=>rfl
 | 3,2,_,_=>rfl
 | 3,3,_,_=>rfl
 | 3,4,_,_=>rfl
 | 4,0,_,_=>rfl
 | 4,1,_,_=>rfl
 | 4,2,_,_=>rfl
 | 4,3,_,_=>rfl
 | 4,4,_,_=>rfl
 | i+5,_,h,_=>absurd h (by omega)
 | _,j+5,_,h=>absurd h (by omega)
def Bx.ok (b:Bx):Prop:=∀ i,i < 5→(b.g i).hi≤2147483647
theorem ZC (b:Bx) (h:b.emp=false):b.has b.low b.s4.hi=true:=by
 rw [nS] at h;rw [RD];intro i hi;rw [PQ]
 have:=h i hi
 match i,hi with
 | 0,_=>exact ⟨vab _,this⟩
 | 1,_=>exact ⟨vab _,this⟩
 | 2,_=>exact ⟨vab _,this⟩
 | 3,_=>exact ⟨vab _,this⟩
 | 4,_=>exact ⟨this,vab _⟩
 | i+5,h=>exact absurd h (by omega)
theorem i7 {b:Bx} {p:Pt} {t:Int} (h:b.has p t=true):b.emp=false:=by
 rw [RD] at h;rw [nS];intro i hi
 have:=PQ.1 (h i hi)
 omega
theorem oH {b:Bx} {i:Nat} (hi:i < 5) {a:Int} {p:Pt} {t:Int}:(b.cutL (i:Int) a).has p t=true↔b.has p t=true∧co p t i≤a:=by
 unfold Bx.cutL;rw [BF,RD,RD];constructor
 ·intro h;refine ⟨fun j hj=>?_,?_⟩
  ·have:=h j hj
   rw [LZ b _ hi hj] at this;by_cases e:j=i
   ·rw [BP e,oI] at this;rw [e] at this ⊢;exact this.1
   ·rw [BD e] at this;exact this
  ·have:=h i hi
   rw [LZ b _ hi hi,BP rfl,oI] at this;exact this.2
 ·rintro ⟨h,ha⟩ j hj;rw [LZ b _ hi hj];by_cases e:j=i
  ·rw [BP e,oI,e];exact ⟨h i hi,ha⟩
  ·rw [BD e];exact h j hj
theorem oF {b:Bx} (hb:b.ok) {i:Nat} (hi:i < 5) {a:Int} (ha : -2147483648≤a) {p:Pt} {t:Int}:(b.cutH (i:Int) a).has p t=true↔b.has p t=true∧a < co p t i:=by
 have hs:=hb i hi;unfold Bx.cutH;rw [BF,RD,RD];constructor
 ·intro h;refine ⟨fun j hj=>?_,?_⟩
  ·have:=h j hj
   rw [LZ b _ hi hj] at this;by_cases e:j=i
   ·rw [BP e,oG (by omega) (by omega)] at this;rw [e] at this ⊢;exact this.1
   ·rw [BD e] at this;exact this
  ·have:=h i hi
   rw [LZ b _ hi hi,BP rfl,oG (by omega) (by omega)] at this;exact this.2
 ·rintro ⟨h,ha'⟩ j hj;rw [LZ b _ hi hj];by_cases e:j=i
  ·rw [BP e,oG (by omega) (by omega),e];exact ⟨h i hi,ha'⟩
  ·rw [BD e];exact h j hj
theorem Lq {lo hi:Int} (h:hi≤2147483647):(M8 lo hi).hi≤2147483647:=by
 unfold M8;cases decide (lo > hi) with
 | true=>rw [DI]; show (0:Int)≤_; omega
 | false=>exact h
theorem fZ {b:Bx} (hb:b.ok) {s:Sp} (hs:s.hi≤2147483647) {i:Nat} (hi:i < 5):(b.p s i).ok:=by
 intro j hj;rw [LZ b _ hi hj];split
 ·exact hs
 ·exact hb j hj
theorem Ad {b:Bx} (hb:b.ok) {i:Nat} (hi:i < 5) (a:Int):(b.cutL (i:Int) a).ok:=by
 unfold Bx.cutL;rw [BF];refine fZ hb ?_ hi;unfold Sp.cutL;exact Lq (by have:=hb i hi; omega)
theorem Ab {b:Bx} (hb:b.ok) {i:Nat} (hi:i < 5) (a:Int):(b.cutH (i:Int) a).ok:=by
 unfold Bx.cutH;rw [BF];refine fZ hb ?_ hi;unfold Sp.cutH;cases decide (a≥(b.g i).hi) with
 | true=>rw [DI]; show (0:Int)≤_; omega
 | false=>exact Lq (hb i hi)
theorem IO (b:Bx):D7 b.I=b:=rfl
theorem jF (p:Pt) (t:Int):∀ {i:Nat},i < 4→co p t i=p.g i
 | 0,_=>rfl
 | 1,_=>rfl
 | 2,_=>rfl
 | 3,_=>rfl
 | i+4,h=>absurd h (by omega)
abbrev nd (l:LI) (i:Nat):Nd:=DL (l.getD i default).toInt
def XV (l:LI) (k j:Nat):Prop:=(nd l k).lf=false∧((nd l k).l=(j:Int)∨(nd l k).r=(j:Int))
structure TreeOK (l:LI):Prop where
 len:1≤l.length∧l.length≤31
 node:∀ k,k < l.length→GJ (l.getD k default).toInt=true
 fork:∀ k,k < l.length→(nd l k).lf=false→(0≤(nd l k).f∧(nd l k).f < 4)∧E5 (nd l k).a=true∧((k:Int) < (nd l k).l∧(nd l k).l < ic l.length)∧((k:Int) < (nd l k).r∧(nd l k).r < ic l.length)∧(nd l k).l≠(nd l k).r
 parent:∀ j,1≤j→j < l.length→∃ k,k < l.length∧XV l k j
 alone:∀ j k k',1≤j→j < l.length→k < l.length→k' < l.length→XV l k j→XV l k' j→k=k'
theorem zi8 {l:List Nat}:∀ {k a:Nat},l[k]?=some a→a≤l.sum:=by
 induction l with
 | nil=>intro k a h; simp at h
 | cons x r ih=>
  intro k a h;cases k with
  | zero=>simp at h; simp; omega
  | succ k=>have:=ih (k:=k) (a:=a) (by simpa using h); simp; omega
theorem Og {l:List Nat}:∀ {k k' a b:Nat},k < k'→l[k]?=some a→l[k']?=some b→a+b≤l.sum:=by
 induction l with
 | nil=>intro k k' a b _ h; simp at h
 | cons x r ih=>
  intro k k' a b hk h h';cases k with
  | zero=>
   cases k' with
   | zero=>omega
   | succ k'=>
    have:=zi8 (l:=r) (k:=k') (a:=b) (by simpa using h')
    simp at h;simp;omega
  | succ k=>
   cases k' with
   | zero=>omega
   | succ k'=>
    have:=ih (k:=k) (k':=k') (a:=a) (b:=b) (by omega) (by simpa using h) (by simpa using h')
    simp;omega
theorem zja {l:List Nat}:0 < l.sum→∃ (k a:Nat),l[k]?=some a∧0 < a:=by
 induction l with
 | nil=>intro h; simp at h
 | cons x r ih=>
  intro h;by_cases hx:0 < x
  ·exact ⟨0,x,rfl,hx⟩
  ·obtain ⟨k,a,hk,ha⟩:=ih (by simp at h; omega);exact ⟨k+1,a,by simpa using hk,ha⟩
theorem qP {x:Nd} {j:Nat}:0 < LH x j↔x.lf=false∧(x.l=(j:Int)∨x.r=(j:Int)):=by
 unfold LH;cases x.lf with
 | true=>simp
 | false=>
  rw [DJ];by_cases h1:x.l=(j:Int) <;> by_cases h2:x.r=(j:Int) <;> simp [h1,h2]
theorem fB {l:LI} {k:Nat} (h:k < l.length):l.getD k default=l[k]:=by simp [h]
theorem uV {l:LI} (h:G1 l 4=true):TreeOK l:=by
 have key:∀ {dim n:Int} {l:LI} {i k:Nat} (hk:k < l.length),KM dim n i l=true→GJ (l[k]).toInt=true∧OG dim n (i+k) (DL (l[k]).toInt)=true:=by
  intro dim n l
  induction l with
  | nil=>intro i k hk; exact absurd hk (Nat.not_lt_zero k)
  | cons w r ih=>
   intro i k hk h;rw [KM] at h;simp only [AH] at h;cases k with
   | zero=>exact h.1
   | succ k=>
    have:=ih (k:=k) (by simpa using hk) h.2
    rw [show i+1+k=i+(k+1) by omega] at this;exact this
 unfold G1 at h;simp only [AH] at h;obtain ⟨⟨h1,h31⟩,hn,ho⟩:=h;have hlen:=AP h1;have once:∀ j,1≤j→j < l.length→IZ l j=1:=fun j hj hjl=>by
  unfold Z7 at ho;rw [CQ] at ho
  have:=ho (j - 1) (va6.2 (by omega))
  rw [show j - 1+1=j by omega] at this;simpa using this
 have at_:∀ k (hk:k < l.length) j,(l.map fun w=>LH (DL w.toInt) j)[k]?=some (LH (nd l k) j):=fun k hk j=>by
  rw [B9,A9 hk];unfold nd;rw [fB hk];rfl
 refine ⟨⟨hlen,AP h31⟩,fun k hk=>by rw [fB hk]; exact (key hk hn).1,fun k hk hl=>?_,fun j hj hjl=>?_,fun j k k' hj hjl hk hk' hn1 hn2=>?_⟩
 ·have h2:=(key hk hn).2;have h3:=(key hk hn).1;rw [BI] at h2;unfold nd at hl ⊢;rw [fB hk] at hl ⊢;unfold OG at h2;rw [hl,DJ] at h2;simp only [AH,B4,BW,A5] at h2;obtain ⟨q1,q2,q3,q4⟩:=h2;have hr:=(kX h3).2;unfold M6 RF at hr;rw [hl,DJ] at hr;simp only [AH,AQ] at hr;exact ⟨⟨hr.2.1,hr.2.2.1⟩,hr.2.2.2.1,⟨by omega,by simp only [ic] at q4 ⊢; omega⟩,⟨by omega,by simp only [ic] at q4 ⊢; omega⟩,q2⟩
 ·have h2:=once j hj hjl;unfold IZ at h2;obtain ⟨k,a,hk,ha⟩:=zja (l:=l.map fun w=>LH (DL w.toInt) j) (by omega);have hkl:k < l.length:=by
   have:=(BR.1 hk).1
   simpa using this
  rw [at_ k hkl j] at hk;simp only [AC] at hk;subst hk;exact ⟨k,hkl,qP.1 ha⟩
 ·have h2:=once j hj hjl;unfold IZ at h2;have p1:0 < LH (nd l k) j:=qP.2 hn1;have p2:0 < LH (nd l k') j:=qP.2 hn2;rcases Nat.lt_trichotomy k k' with hlt | heq | hlt
  ·have:=Og hlt (at_ k hk j) (at_ k' hk' j)
   omega
  ·exact heq
  ·have:=Og hlt (at_ k' hk' j) (at_ k hk j)
   omega
def QU (l:LI) (p:Pt) (i:Nat):Int:=(IU l p 31 (i:Int)).2.v
theorem jN {l:LI} (h:TreeOK l) (p:Pt) {i:Nat} (hi:i < l.length) (n:Nat):IU l p (n+1) (i:Int) =
  cond (nd l i).lf ((i:Int),nd l i) (cond (decide (p.g (nd l i).f.toNat≤(nd l i).a)) (IU l p n (nd l i).l) (IU l p n (nd l i).r)):=by
 rw [IU,AL (show ¬ (i:Int)≥ic l.length by simp only [ic]; omega),DJ,BF,h.node i hi,A2,DJ]
theorem jO {l:LI} (h:TreeOK l) (p:Pt):∀ (n n' i:Nat),i < l.length→l.length - i≤n→l.length - i≤n'→IU l p n (i:Int)=IU l p n' (i:Int)
 | 0,_,i,hi,h1,_=>absurd h1 (by omega)
 | _+1,0,i,hi,_,h2=>absurd h2 (by omega)
 | n+1,n'+1,i,hi,h1,h2=>by
  rw [jN h p hi,jN h p hi];cases hl:(nd l i).lf with
  | true=>rfl
  | false=>
   obtain ⟨_,_,⟨a1,a2⟩,⟨b1,b2⟩,_⟩:=h.fork i hi hl;simp only [ic] at a2 b2;rw [DJ,DJ];cases decide (p.g (nd l i).f.toNat≤(nd l i).a) with
   | true=>
    have e:(nd l i).l=(((nd l i).l.toNat:Nat):Int):=by omega
    rw [DI,DI,e];exact jO h p n n' _ (by omega) (by omega) (by omega)
   | false=>
    have e:(nd l i).r=(((nd l i).r.toNat:Nat):Int):=by omega
    rw [DJ,DJ,e];exact jO h p n n' _ (by omega) (by omega) (by omega)
theorem Pp {l:LI} (h:TreeOK l) (p:Pt) {i:Nat} (hi:i < l.length) (hl:(nd l i).lf=true):QU l p i=(nd l i).v:=by
 unfold QU;rw [jN h p hi,hl,DI]
theorem Po {l:LI} (h:TreeOK l) (p:Pt) {i:Nat} (hi:i < l.length) (hl:(nd l i).lf=false):QU l p i=QU l p (cond (decide (p.g (nd l i).f.toNat≤(nd l i).a)) (nd l i).l.toNat (nd l i).r.toNat):=by
 obtain ⟨_,_,⟨a1,a2⟩,⟨b1,b2⟩,_⟩:=h.fork i hi hl;have h31:=h.len.2;simp only [ic] at a2 b2;unfold QU;rw [jN h p hi,hl,DJ];cases decide (p.g (nd l i).f.toNat≤(nd l i).a) with
 | true=>
  rw [DI,DI];have e:(nd l i).l=(((nd l i).l.toNat:Nat):Int):=by omega
  rw [e,BF];rw [jO h p 30 31 _ (by omega) (by omega) (by omega)]
 | false=>
  rw [DJ,DJ];have e:(nd l i).r=(((nd l i).r.toNat:Nat):Int):=by omega
  rw [e,BF];rw [jO h p 30 31 _ (by omega) (by omega) (by omega)]
theorem zjC (l:LI) (p:Pt):HE l p=QU l p 0:=rfl
abbrev I4 (own:LI) (j:Nat):Bx:=D7 (own.getD j default)
def fr (l:LI) (i j:Nat):Prop:=i≤j∧j < l.length∧(j=0∨∃ k,k < i∧XV l k j)
structure PInv (l:LI) (b:Bx) (i:Nat) (own out:LI):Prop where
 len:own.length=l.length
 val:∀ j,fr l i j→∀ p t,(I4 own j).has p t=true→b.has p t=true∧QU l p 0=QU l p j
 ok:∀ j,fr l i j→(I4 own j).ok
 all:∀ p t,b.has p t=true→(∃ x∈out,(D7 x).has p t=true)∨∃ j,fr l i j∧(I4 own j).has p t=true
 out:∀ x∈out,(D7 x).emp=false∧(D7 x).ok∧∀ p t,(D7 x).has p t=true→b.has p t=true∧HE l p=HR x
theorem Bv {l:LI} (h:TreeOK l) {i:Nat} (hi:i < l.length):fr l i i:=by
 refine ⟨AZ _,hi,?_⟩;by_cases h0:i=0
 ·exact .inl h0
 ·obtain ⟨k,hk,hn⟩:=h.parent i (by omega) hi;refine .inr ⟨k,?_,hn⟩;obtain ⟨_,_,a,b,_⟩:=h.fork k hk hn.1;rcases hn.2 with e | e <;> omega
theorem tD {own:LI} {a j:Nat} {x:IV} (ha:a < own.length):(own.set a x).getD j default=if j=a then x else own.getD j default:=by
 rw [BV,List.getElem?_set];by_cases e:a=j
 ·subst e;rw [BP rfl,BP ha,BP rfl];rfl
 ·rw [BD e,BD (fun h=>e h.symm),← BV]
theorem zf4 {l:LI} (h:TreeOK l) {b:Bx} {i:Nat} (hi:i < l.length) {own out:LI} (hp:PInv l b i own out) :
  PInv l b (i+1) (PG (nd l i) i own) (cond ((nd l i).lf&&!(I4 own i).emp) (out++[f8 (I4 own i) (nd l i).v]) out):=by
 have hfi:=Bv h hi;cases hl:(nd l i).lf with
 | true=>
  have e1:PG (nd l i) i own=own:=by unfold PG; rw [hl,DI]
  have hfr:∀ j,fr l (i+1) j→fr l i j:=fun j hj=>by
   refine ⟨by have:=hj.1; omega,hj.2.1,hj.2.2.imp_right ?_⟩;rintro ⟨k,hk,hn⟩;refine ⟨k,?_,hn⟩;rcases Nat.lt_succ_iff_lt_or_eq.1 hk with h1 | h1
   ·exact h1
   ·subst h1;rw [hn.1] at hl;cases hl
  have hrf:∀ j,fr l i j→j=i∨fr l (i+1) j:=fun j hj=>by
   by_cases e:j=i
   ·exact .inl e
   ·refine .inr ⟨by have:=hj.1; omega,hj.2.1,hj.2.2.imp_right ?_⟩;rintro ⟨k,hk,hn⟩;exact ⟨k,by omega,hn⟩
  rw [e1,A6];have hv:=fun p=>Pp h p hi hl
  cases he:(I4 own i).emp with
  | true=>
   rw [A2,DJ];refine ⟨hp.len,fun j hj=>hp.val j (hfr j hj),fun j hj=>hp.ok j (hfr j hj),fun p t hb=>?_,hp.out⟩;rcases hp.all p t hb with h1 | ⟨j,hj,hh⟩
   ·exact .inl h1
   ·rcases hrf j hj with rfl | hj'
    ·rw [i7 hh] at he;cases he
    ·exact .inr ⟨j,hj',hh⟩
  | false=>
   rw [A8,DI];refine ⟨hp.len,fun j hj=>hp.val j (hfr j hj),fun j hj=>hp.ok j (hfr j hj),fun p t hb=>?_,fun x hx=>?_⟩
   ·rcases hp.all p t hb with ⟨x,hx,hh⟩ | ⟨j,hj,hh⟩
    ·exact .inl ⟨x,AX.2 (.inl hx),hh⟩
    ·rcases hrf j hj with rfl | hj'
     ·exact .inl ⟨_,AX.2 (.inr (BL.2 rfl)),hh⟩
     ·exact .inr ⟨j,hj',hh⟩
   ·rcases AX.1 hx with hx | hx
    ·exact hp.out x hx
    ·obtain rfl:=BL.1 hx;refine ⟨he,hp.ok i hfi,fun p t hh=>?_⟩;obtain ⟨q1,q2⟩:=hp.val i hfi p t hh;refine ⟨q1,?_⟩;rw [zjC,q2,hv p];rfl
 | false=>
  obtain ⟨⟨f0,f4⟩,ha,⟨a1,a2⟩,⟨b1,b2⟩,hne⟩:=h.fork i hi hl;simp only [ic] at a2 b2;have ef:(nd l i).f=(((nd l i).f.toNat:Nat):Int):=by omega
  have hf5:(nd l i).f.toNat < 5:=by omega
  have e1:PG (nd l i) i own=(own.set (nd l i).l.toNat ((I4 own i).cutL (nd l i).f (nd l i).a).I).set (nd l i).r.toNat ((I4 own i).cutH (nd l i).f (nd l i).a).I:=by unfold PG; rw [hl,DJ]
  have hlen:=hp.len;have at_:∀ j,(PG (nd l i) i own).getD j default=if j=(nd l i).r.toNat then ((I4 own i).cutH (nd l i).f (nd l i).a).I else if j=(nd l i).l.toNat then ((I4 own i).cutL (nd l i).f (nd l i).a).I else own.getD j default:=fun j=>by
   rw [e1,tD (by rw [vaF]; omega)];congr 1;rw [tD (by omega)]
  have fits : -2147483648≤(nd l i).a∧(nd l i).a≤2147483647:=by
   unfold E5 at ha;simpa only [AH,AQ] using ha
  have hok:=hp.ok i hfi;have cl:∀ p t,((I4 own i).cutL (nd l i).f (nd l i).a).has p t=true↔(I4 own i).has p t=true∧p.g (nd l i).f.toNat≤(nd l i).a:=fun p t=>by
   have:=oH (b:=I4 own i) hf5 (a:=(nd l i).a) (p:=p) (t:=t)
   rw [← ef,jF p t (by omega)] at this;exact this
  have ch:∀ p t,((I4 own i).cutH (nd l i).f (nd l i).a).has p t=true↔(I4 own i).has p t=true∧(nd l i).a < p.g (nd l i).f.toNat:=fun p t=>by
   have:=oF hok hf5 (a:=(nd l i).a) fits.1 (p:=p) (t:=t)
   rw [← ef,jF p t (by omega)] at this;exact this
  have nl:XV l i (nd l i).l.toNat:=⟨hl,.inl (by omega)⟩;have nr:XV l i (nd l i).r.toNat:=⟨hl,.inr (by omega)⟩;have hfr:∀ j,fr l (i+1) j→j≠(nd l i).l.toNat→j≠(nd l i).r.toNat→fr l i j:=fun j hj h1 h2=>by
   refine ⟨by have:=hj.1; omega,hj.2.1,hj.2.2.imp_right ?_⟩;rintro ⟨k,hk,hn⟩;refine ⟨k,?_,hn⟩;rcases Nat.lt_succ_iff_lt_or_eq.1 hk with h3 | h3
   ·exact h3
   ·subst h3;rcases hn.2 with e | e
    ·exact absurd (by omega) h1
    ·exact absurd (by omega) h2
  have hnot:∀ j,XV l i j→¬ fr l i j:=fun j hn hj=>by
   obtain ⟨h1,h2,h3⟩:=hj;have hj0:1≤j:=by rcases hn.2 with e | e <;> omega
   rcases h3 with h3 | ⟨k,hk,hk2⟩
   ·omega
   ·have:=h.alone j k i hj0 h2 (by omega) hi hk2 hn
    omega
  have fl:fr l (i+1) (nd l i).l.toNat:=⟨by omega,by omega,.inr ⟨i,by omega,nl⟩⟩;have frr:fr l (i+1) (nd l i).r.toNat:=⟨by omega,by omega,.inr ⟨i,by omega,nr⟩⟩;have hup:∀ j,fr l i j→j≠i→fr l (i+1) j:=fun j hj e=>by
   refine ⟨by have:=hj.1; omega,hj.2.1,hj.2.2.imp_right ?_⟩;rintro ⟨k,hk,hn⟩;exact ⟨k,by omega,hn⟩
  have hvf:=fun p=>Po h p hi hl
  rw [BM,DJ];refine ⟨by rw [e1,vaF,vaF]; exact hp.len,fun j hj p t hh=>?_,fun j hj=>?_,fun p t hb=>?_,hp.out⟩
  ·unfold I4 at hh;rw [at_] at hh;by_cases hr:j=(nd l i).r.toNat
   ·rw [BP hr,IO,ch] at hh;obtain ⟨q1,q2⟩:=hp.val i hfi p t hh.1;refine ⟨q1,?_⟩;rw [q2,hvf p,AL (by omega),DJ,hr]
   ·rw [BD hr] at hh;by_cases hlj:j=(nd l i).l.toNat
    ·rw [BP hlj,IO,cl] at hh;obtain ⟨q1,q2⟩:=hp.val i hfi p t hh.1;refine ⟨q1,?_⟩;rw [q2,hvf p,AD hh.2,DI,hlj]
    ·rw [BD hlj] at hh;exact hp.val j (hfr j hj hlj hr) p t hh
  ·unfold I4;rw [at_];by_cases hr:j=(nd l i).r.toNat
   ·rw [BP hr,IO,ef];exact Ab hok hf5 _
   ·rw [BD hr];by_cases hlj:j=(nd l i).l.toNat
    ·rw [BP hlj,IO,ef];exact Ad hok hf5 _
    ·rw [BD hlj];exact hp.ok j (hfr j hj hlj hr)
  ·rcases hp.all p t hb with h1 | ⟨j,hj,hh⟩
   ·exact .inl h1
   ·refine .inr ?_;by_cases e:j=i
    ·subst e;by_cases hd:p.g (nd l j).f.toNat≤(nd l j).a
     ·refine ⟨_,fl,?_⟩;unfold I4;rw [at_,BD (by omega),BP rfl,IO,cl];exact ⟨hh,hd⟩
     ·refine ⟨_,frr,?_⟩;unfold I4;rw [at_,BP rfl,IO,ch];exact ⟨hh,by omega⟩
    ·refine ⟨j,hup j hj e,?_⟩;unfold I4;rw [at_,BD (fun (er:j=(nd l i).r.toNat)=>hnot j (er ▸ nr) hj),BD (fun (er:j=(nd l i).l.toNat)=>hnot j (er ▸ nl) hj)];exact hh
theorem Gu {l:LI} (h:TreeOK l) {b:Bx}:∀ (m i:Nat) (own out:LI),i+m=l.length→PInv l b i own out→∃ own',PInv l b l.length own' (OK (l.drop i) i own out)
 | 0,i,own,out,hd,hp=>by
  have hi:i=l.length:=by omega
  subst hi;rw [vaA,OK];exact ⟨own,hp⟩
 | m+1,i,own,out,hd,hp=>by
  have hi:i < l.length:=by omega
  rw [BG hi,OK];have hs:=zf4 h hi hp;have e:nd l i=DL (l[i]).toInt:=by unfold nd; rw [fB hi]
  rw [e] at hs;exact Gu h m (i+1) _ _ (by omega) hs
theorem zcU {l:LI} (ht:G1 l 4=true) {b:Bx} (hb:b.emp=false) (hok:b.ok) :
  (∀ x∈IX l b,(D7 x).emp=false∧(D7 x).ok∧∀ p t,(D7 x).has p t=true→b.has p t=true∧HE l p=HR x) ∧
   ∀ p t,b.has p t=true→∃ x∈IX l b,(D7 x).has p t=true:=by
 have h:=uV ht;have h1:=h.len.1;have hz:((BN l.length ZB.I).set 0 b.I).getD 0 default=b.I:=by rw [tD (by simp; omega),BP rfl]
 have f0:∀ j,fr l 0 j→j=0:=fun j hj=>by
  rcases hj.2.2 with e | ⟨k,hk,_⟩
  ·exact e
  ·omega
 have h0:PInv l b 0 ((BN l.length ZB.I).set 0 b.I) []:=by
  refine ⟨by simp,fun j hj p t hh=>?_,fun j hj=>?_,fun p t hh=>.inr ⟨0,Bv h (by omega),?_⟩,fun x hx=>by cases hx⟩
  ·obtain rfl:=f0 j hj;unfold I4 at hh;rw [hz,IO] at hh;exact ⟨hh,rfl⟩
  ·obtain rfl:=f0 j hj;unfold I4;rw [hz,IO];exact hok
  ·unfold I4;rw [hz,IO];exact hh
 obtain ⟨own',hp⟩:=Gu h l.length 0 _ _ (by omega) h0;have e:IX l b=OK (l.drop 0) 0 ((BN l.length ZB.I).set 0 b.I) []:=by unfold IX; rw [ht,hb]; rfl
 rw [e];refine ⟨hp.out,fun p t hh=>?_⟩;rcases hp.all p t hh with h1 | ⟨j,hj,_⟩
 ·exact h1
 ·have:=hj.1
  have:=hj.2.1
  omega
theorem El:∀ {l:LI} {a:Int},PI l a≤a∧∀ x∈l,PI l a≤HR x
 | [],a=>⟨vab _,fun x hx=>by cases hx⟩
 | y :: r,a=>by
  rw [PI];obtain ⟨h1,h2⟩:=El (l:=r) (a:=min a (HR y));refine ⟨by omega,fun x hx=>?_⟩;rcases AO.1 hx with rfl | hx
  ·omega
  ·exact h2 x hx
theorem Ei:∀ {l:LI} {a:Int},a≤PH l a∧∀ x∈l,HR x≤PH l a
 | [],a=>⟨vab _,fun x hx=>by cases hx⟩
 | y :: r,a=>by
  rw [PH];obtain ⟨h1,h2⟩:=Ei (l:=r) (a:=max a (HR y));refine ⟨by omega,fun x hx=>?_⟩;rcases AO.1 hx with rfl | hx
  ·omega
  ·exact h2 x hx
theorem Ek:∀ {l:LI} {a:Int},PI l a=a∨∃ x∈l,PI l a=HR x
 | [],a=>.inl rfl
 | y :: r,a=>by
  rw [PI];rcases Ek (l:=r) (a:=min a (HR y)) with h | ⟨x,hx,h⟩
  ·rw [h];by_cases hd:a≤HR y
   ·exact .inl (by omega)
   ·exact .inr ⟨y,AN ..,by omega⟩
  ·exact .inr ⟨x,AY _ hx,h⟩
theorem Eh:∀ {l:LI} {a:Int},PH l a=a∨∃ x∈l,PH l a=HR x
 | [],a=>.inl rfl
 | y :: r,a=>by
  rw [PH];rcases Eh (l:=r) (a:=max a (HR y)) with h | ⟨x,hx,h⟩
  ·rw [h];by_cases hd:HR y≤a
   ·exact .inl (by omega)
   ·exact .inr ⟨y,AN ..,by omega⟩
  ·exact .inr ⟨x,AY _ hx,h⟩
theorem zgl {ps:LI} (hp:ps≠[]):(∀ x∈ps,gD ps≤HR x∧HR x≤gC ps)∧(∃ x∈ps,HR x=gD ps)∧∃ x∈ps,HR x=gC ps:=by
 unfold gD gC;cases ps with
 | nil=>exact absurd rfl hp
 | cons y r=>
  have e:(y :: r).getD 0 default=y:=rfl;rw [e];refine ⟨fun x hx=>⟨El.2 x hx,Ei.2 x hx⟩,?_,?_⟩
  ·rcases Ek (l:=y :: r) (a:=HR y) with h | ⟨x,hx,h⟩
   ·exact ⟨y,AN ..,h.symm⟩
   ·exact ⟨x,hx,h.symm⟩
  ·rcases Eh (l:=y :: r) (a:=HR y) with h | ⟨x,hx,h⟩
   ·exact ⟨y,AN ..,h.symm⟩
   ·exact ⟨x,hx,h.symm⟩
theorem YF {l:LI} (ht:G1 l 4=true) {b:Bx} (hb:b.emp=false) (hok:b.ok) :
  (∀ p t,b.has p t=true→IF l b≤HE l p∧HE l p≤IE l b)∧(∃ p t,b.has p t=true∧HE l p=IF l b)∧∃ p t,b.has p t=true∧HE l p=IE l b:=by
 obtain ⟨h1,h2⟩:=zcU ht hb hok;have hne:IX l b≠[]:=fun e=>by
  obtain ⟨x,hx,_⟩:=h2 b.low b.s4.hi (ZC b hb);rw [e] at hx;cases hx
 obtain ⟨q1,⟨x,hx,q2⟩,⟨y,hy,q3⟩⟩:=zgl hne;have hT:YE l b=true:=by
  unfold YE;cases he:IX l b with
  | nil=>exact absurd he hne
  | cons _ _=>rfl
 unfold IF IE;rw [hT,DI,DI];refine ⟨fun p t hh=>?_,⟨(D7 x).low,(D7 x).s4.hi,?_⟩,⟨(D7 y).low,(D7 y).s4.hi,?_⟩⟩
 ·obtain ⟨z,hz,hzh⟩:=h2 p t hh;rw [((h1 z hz).2.2 p t hzh).2];exact q1 z hz
 ·obtain ⟨r1,r2⟩:=(h1 x hx).2.2 _ _ (ZC _ (h1 x hx).1);exact ⟨r1,r2.trans q2⟩
 ·obtain ⟨r1,r2⟩:=(h1 y hy).2.2 _ _ (ZC _ (h1 y hy).1);exact ⟨r1,r2.trans q3⟩
open Go
theorem aR {m:Md} (hm:EX m=true) {t:IV} (ht:t∈m.ts):G1 (FI t) 4=true:=by
 have h:=MB hm;exact zjp (Ox (CQ.1 h.2.2.2.2 t ht)).2 h.1.2
theorem uO (g:LI→Int) (k:Int) (p:Pt):∀ (ts:LI) (s s':Int),(∀ t∈ts,g (FI t)≤HE (FI t) p)→s≤s'→I9 g k ts s≤QD k p ts s'
 | [],_,_,_,h=>h
 | t :: r,s,s',hg,h=>by
  rw [I9,QD];have h1:=hg t (AN ..);refine uO g k p r _ _ (fun u hu=>hg u (AY _ hu)) ?_;cases (VS t==k) <;> simp only [BJ,BC] <;> omega
theorem uM (g:LI→Int) (k:Int) (p:Pt):∀ (ts:LI) (s s':Int),(∀ t∈ts,HE (FI t) p≤g (FI t))→s'≤s→QD k p ts s'≤I9 g k ts s
 | [],_,_,_,h=>h
 | t :: r,s,s',hg,h=>by
  rw [I9,QD];have h1:=hg t (AN ..);refine uM g k p r _ _ (fun u hu=>hg u (AY _ hu)) ?_;cases (VS t==k) <;> simp only [BJ,BC] <;> omega
theorem sY {m:Md} {k:Int} {b:Bx} (h:G8 m k b=true):EX m=true∧IH m k=true∧b.emp=false:=by
 unfold G8 at h;simp only [AH,B4] at h;exact h
theorem Bg {m:Md} {k:Int} (hm:EX m=true) (hk:IH m k=true) (p:Pt):ET m k p=QD k p m.ts (LY m k):=by
 unfold ET;rw [hm,hk];rfl
theorem zha {m:Md} {k:Int} {b:Bx} (h:G8 m k b=true) (hok:b.ok) {p:Pt} {t:Int} (hh:b.has p t=true):EA m k b≤ET m k p∧ET m k p≤D8 m k b:=by
 obtain ⟨hm,hk,hb⟩:=sY h;unfold EA D8;rw [h,DI,DI,Bg hm hk];exact ⟨uO _ k p m.ts _ _ (fun t ht=>((YF (aR hm ht) hb hok).1 p _ hh).1) (vab _),uM _ k p m.ts _ _ (fun t ht=>((YF (aR hm ht) hb hok).1 p _ hh).2) (vab _)⟩
theorem zg9 {m:Md} {k:Int} {b:Bx} (h:G8 m k b=true) (hok:b.ok) {p:Pt} {t:Int} (hh:b.has p t=true) (hc:∀ u∈m.ts,∀ p' t',b.has p' t'=true→HE (FI u) p'=HE (FI u) p):EA m k b=ET m k p∧D8 m k b=ET m k p:=by
 obtain ⟨hm,hk,hb⟩:=sY h;have h1:=zha h hok hh;have h2:ET m k p≤EA m k b∧D8 m k b≤ET m k p:=by
  unfold EA D8;rw [h,DI,DI,Bg hm hk];refine ⟨uM _ k p m.ts _ _ (fun u hu=>?_) (vab _),uO _ k p m.ts _ _ (fun u hu=>?_) (vab _)⟩
  ·obtain ⟨_,⟨p',t',q1,q2⟩,_⟩:=YF (aR hm hu) hb hok;rw [← hc u hu p' t' q1];exact Int.le_of_eq q2
  ·obtain ⟨_,_,⟨p',t',q1,q2⟩⟩:=YF (aR hm hu) hb hok;rw [← hc u hu p' t' q1];exact Int.le_of_eq q2.symm
 omega
theorem oD {x:Int}:∀ {l:List Int} {p:Int},x∈l→x=p∨x∈MV p l
 | y :: r,p,h=>by
  rw [MV];cases hb:(y==p) with
  | true=>
   have hb:=B8.1 hb;rw [DI];rcases AO.1 h with h | h
   ·exact .inl (h.trans hb)
   ·rcases oD (p:=y) h with h1 | h1
    ·exact .inl (h1.trans hb)
    ·exact .inr h1
  | false=>
   rw [DJ];rcases AO.1 h with h | h
   ·exact .inr (h ▸ AN ..)
   ·rcases oD (p:=y) h with h1 | h1
    ·exact .inr (h1 ▸ AN ..)
    ·exact .inr (AY _ h1)
theorem Wd {x:Int} {l:List Int} (h:x∈l):x∈KH l:=by
 cases l with
 | nil=>cases h
 | cons y r=>
  rw [KH];rcases AO.1 h with h | h
  ·exact h ▸ AN ..
  ·rcases oD (p:=y) h with h1 | h1
   ·exact h1 ▸ AN ..
   ·exact AY _ h1
theorem zjh {ts:LI} {f a:Int}:a∈JV ts f↔∃ t∈ts,∃ w∈FI t,(DL w.toInt).lf=false∧(DL w.toInt).f=f∧(DL w.toInt).a=a:=by
 have e:a∈JV ts f↔a∈IQ ts f:=by
  unfold JV;exact ⟨fun h=>(TR _).mem_iff.1 (zY h),fun h=>Wd ((TR _).mem_iff.2 h)⟩
 rw [e];unfold IQ;simp only [List.mem_flatMap];constructor
 ·rintro ⟨t,ht,w,hw,h⟩;unfold JA at h;cases hc:(!(DL w.toInt).lf&&(DL w.toInt).f==f) with
  | false=>rw [hc,DJ] at h; cases h
  | true=>
   rw [hc,DI] at h;simp only [AH,B4,B8] at hc;exact ⟨t,ht,w,hw,hc.1,hc.2,(BL.1 h).symm⟩
 ·rintro ⟨t,ht,w,hw,h1,h2,h3⟩;refine ⟨t,ht,w,hw,?_⟩;unfold JA;rw [h1,h2,CY];exact BL.2 h3.symm
def ZS (m:Md) (s:Sp) (f:Int):Prop:=∀ a∈JV m.ts f,¬ (s.lo≤a∧a < s.hi)
theorem zcL {lo hi a:Int} {l:List Int}:a∈LF lo hi l↔a∈l∧lo≤a∧a < hi:=by
 unfold LF;rw [List.mem_filter];simp only [B4,vaq,BW];constructor
 ·rintro ⟨h,h1,h2⟩; exact ⟨h,by omega,by omega⟩
 ·rintro ⟨h,h1,h2⟩; exact ⟨h,by omega,by omega⟩
theorem XD {m:Md} {q:Qy} {b:Bx} {i:Nat} {a:Int}:a∈FG m q b i↔0≤IW q (i:Int)∧a∈JV m.ts (IW q (i:Int))∧(b.g i).lo≤a∧a < (b.g i).hi:=by
 unfold FG;cases hd:decide (IW q (i:Int) < 0) with
 | true=>
  have:=A1 hd
  rw [DI];constructor
  ·intro h; cases h
  ·rintro ⟨h,_⟩; omega
 | false=>
  have:=BH hd
  rw [DJ,zcL];constructor
  ·intro h; exact ⟨by omega,h⟩
  ·exact fun h=>h.2
theorem Br {m:Md} {q:Qy} {b:Bx} {i:Nat} (h:FG m q b i=[]) (hf:0≤IW q (i:Int)):ZS m (b.g i) (IW q (i:Int)):=by
 intro a ha hr
 have:a∈FG m q b i:=XD.2 ⟨hf,ha,hr⟩
 rw [h] at this;cases this
theorem o6 {q:Qy} {i:Nat} (hi:i < 4):IW q (i:Int)=(i:Int):=by
 unfold IW;rw [AD (show (i:Int)≥0 by omega),AD (show (i:Int) < 4 by omega)];rfl
theorem u5 {l:LI} {p p':Pt} (h:∀ w∈l,GJ w.toInt=true→(DL w.toInt).lf=false→(p.g (DL w.toInt).f.toNat≤(DL w.toInt).a↔p'.g (DL w.toInt).f.toNat≤(DL w.toInt).a)):∀ (n:Nat) (a:Int),IU l p n a=IU l p' n a
 | 0,_=>rfl
 | n+1,a=>by
  rw [IU,IU];cases decide (a≥ic l.length) with
  | true=>rfl
  | false=>
   rw [DJ,DJ];by_cases hlt:a.toNat < l.length
   ·have hw:l.getD a.toNat default∈l:=by rw [fB hlt]; exact C1 hlt
    generalize l.getD a.toNat default=w at hw ⊢;cases hb:GJ w.toInt with
    | false=>rfl
    | true=>
     rw [A2,DJ,DJ];cases hl:(DL w.toInt).lf with
     | true=>rfl
     | false=>
      have:=h w hw hb hl
      have ed:decide (p.g (DL w.toInt).f.toNat≤(DL w.toInt).a)=decide (p'.g (DL w.toInt).f.toNat≤(DL w.toInt).a):=by
       rw [va1,AQ,AQ];exact this
      rw [DJ,DJ,ed,u5 h n _,u5 h n _]
   ·have e:l.getD a.toNat default=default:=by
     rw [BV,BZ (by omega)];rfl
    rw [e];rfl
theorem zan {m:Md} {b:Bx} (hf:∀ f:Nat,f < 4→ZS m (b.g f) (f:Int)) {u:IV} (hu:u∈m.ts) {p p':Pt} {t t':Int} (h:b.has p t=true) (h':b.has p' t'=true):HE (FI u) p'=HE (FI u) p:=by
 unfold HE jP;rw [u5 (p:=p') (p':=p) fun w hw hb hl=>?_];obtain ⟨⟨f0,f4⟩,_⟩:=qV hb hl;have ef:(DL w.toInt).f=(((DL w.toInt).f.toNat:Nat):Int):=by omega
 have hlt:(DL w.toInt).f.toNat < 4:=by omega
 have h1:=PQ.1 (RD.1 h _ (show (DL w.toInt).f.toNat < 5 by omega));have h2:=PQ.1 (RD.1 h' _ (show (DL w.toInt).f.toNat < 5 by omega));rw [jF _ _ hlt] at h1 h2;have h3:=hf _ hlt (DL w.toInt).a (zjh.2 ⟨u,hu,w,hw,hl,ef,rfl⟩);omega
theorem gN {m:Md} {k:Int} {b:Bx} (h:G8 m k b=true) (hok:b.ok) (hf:∀ f:Nat,f < 4→ZS m (b.g f) (f:Int)) {p:Pt} {t:Int} (hh:b.has p t=true):EA m k b=ET m k p∧D8 m k b=ET m k p:=
 zg9 h hok hh fun _ hu _ _ h'=>zan hf hu hh h'
theorem qJ {m:Md} {c lo:Int} {b:Bx}:∀ (d:Nat) (i a:Int) (z:Bool),(0 < RQ m c lo b d i a z↔(z=true∨∃ j:Nat,j < d∧i+j≠c)∧(z=true→0 < a)∧∀ j:Nat,j < d→i+j≠c→D8 m (i+j) b < lo)∨(z=false∧∀ j:Nat,j < d→i+j=c)
 | 0,i,a,z=>by
  cases z with
  | false=>exact .inr ⟨rfl,fun j hj=>absurd hj (Nat.not_lt_zero j)⟩
  | true=>
   refine .inl ?_;rw [RQ];exact ⟨fun h=>⟨.inl rfl,fun _=>h,fun j hj=>absurd hj (Nat.not_lt_zero j)⟩,fun h=>h.2.1 rfl⟩
 | d+1,i,a,z=>by
  rw [RQ];have sh:∀ j:Nat,i+1+(j:Int)=i+((j+1:Nat):Int):=fun j=>by omega
  cases hc:(i==c) with
  | true=>
   have hc:=B8.1 hc;rw [DI];rcases qJ (m:=m) (c:=c) (lo:=lo) (b:=b) d (i+1) a z with h | ⟨h1,h2⟩
   ·refine .inl (h.trans ?_);constructor
    ·rintro ⟨q1,q2,q3⟩;refine ⟨q1.imp_right ?_,q2,fun j hj hne=>?_⟩
     ·rintro ⟨j,hj,hne⟩; exact ⟨j+1,by omega,by rw [← sh j]; exact hne⟩
     ·cases j with
      | zero=>exact absurd (by simpa using hc) hne
      | succ j=>rw [← sh j] at hne ⊢; exact q3 j (by omega) hne
    ·rintro ⟨q1,q2,q3⟩;refine ⟨q1.imp_right ?_,q2,fun j hj hne=>?_⟩
     ·rintro ⟨j,hj,hne⟩;cases j with
      | zero=>exact absurd (by simpa using hc) hne
      | succ j=>exact ⟨j,by omega,by rw [sh j]; exact hne⟩
     ·rw [sh j] at hne ⊢; exact q3 (j+1) (by omega) hne
   ·refine .inr ⟨h1,fun j hj=>?_⟩;cases j with
    | zero=>simpa using hc
    | succ j=>rw [← sh j]; exact h2 j (by omega)
  | false=>
   have hc:i≠c:=fun e=>by rw [e,CY] at hc; cases hc
   rw [DJ];refine .inl ?_;have key:∀ (a':Int),(0 < a'↔(z=true→0 < a)∧D8 m i b < lo)→(0 < RQ m c lo b d (i+1) a' true↔(z=true∨∃ j:Nat,j < d+1∧i+(j:Int)≠c)∧(z=true→0 < a)∧∀ j:Nat,j < d+1→i+(j:Int)≠c→D8 m (i+j) b < lo):=fun a' ha'=>by
    rcases qJ (m:=m) (c:=c) (lo:=lo) (b:=b) d (i+1) a' true with h | ⟨h1,_⟩
    ·rw [h];constructor
     ·rintro ⟨_,q2,q3⟩;obtain ⟨r1,r2⟩:=ha'.1 (q2 rfl);refine ⟨.inr ⟨0,by omega,by simpa using hc⟩,r1,fun j hj hne=>?_⟩;cases j with
      | zero=>simpa using r2
      | succ j=>rw [← sh j] at hne ⊢; exact q3 j (by omega) hne
     ·rintro ⟨_,q2,q3⟩;have r2:=q3 0 (by omega) (by simpa using hc);refine ⟨.inl rfl,fun _=>ha'.2 ⟨q2,by simpa using r2⟩,fun j hj hne=>?_⟩;rw [sh j] at hne ⊢;exact q3 (j+1) (by omega) hne
    ·cases h1
   cases z with
   | false=>
    rw [A8,Bool.true_or,DI];exact key _ ⟨fun h=>⟨fun h=>(by cases h),by omega⟩,fun h=>by have:=h.2; omega⟩
   | true=>
    rw [A2,vaw];cases hd:decide (lo - D8 m i b < a) with
    | true=>
     have hd:=A1 hd;rw [DI];exact key _ ⟨fun h=>⟨fun _=>by omega,by omega⟩,fun h=>by have:=h.2; omega⟩
    | false=>
     have hd:=BH hd;rw [DJ];exact key _ ⟨fun h=>⟨fun _=>h,by omega⟩,fun h=>h.1 rfl⟩
theorem Ef {m:Md} {c:Int} {b:Bx} (h:NU m c b=true):0 < VA m c b↔∀ j:Nat,(j:Int) < m.c→(j:Int)≠c→D8 m (j:Int) b < EA m c b:=by
 have h0:=h;unfold NU at h0;rw [AH,AQ] at h0;obtain ⟨hs,h2⟩:=h0;have hc:=zV (sY hs).2.1;unfold VA;rw [h,DI];rcases qJ (m:=m) (c:=c) (lo:=EA m c b) (b:=b) m.c.toNat 0 0 false with h1 | ⟨_,h1⟩
 ·rw [h1];simp only [Int.zero_add];constructor
  ·rintro ⟨_,_,q⟩ j hj hne;exact q j (by omega) hne
  ·intro q;refine ⟨.inr ?_,fun h=>(by cases h),fun j hj hne=>q j (by omega) hne⟩;by_cases e:c=0
   ·exact ⟨1,by omega,by omega⟩
   ·exact ⟨0,by omega,by omega⟩
 ·have q0:=h1 0 (by omega);have q1:=h1 1 (by omega);omega
theorem zgm (p:Pt) (x t:Int):∀ {f i:Nat},f < 4→i < 5→co (p.p x f) t i=if i=f then x else co p t i
 | 0,0,_,_=>rfl
 | 0,1,_,_=>rfl
 | 0,2,_,_=>rfl
 | 0,3,_,_=>rfl
 | 0,4,_,_=>rfl
 | 1,0,_,_=>rfl
 | 1,1,_,_=>rfl
 | 1,2,_,_=>rfl
 | 1,3,_,_=>rfl
 | 1,4,_,_=>rfl
 | 2,0,_,_=>rfl
 | 2,1,_,_=>rfl
 | 2,2,_,_=>rfl
 | 2,3,_,_=>rfl
 | 2,4,_,_=>rfl
 | 3,0,_,_=>rfl
 | 3,1,_,_=>rfl
 | 3,2,_,_=>rfl
 | 3,3,_,_=>rfl
 | 3,4,_,_=>rfl
 | f+4,_,h,_=>absurd h (by omega)
 | _,i+5,_,h=>absurd h (by omega)
theorem z6 (p:Pt) (t t':Int):∀ {i:Nat},i < 4→co p t i=co p t' i
 | 0,_=>rfl
 | 1,_=>rfl
 | 2,_=>rfl
 | 3,_=>rfl
 | i+4,h=>absurd h (by omega)
theorem zak {q:Qy} {b:Bx} (hp:HB q=true) {p:Pt} {t:Int} (h:b.has p t=true):(J6 q b).has p 0=true:=by
 rw [RD] at h ⊢;intro i hi;unfold J6;rw [hp,DI,LZ _ _ (by omega) hi];by_cases e:i=4
 ·subst e;rw [BP rfl];rfl
 ·rw [BD e,z6 p 0 t (by omega)];exact h i hi
theorem zhg {q:Qy} {b:Bx} (hp:HB q=true) {p:Pt} {t:Int} (h:b.has p t=true):(KA q b).has (JJ q p t) 0=true:=by
 have hf:q.ft.toNat < 4:=by rcases RY hp with e | e | e | e <;> rw [e] <;> decide
 rw [RD] at h ⊢;intro i hi;unfold KA JJ;rw [hp,DI,DI,LZ _ _ (by omega) hi];by_cases e:i=4
 ·subst e;rw [BP rfl]
  have:co (p.p t q.ft.toNat) 0 4=0:=rfl
  rw [this];rfl
 ·rw [BD e,LZ _ _ (by omega) hi,zgm p t 0 hf hi];by_cases e2:i=q.ft.toNat
  ·rw [BP e2,BP e2];exact h 4 (by omega)
  ·rw [BD e2,BD e2,z6 p 0 t (by omega)];exact h i hi
theorem zal {q:Qy} {b:Bx} (hb:b.ok):(J6 q b).ok:=by
 unfold J6;cases HB q with
 | true=>exact fZ (s:=⟨0,0⟩) (i:=4) hb (show (0:Int)≤2147483647 by omega) (by omega)
 | false=>exact hb
theorem zhh {q:Qy} {b:Bx} (hb:b.ok):(KA q b).ok:=by
 unfold KA;cases hp:HB q with
 | true=>
  have hf:q.ft.toNat < 5:=by rcases RY hp with e | e | e | e <;> rw [e] <;> decide
  exact fZ (s:=⟨0,0⟩) (i:=4) (fZ hb (hb 4 (by omega)) hf) (show (0:Int)≤2147483647 by omega) (by omega)
 | false=>exact hb
theorem oA {m:Md} {k:Int} (h0:0≤k) (h1:k < m.c):IH m k=true:=by
 unfold IH;rw [AD h0,AD h1];rfl
theorem X9 {m:Md} {k:Int} {b:Bx} (hm:EX m=true) (hk:IH m k=true) (hb:b.emp=false):G8 m k b=true:=by
 unfold G8;rw [hm,hk,hb];rfl
theorem rN {m:Md} {q:Qy} (hm:EX m=true) (hk:q.k=3) (hf:0≤q.ft∧q.ft < m.d):HB q=true:=by
 have:=(MB hm).1
 unfold HB;rw [hk,AD (show q.ft≥0 by omega),AD (show q.ft < 4 by omega)];rfl
theorem zfS {m:Md} {q:Qy} {p:Pt} {own:Int}:fY m q p own=true↔∃ j:Nat,(j:Int) < m.c∧(j:Int)≠q.c∧ET m (j:Int) p≥own:=by
 unfold fY;rw [List.any_eq_true];constructor
 ·rintro ⟨c,hc,h⟩;simp only [AH,B4,A5,AQ] at h;exact ⟨c,by have:=va6.1 hc; omega,h.1,h.2⟩
 ·rintro ⟨j,h1,h2,h3⟩;refine ⟨j,va6.2 (by omega),?_⟩;simp only [AH,B4,A5,AQ];exact ⟨h2,h3⟩
theorem Vu {m:Md} {q:Qy} {b:Bx} (hr:E8 m q=true) (hb:b.emp=false) (hok:b.ok) (hn:∀ i,i < 5→FG m q b i=[]):GW m q b=true∨HJ m q b.low b.s4.hi=true:=by
 obtain ⟨hm,⟨c0,c1⟩,_,_,hk⟩:=X7 hr;have hcl:=oA c0 c1;have hs:=X9 hm hcl hb;have hh:=ZC b hb;have hfl:∀ f:Nat,f < 4→ZS m (b.g f) (f:Int):=fun f hf=>by
  have:=Br (hn f (by omega)) (by rw [o6 hf]; omega)
  rwa [o6 hf] at this
 unfold GW HJ;rw [hr,hb,A6,A6,DJ];rcases kF hk with ⟨e,_⟩ | ⟨e,h2,_⟩ | ⟨e,hf,_⟩
 ·rw [e];obtain ⟨q1,q2⟩:=gN hs hok hfl hh;show (G8 m q.c b&&(decide (q.lo≤EA m q.c b)&&decide (D8 m q.c b≤q.hi)))=true∨(!(Sp.has ⟨q.lo,q.hi⟩ (ET m q.c b.low)))=true;rw [hs,q1,q2,A6];unfold Sp.has;cases (decide (q.lo≤ET m q.c b.low)&&decide (ET m q.c b.low≤q.hi)) with
  | true=>exact .inl rfl
  | false=>exact .inr rfl
 ·rw [e];show (NU m q.c b&&decide (VA m q.c b > 0))=true∨fY m q b.low (ET m q.c b.low)=true;have hg:NU m q.c b=true:=by unfold NU; rw [hs,AD (show m.c≥2 from h2)]; rfl
  rw [hg,A6];cases ho:fY m q b.low (ET m q.c b.low) with
  | true=>exact .inr rfl
  | false=>
   refine .inl (AD ((Ef hg).2 fun j hj hne=>?_));have q1:=(gN hs hok hfl hh).1;have q2:=(gN (X9 hm (oA (k:=(j:Int)) (by omega) hj) hb) hok hfl hh).2;have q3:¬ ET m (j:Int) b.low≥ET m q.c b.low:=fun h=>by
    rw [zfS.2 ⟨j,hj,hne,h⟩] at ho;cases ho
   omega
 ·rw [e];have hp:=rN hm e hf;have hf5:q.ft.toNat < 4:=by rcases RY hp with e | e | e | e <;> rw [e] <;> decide
  have ef:q.ft=((q.ft.toNat:Nat):Int):=by omega
  show cond (!(QI q b)) true (cond q.fl (LC m q b&&decide (S2 m q b≤0)) (LC m q b&&decide (S3 m q b≥0)))=true∨cond (decide (b.low.g q.ft.toNat≥b.s4.hi)) false (cond q.fl (decide (ET m q.c (JJ q b.low b.s4.hi) > ET m q.c b.low)) (decide (ET m q.c (JJ q b.low b.s4.hi) < ET m q.c b.low)))=true;cases ho:QI q b with
  | false=>exact .inl rfl
  | true=>
   have hlt:b.low.g q.ft.toNat < b.s4.hi:=by
    unfold QI at ho;simp only [AH,AQ] at ho;have h1:=ho.2.2
    have:b.low.g q.ft.toNat=(b.g q.ft.toNat).lo:=by
     match q.ft.toNat,hf5 with
     | 0,_=>rfl
     | 1,_=>rfl
     | 2,_=>rfl
     | 3,_=>rfl
     | n+4,h=>exact absurd h (by omega)
    omega
   have f1:=zak (b:=b) hp hh;have f2:=zhg (b:=b) hp hh;have k1:=X9 hm hcl (i7 f1);have k2:=X9 hm hcl (i7 f2);have fl1:∀ f:Nat,f < 4→ZS m ((J6 q b).g f) (f:Int):=fun f hf=>by
    unfold J6;rw [hp,DI,LZ _ _ (by omega) (by omega),BD (by omega)];exact hfl f hf
   have fl2:∀ f:Nat,f < 4→ZS m ((KA q b).g f) (f:Int):=fun f hf=>by
    unfold KA;rw [hp,DI,LZ _ _ (by omega) (by omega),BD (by omega),LZ _ _ (by omega) (by omega)];by_cases e2:f=q.ft.toNat
    ·rw [BP e2];have e4:IW q ((4:Nat):Int)=q.ft:=by unfold IW; rw [e]; rfl
     have:=Br (hn 4 (by omega)) (by rw [e4]; omega)
     rw [e4,ef,← e2] at this;exact this
    ·rw [BD e2];exact hfl f hf
   obtain ⟨q1,q2⟩:=gN k1 (zal hok) fl1 f1;obtain ⟨q3,q4⟩:=gN k2 (zhh hok) fl2 f2;have hch:LC m q b=true:=by unfold LC; rw [hp,k1,k2]; rfl
   rw [A2,DJ,hch,A6,A6,AL (show ¬ b.low.g q.ft.toNat≥b.s4.hi by omega),DJ];unfold S2 S3;rw [hch,DI,DI,q1,q2,q3,q4];cases q.fl with
   | true=>
    rw [DI,DI];by_cases hd:ET m q.c (JJ q b.low b.s4.hi) > ET m q.c b.low
    ·exact .inr (AD hd)
    ·exact .inl (AD (by omega))
   | false=>
    rw [DJ,DJ];by_cases hd:ET m q.c (JJ q b.low b.s4.hi) < ET m q.c b.low
    ·exact .inr (AD hd)
    ·exact .inl (AD (by omega))
theorem Ls {m:Md} {q:Qy} {b:Bx}:∀ (d i:Nat),(LR m q b d i).isSome=false→∀ j,i≤j→j < i+d→FG m q b j=[]
 | 0,i,_,j,h1,h2=>by omega
 | d+1,i,h,j,h1,h2=>by
  rw [LR] at h;cases hc:decide ((FG m q b i).length > 0) with
  | true=>rw [hc,DI] at h; cases h
  | false=>
   rw [hc,DJ] at h;have hc:=BH hc;by_cases e:j=i
   ·subst e;exact List.length_eq_zero_iff.1 (by omega)
   ·exact Ls d (i+1) h j (by omega) (by omega)
theorem ziI {m:Md} {q:Qy} {b:Bx} (h:(E1 m q b).isSome=false):∀ i,i < 5→FG m q b i=[]:=fun i hi=>Ls 5 0 h i (B5 _) (by omega)
theorem Lt {m:Md} {q:Qy} {b:Bx}:∀ (d i:Nat),(LR m q b d i).isSome=true→∃ j:Nat,i≤j∧j < i+d∧KC (LR m q b d i)=(j:Int)∧0 < (FG m q b j).length∧I8 (LR m q b d i)=(FG m q b j).getD (((FG m q b j).length - 1) / 2) 0∧∀ k,i≤k→k < j→FG m q b k=[]
 | 0,i,h=>by rw [LR] at h; cases h
 | d+1,i,h=>by
  rw [LR] at h ⊢;cases hc:decide ((FG m q b i).length > 0) with
  | true=>exact ⟨i,AZ _,by omega,rfl,A1 hc,rfl,fun k h1 h2=>absurd h1 (by omega)⟩
  | false=>
   rw [hc,DJ] at h;rw [DJ];have hc:=BH hc;obtain ⟨j,h1,h2,h3,h4,h5,h6⟩:=Lt d (i+1) h;refine ⟨j,by omega,by omega,h3,h4,h5,fun k hk1 hk2=>?_⟩;by_cases e:k=i
   ·subst e;exact List.length_eq_zero_iff.1 (by omega)
   ·exact h6 k (by omega) hk2
theorem uE {m:Md} {q:Qy} {b:Bx} (h:(E1 m q b).isSome=true):∃ j:Nat,j < 5∧KC (E1 m q b)=(j:Int)∧0 < (FG m q b j).length∧I8 (E1 m q b)=(FG m q b j).getD (((FG m q b j).length - 1) / 2) 0∧I8 (E1 m q b)∈FG m q b j:=by
 obtain ⟨j,_,h2,h3,h4,h5,_⟩:=Lt 5 0 h;refine ⟨j,by omega,h3,h4,h5,?_⟩;have hlt:((FG m q b j).length - 1) / 2 < (FG m q b j).length:=by omega
 have:I8 (E1 m q b)=(FG m q b j)[((FG m q b j).length - 1) / 2]:=by
  refine Eq.trans h5 ?_;simp [hlt]
 rw [this];exact C1 hlt
open Go
abbrev kFt:List Kd:=[.z,.list false [.z],.list false [.z],.list false [.z],.list false [.z]]
structure Ft where
 d:Int
 c:Int
 bias:LI
 ts:LI
def Ft.cs (f:Ft):List FM.V:=[.int .i64 f.d,.int .i64 f.c,.list false [.z] f.bias,.list true kFt f.ts]
def Ft.V (f:Ft):FM.V:=.agg f.cs
def Ft.M (f:Ft):Md:=kT f.d f.c f.bias f.ts
def ftOf?:List FM.V→Option Ft
 | [.int .i64 d,.int .i64 c,.list false [.z] b,.list true [.z,.list false [.z],.list false [.z],.list false [.z],.list false [.z]] t]=>some ⟨d,c,b,t⟩
 | _=>none
def akOf?:List FM.V→Option Ak
 | [.int .i64 k,.int .i64 c,.int .i64 lo,.int .i64 size,.int .i64 ft,.int .i64 bu,.bool fl,.list false [.z] sp]=>some ⟨k,c,lo,size,ft,bu,fl,sp⟩
 | _=>none
abbrev aX (v:FM.V) (k:Ft→R):R:=SB ftOf? v k
abbrev Qa (v:FM.V) (k:Ak→R):R:=SB akOf? v k
theorem hZ {v:FM.V} {k:Ft→R} {z:FM.V × List (List FM.V)} (h:(aX v k).get=some z):∃ x:Ft,v=x.V∧(k x).get=some z:=by
 obtain ⟨l,x,rfl,hx,h⟩:=V1 h;unfold ftOf? at hx;split at hx
 ·simp only [AC] at hx;subst hx;exact ⟨_,rfl,h⟩
 ·cases hx
theorem zjK {v:FM.V} {k:Ak→R} {z:FM.V × List (List FM.V)} (h:(Qa v k).get=some z):∃ x:Ak,v=x.V∧(k x).get=some z:=by
 obtain ⟨l,x,rfl,hx,h⟩:=V1 h;unfold akOf? at hx;split at hx
 ·simp only [AC] at hx;subst hx;exact ⟨_,rfl,h⟩
 ·cases hx
def FT (a:Ak) (m:Md):Qy:=JI a m.d m.c
def PN (m:Md):Bool:=(decide (1≤m.d)&&decide (m.d≤4))&&(decide (1≤m.c)&&decide (m.c≤3))
def SV:DV
 | [f]=>aX f fun f=>.ok f.M.V []
 | _=>.no
def SU:DV
 | [a,m]=>Qa a fun a=>J1 m fun m=>.br (PN m) (.ok (FT a m).V []) .no
 | _=>.no
def Qy.bud (q:Qy) (b:Int):Qy:=⟨q.k,q.c,q.a0,q.b0,q.a1,q.b1,q.a2,q.b2,q.a3,q.b3,q.a4,q.b4,q.lo,q.hi,q.ft,q.fl,b⟩
theorem Tq {vs:List FM.V} {z:FM.V × List (List FM.V)} (h:(SV vs).get=some z):(iG vs).get=some z:=by
 unfold SV at h;split at h
 ·replace h:=hZ h;obtain ⟨f,rfl,h⟩:=h;exact h
 ·simp [R.get] at h
theorem Tt {vs:List FM.V} {z:FM.V × List (List FM.V)} (h:(SU vs).get=some z):(iF vs).get=some z:=by
 unfold SU at h;split at h
 ·replace h:=zjK h;obtain ⟨a,rfl,h⟩:=h;replace h:=KE h;obtain ⟨m,rfl,h⟩:=h;exact h
 ·simp [R.get] at h
open Go
def Bx.good (b:Bx):Prop:=∀ i,i < 5 → -2147483648≤(b.g i).lo∧(b.g i).lo≤(b.g i).hi∧(b.g i).hi≤2147483647
theorem Bx.good.emp {b:Bx} (h:b.good):b.emp=false:=nS.2 fun i hi=>(h i hi).2.1
theorem Bx.good.ok {b:Bx} (h:b.good):b.ok:=fun i hi=>(h i hi).2.2
def Sp.good (s:Sp):Prop := -2147483648≤s.lo∧s.lo≤s.hi∧s.hi≤2147483647
theorem VG {b:Bx} (hb:b.good) {s:Sp} (hs:s.good) {i:Nat} (hi:i < 5):(b.p s i).good:=by
 intro j hj;rw [LZ b s hi hj];by_cases h:j=i
 ·rw [BP h]; exact hs
 ·rw [BD h]; exact hb j hj
theorem Ln {lo hi:Int} (h0 : -2147483648≤lo) (h1:lo≤hi) (h2:hi≤2147483647):(M8 lo hi).good:=by
 unfold M8;rw [AL (by omega),DJ];exact ⟨h0,h1,h2⟩
theorem Ac {b:Bx} (hb:b.good) {i:Nat} (hi:i < 5) {a:Int} (h1:(b.g i).lo≤a) (h2:a < (b.g i).hi):(b.cutL (i:Int) a).good:=by
 unfold Bx.cutL;rw [BF];have h:=hb i hi;refine VG hb (Ln h.1 ?_ ?_) hi <;> omega
theorem Aa {b:Bx} (hb:b.good) {i:Nat} (hi:i < 5) {a:Int} (h1:(b.g i).lo≤a) (h2:a < (b.g i).hi):(b.cutH (i:Int) a).good:=by
 unfold Bx.cutH;rw [BF];have h:=hb i hi;have e:FO (a+1)=a+1:=EL (by omega) (by omega);refine VG hb ?_ hi;unfold Sp.cutH;rw [AL (by omega),DJ,e];exact Ln (by omega) (by omega) h.2.2
theorem gU {d i:Int} {s:Sp} (h:K5 d i s=true):s.good:=by
 unfold K5 at h;simp only [AH,B4,E5,Sp.emp,AQ,BW] at h;obtain ⟨_,h1,h2,h3⟩:=h;exact ⟨h2.1,by omega,h3.2⟩
theorem VN {m:Md} {q:Qy} (h:E8 m q=true):EX m=true∧(0≤q.c∧q.c < m.c)∧(0≤q.bu∧q.bu≤65536)∧QL q.bx m.d=true∧RL m q=true:=by
 unfold E8 at h;simp only [AH,AQ] at h;exact ⟨h.1,⟨h.2.1,h.2.2.1⟩,⟨h.2.2.2.1,h.2.2.2.2.1⟩,h.2.2.2.2.2.1,h.2.2.2.2.2.2⟩
theorem zgJ {b:Bx} {d:Int} (h:QL b d=true):b.good:=by
 unfold QL at h;simp only [AH] at h;intro i hi
 match i,hi with
 | 0,_=>exact gU h.1
 | 1,_=>exact gU h.2.1
 | 2,_=>exact gU h.2.2.1
 | 3,_=>exact gU h.2.2.2.1
 | 4,_=>exact gU h.2.2.2.2
 | n+5,hi=>omega
theorem mE {m:Md} {q:Qy} (h:E8 m q=true):(GE q).good:=by
 have hb:=zgJ (VN h).2.2.2.1;unfold GE;refine VG hb ?_ (by omega);cases hp:HB q with
 | false=>rw [DJ]; exact ⟨by decide,by decide,by decide⟩
 | true=>
  rw [DI];unfold HB at hp;simp only [AH,AQ] at hp;exact hb q.ft.toNat (by omega)
def Z0 (s:Sr):Prop:=∀ x∈s.left,(D7 x).good
theorem mM {s:Sr} (h:Z0 s) (hl:0 < s.left.length):(D0 s.left).good:=by
 unfold D0;refine h _ ?_;rw [BV,A9 (by omega)];exact C1 _
theorem zdm {m:Md} {q:Qy} (h:E8 m q=true):Z0 ⟨[(GE q).I],[],Vd.none,0⟩:=by
 intro x hx;obtain rfl:=BL.1 hx;rw [IO];exact mE h
theorem Nu {m:Md} {q:Qy} {s:Sr} (hr:E8 m q=true) (hg:Z0 s) (hl:0 < s.left.length) (h1:GW m q (D0 s.left)=false) (h2:HJ m q (D0 s.left).low (D0 s.left).s4.hi=false) :
  (E1 m q (D0 s.left)).isSome=true:=by
 have ht:=mM hg hl;cases hs:(E1 m q (D0 s.left)).isSome with
 | true=>rfl
 | false=>
  rcases Vu hr ht.emp ht.ok (ziI hs) with h | h
  ·rw [h1] at h; cases h
  ·rw [h2] at h; cases h
theorem aA {l:LI} {x:IV} (h:x∈F8 l):x∈l:=vaI h
theorem zi1 {m:Md} {q:Qy} {s:Sr} (hg:Z0 s) (hl:0 < s.left.length):Z0 (GM m q s):=by
 have hp:∀ x∈F8 s.left,(D7 x).good:=fun x hx=>hg x (aA hx)
 unfold GM;cases GW m q (D0 s.left) with
 | true=>exact hp
 | false=>
  cases HJ m q (D0 s.left).low (D0 s.left).s4.hi with
  | true=>exact hp
  | false=>
   cases hs:(E1 m q (D0 s.left)).isSome with
   | false=>exact hp
   | true=>
    obtain ⟨j,hj,ei,_,_,hm⟩:=uE hs;have hc:=XD.1 hm;have ht:=mM hg hl;intro x hx;rw [DJ,DJ,DI] at hx;rcases AX.1 hx with hx | hx
    ·exact hp x hx
    ·rw [ei] at hx;rcases AO.1 hx with rfl | hx
     ·rw [IO]; exact Aa ht hj hc.2.2.1 hc.2.2.2
     ·obtain rfl:=BL.1 hx;rw [IO]; exact Ac ht hj hc.2.2.1 hc.2.2.2
theorem QZ (n lo hi:Int) (h:lo≤hi) (h0 : -2000000000000000000≤lo) (h1:hi≤2000000000000000000):lo≤DO n lo hi∧DO n lo hi≤hi:=
 (HG (n:=n) (lo:=lo) (hi:=hi) (by omega) (by omega) (by omega)).2
theorem YZ (f:Ft):EX f.M=true:=zdj _ _ _ _
theorem O2 (f:Ft):PN f.M=true:=by
 have hd:1≤f.M.d∧f.M.d≤3:=ZM f.d;have hc:1≤f.M.c∧f.M.c≤3:=eJ f.c;unfold PN;rw [AD hd.1,AD (show f.M.d≤4 by omega),AD hc.1,AD hc.2];rfl
theorem lG (d:Int) (l:LI) (i:Nat):K5 d (i:Int) ⟨FY d l (i:Int),FZ d l (i:Int)⟩=true:=by
 have h1:=QZ (EM l (2*(i:Int))) (-2) 9 (by omega) (by omega) (by omega);have h2:=QZ (EM l (2*(i:Int)+1)) 0 11 (by omega) (by omega) (by omega);unfold K5 Sp.emp FY FZ E5;by_cases h:(i:Int) < d
 ·rw [AD h,DI,DI,AL (show ¬ (i:Int)≥d by omega)];simp only [BM,A8,A6,AH,B4,AQ,BW];omega
 ·rw [AL h,DJ,DJ];simp
theorem zcM (a:Ak) (c:Int):FP a c=1∨(FP a c=2∧2≤c)∨FP a c=3:=by
 have h:=QZ a.k 1 3 (by omega) (by omega) (by omega);unfold FP;cases h2:(DO a.k 1 3==2) with
 | true=>
  have h2':DO a.k 1 3=2:=by simpa using h2
  by_cases hc:c < 2
  ·rw [AD hc]; exact .inl rfl
  ·rw [AL hc]; exact .inr (.inl ⟨h2',by omega⟩)
 | false=>
  have h2':DO a.k 1 3≠2:=by simpa using h2
  rw [BM,DJ];omega
theorem Uk (f:Ft) (a:Ak) {w:Int} (h0:0≤w) (h1:w≤65536):E8 f.M ((FT a f.M).bud w)=true:=by
 have hd:1≤f.M.d∧f.M.d≤3:=ZM f.d;have hc:1≤f.M.c∧f.M.c≤3:=eJ f.c;have hm:=YZ f;generalize f.M=m at hd hc hm ⊢;have hcl:=QZ a.c 0 (m.c - 1) (by omega) (by omega) (by omega);have hlo:=QZ a.size 0 18000 (by omega) (by omega) (by omega);have hft:=QZ a.ft 0 (m.d - 1) (by omega) (by omega) (by omega);have hreg:QL ((FT a m).bud w).bx m.d=true:=by
  unfold QL;simp only [AH];refine ⟨lG m.d a.sp 0,lG m.d a.sp 1,lG m.d a.sp 2,lG m.d a.sp 3,?_⟩;show K5 m.d 4 ⟨0,0⟩=true;unfold K5;simp [Sp.emp,E5]
 have hkind:RL m ((FT a m).bud w)=true:=by
  unfold RL;show cond (FP a m.c==1) (decide (cond (FP a m.c==1) (KK a) 0≤cond (FP a m.c==1) (KK a+DO a.size 0 18000) 0)&&((cond (FP a m.c==3) (DO a.ft 0 (m.d - 1)) 0==0)&&!(cond (FP a m.c==3) a.fl false)))
   (cond (FP a m.c==2) (decide (m.c≥2)&&((cond (FP a m.c==1) (KK a) 0==0)&&((cond (FP a m.c==1) (KK a+DO a.size 0 18000) 0==0)&&((cond (FP a m.c==3) (DO a.ft 0 (m.d - 1)) 0==0)&&!(cond (FP a m.c==3) a.fl false)))))
    (cond (FP a m.c==3) (decide (cond (FP a m.c==3) (DO a.ft 0 (m.d - 1)) 0≥0)&&(decide (cond (FP a m.c==3) (DO a.ft 0 (m.d - 1)) 0 < m.d)&&((cond (FP a m.c==1) (KK a) 0==0)&&(cond (FP a m.c==1) (KK a+DO a.size 0 18000) 0==0)))) false))=true
  rcases zcM a m.c with h | ⟨h,h2⟩ | h
  ·rw [h];show (decide (KK a≤KK a+DO a.size 0 18000)&&true)=true;rw [AD (by omega)]; rfl
  ·rw [h];show (decide (m.c≥2)&&true)=true;rw [AD h2]; rfl
  ·rw [h];show (decide (DO a.ft 0 (m.d - 1)≥0)&&(decide (DO a.ft 0 (m.d - 1) < m.d)&&true))=true;rw [AD hft.1,AD (by omega)]; rfl
 unfold E8;rw [hm,hreg,hkind,AD (show ((FT a m).bud w).c≥0 from hcl.1),AD (show ((FT a m).bud w).c < m.c by show DO a.c 0 (m.c - 1) < m.c; omega),AD (show ((FT a m).bud w).bu≥0 from h0),AD (show ((FT a m).bud w).bu≤65536 from h1)];rfl
open Go
abbrev kD:List Kd:=[.z,.z,.z,.z,.z,.z,.z,.z,.z,.z,.z]
def QV (a:Int) (b:Bx):IV:=.agg [.int a,.int b.s0.lo,.int b.s0.hi,.int b.s1.lo,.int b.s1.hi,.int b.s2.lo,.int b.s2.hi,.int b.s3.lo,.int b.s3.hi,.int b.s4.lo,.int b.s4.hi]
abbrev H5 (x:IV):Int:=cI x 0
def JZ (x:IV):Bx:=⟨⟨cI x 1,cI x 2⟩,⟨cI x 3,cI x 4⟩,⟨cI x 5,cI x 6⟩,⟨cI x 7,cI x 8⟩,⟨cI x 9,cI x 10⟩⟩
theorem YL (a:Int) (b:Bx):H5 (QV a b)=a:=rfl
theorem TX (a:Int) (b:Bx):JZ (QV a b)=b:=rfl
structure En where
 todo:LI
 lo:Int
 hi:Int
 any:Bool
def E4 (l:LI):IV:=l.getD (l.length - 1) default
def E3 (l:LI) (e:En):Nd:=DL (l.getD (H5 (E4 e.todo)).toNat default).toInt
def eV (l:LI) (e:En):En:=
 cond (!(GJ (l.getD (H5 (E4 e.todo)).toNat default).toInt)||(JZ (E4 e.todo)).emp) ⟨F8 e.todo,e.lo,e.hi,e.any⟩
  (cond (!(E3 l e).lf)
   ⟨F8 e.todo++[QV (E3 l e).l ((JZ (E4 e.todo)).cutL (E3 l e).f (E3 l e).a),QV (E3 l e).r ((JZ (E4 e.todo)).cutH (E3 l e).f (E3 l e).a)],e.lo,e.hi,e.any⟩
   ⟨F8 e.todo,min (cond e.any e.lo (E3 l e).v) (E3 l e).v,max (cond e.any e.hi (E3 l e).v) (E3 l e).v,true⟩)
def oT (b:Bx):En:=⟨[QV 0 b],0,0,false⟩
structure EnI (l:LI) (b:Bx) (e:En):Prop where
 at_:∀ (j:Nat) (x:IV),e.todo[j]?=some x→(j:Int)≤H5 x∧H5 x < ic l.length
 ok:∀ x∈e.todo,(JZ x).ok
 val:∀ x∈e.todo,∀ p t,(JZ x).has p t=true→b.has p t=true∧HE l p=QU l p (H5 x).toNat
 all:∀ p t,b.has p t=true→(∃ x∈e.todo,(JZ x).has p t=true)∨(e.any=true∧e.lo≤HE l p∧HE l p≤e.hi)
 lo:e.any=true→∃ p t,b.has p t=true∧HE l p=e.lo
 hi:e.any=true→∃ p t,b.has p t=true∧HE l p=e.hi
theorem f9 {l:LI} {j:Nat} {x:IV} (h:(F8 l)[j]?=some x):l[j]?=some x:=by
 unfold F8 at h;rw [CL] at h;split at h
 ·exact h
 ·cases h
theorem uB {l:LI} {x:IV} (hl:0 < l.length) (h:x∈l):x∈F8 l∨x=E4 l:=by
 obtain ⟨j,hj⟩:=List.getElem?_of_mem h;have hjl:=(BR.1 hj).1;by_cases hc:j < l.length - 1
 ·refine .inl (vag (i:=j) ?_);unfold F8;rw [CL,BP hc];exact hj
 ·have:j=l.length - 1:=by omega
  subst this;refine .inr ?_;unfold E4;rw [BV,hj];rfl
theorem VU {l:LI} (hl:0 < l.length):E4 l∈l∧l[l.length - 1]?=some (E4 l):=by
 unfold E4;rw [BV,A9 (by omega)];exact ⟨C1 _,rfl⟩
theorem VH (l:LI):(F8 l).length=l.length - 1:=by
 unfold F8;rw [BB]; omega
theorem Xn {l:LI} (ht:TreeOK l) {b:Bx} {e:En} (h:EnI l b e) (hl:0 < e.todo.length):EnI l b (eV l e):=by
 obtain ⟨hm,hg⟩:=VU hl;have ha:=h.at_ _ _ hg;have h31:=ht.len.2;have hpm:∀ x∈F8 e.todo,x∈e.todo:=fun x hx=>aA hx
 have e0:((H5 (E4 e.todo)).toNat:Int)=H5 (E4 e.todo):=by omega
 have hlt:(H5 (E4 e.todo)).toNat < l.length:=by have:=ha.2; simp only [ic] at this; omega
 have hn:=ht.node _ hlt;have hv:=h.val _ hm;have hok:=h.ok _ hm;unfold eV;rw [hn,A2,vaw];cases he:(JZ (E4 e.todo)).emp with
 | true=>
  rw [DI];refine ⟨fun j x hj=>h.at_ j x (f9 hj),fun x hx=>h.ok x (hpm x hx),fun x hx=>h.val x (hpm x hx),fun p t hh=>?_,h.lo,h.hi⟩;rcases h.all p t hh with ⟨x,hx,hxh⟩ | hr
  ·rcases uB hl hx with hx | rfl
   ·exact .inl ⟨x,hx,hxh⟩
   ·have:=i7 hxh
    rw [he] at this; cases this
  ·exact .inr hr
 | false=>
  rw [DJ];cases hlf:(E3 l e).lf with
  | true=>
   rw [A2,DJ];have hvl:∀ p t,(JZ (E4 e.todo)).has p t=true→b.has p t=true∧HE l p=(E3 l e).v:=fun p t hh=>by
    obtain ⟨h1,h2⟩:=hv p t hh;exact ⟨h1,h2.trans (Pp ht p hlt hlf)⟩
   have hlow:=hvl _ _ (ZC _ he);refine ⟨fun j x hj=>h.at_ j x (f9 hj),fun x hx=>h.ok x (hpm x hx),fun x hx=>h.val x (hpm x hx),fun p t hh=>?_,fun _=>?_,fun _=>?_⟩
   ·rcases h.all p t hh with ⟨x,hx,hxh⟩ | ⟨h1,h2,h3⟩
    ·rcases uB hl hx with hx | rfl
     ·exact .inl ⟨x,hx,hxh⟩
     ·refine .inr ⟨rfl,?_,?_⟩
      ·rw [(hvl p t hxh).2]; show min _ _≤_; omega
      ·rw [(hvl p t hxh).2]; show _≤max _ _; omega
    ·refine .inr ⟨rfl,?_,?_⟩
     ·show min (cond e.any e.lo _) _≤_;rw [h1,DI]; omega
     ·show _≤max (cond e.any e.hi _) _;rw [h1,DI]; omega
   ·show ∃ p t,b.has p t=true∧HE l p=min (cond e.any e.lo (E3 l e).v) (E3 l e).v;cases hany:e.any with
    | false=>exact ⟨_,_,hlow.1,by rw [hlow.2,DJ]; omega⟩
    | true=>
     rw [DI];by_cases hc:e.lo≤(E3 l e).v
     ·obtain ⟨p,t,h1,h2⟩:=h.lo hany;exact ⟨p,t,h1,by omega⟩
     ·exact ⟨_,_,hlow.1,by rw [hlow.2]; omega⟩
   ·show ∃ p t,b.has p t=true∧HE l p=max (cond e.any e.hi (E3 l e).v) (E3 l e).v;cases hany:e.any with
    | false=>exact ⟨_,_,hlow.1,by rw [hlow.2,DJ]; omega⟩
    | true=>
     rw [DI];by_cases hc:(E3 l e).v≤e.hi
     ·obtain ⟨p,t,h1,h2⟩:=h.hi hany;exact ⟨p,t,h1,by omega⟩
     ·exact ⟨_,_,hlow.1,by rw [hlow.2]; omega⟩
  | false=>
   rw [A8,DI];obtain ⟨⟨f0,f4⟩,fa,⟨l1,l2⟩,⟨r1,r2⟩,_⟩:=ht.fork _ hlt hlf;replace f0:0≤(E3 l e).f:=f0;replace f4:(E3 l e).f < 4:=f4;replace l1:((H5 (E4 e.todo)).toNat:Int) < (E3 l e).l:=l1;replace l2:(E3 l e).l < ic l.length:=l2;replace r1:((H5 (E4 e.todo)).toNat:Int) < (E3 l e).r:=r1;replace r2:(E3 l e).r < ic l.length:=r2;have ef:(E3 l e).f=(((E3 l e).f.toNat:Nat):Int):=by omega
   have hfl:(E3 l e).f.toNat < 5:=by omega
   have fa' : -2147483648≤(E3 l e).a:=by
    have:E5 (E3 l e).a=true:=fa
    unfold E5 at this;simp only [AH,AQ] at this;exact this.1
   have vf:∀ p:Pt,QU l p (H5 (E4 e.todo)).toNat=QU l p (cond (decide (p.g (E3 l e).f.toNat≤(E3 l e).a)) (E3 l e).l.toNat (E3 l e).r.toNat):=fun p=>Po ht p hlt hlf
   have hL:∀ p t,((JZ (E4 e.todo)).cutL (E3 l e).f (E3 l e).a).has p t=true↔(JZ (E4 e.todo)).has p t=true∧co p t (E3 l e).f.toNat≤(E3 l e).a:=fun p t=>by
    have:=oH (b:=JZ (E4 e.todo)) hfl (a:=(E3 l e).a) (p:=p) (t:=t)
    rwa [← ef] at this
   have hH:∀ p t,((JZ (E4 e.todo)).cutH (E3 l e).f (E3 l e).a).has p t=true↔(JZ (E4 e.todo)).has p t=true∧(E3 l e).a < co p t (E3 l e).f.toNat:=fun p t=>by
    have:=oF hok hfl fa' (p:=p) (t:=t)
    rwa [← ef] at this
   have okL:((JZ (E4 e.todo)).cutL (E3 l e).f (E3 l e).a).ok:=by
    have:=Ad hok hfl (E3 l e).a
    rwa [← ef] at this
   have okH:((JZ (E4 e.todo)).cutH (E3 l e).f (E3 l e).a).ok:=by
    have:=Ab hok hfl (E3 l e).a
    rwa [← ef] at this
   have hco:∀ p t,co p t (E3 l e).f.toNat=p.g (E3 l e).f.toNat:=fun p t=>jF p t (by omega)
   refine ⟨fun j x hj=>?_,fun x hx=>?_,fun x hx=>?_,fun p t hh=>?_,h.lo,h.hi⟩
   ·rw [vaf,VH] at hj;split at hj
    ·exact h.at_ j x (f9 hj)
    ·rename_i hc;have h1:=ha.1;rcases DD (j - (e.todo.length - 1)) 1 with h0 | h0
     ·have:j - (e.todo.length - 1)=0:=by omega
      rw [this] at hj;simp only [BY,AC] at hj;subst hj;rw [YL];omega
     ·rcases DD (j - (e.todo.length - 1)) 2 with h2 | h2
      ·have:j - (e.todo.length - 1)=1:=by omega
       rw [this] at hj;simp only [C6,BY,AC] at hj;subst hj;rw [YL];omega
      ·rw [BZ (by simpa using h2)] at hj;cases hj
   ·rcases AX.1 hx with hx | hx
    ·exact h.ok x (hpm x hx)
    ·rcases AO.1 hx with rfl | hx
     ·rw [TX]; exact okL
     ·obtain rfl:=BL.1 hx;rw [TX]; exact okH
   ·rcases AX.1 hx with hx | hx
    ·exact h.val x (hpm x hx)
    ·rcases AO.1 hx with rfl | hx
     ·intro p t hh;rw [TX] at hh;obtain ⟨h1,h2⟩:=(hL p t).1 hh;obtain ⟨h3,h4⟩:=hv p t h1;rw [hco] at h2;rw [YL];exact ⟨h3,by rw [h4,vf,AD h2,DI]⟩
     ·obtain rfl:=BL.1 hx;intro p t hh;rw [TX] at hh;obtain ⟨h1,h2⟩:=(hH p t).1 hh;obtain ⟨h3,h4⟩:=hv p t h1;rw [hco] at h2;rw [YL];exact ⟨h3,by rw [h4,vf,AL (by omega),DJ]⟩
   ·rcases h.all p t hh with ⟨x,hx,hxh⟩ | hr
    ·rcases uB hl hx with hx | rfl
     ·exact .inl ⟨x,AX.2 (.inl hx),hxh⟩
     ·by_cases hc:co p t (E3 l e).f.toNat≤(E3 l e).a
      ·exact .inl ⟨_,AX.2 (.inr (AN ..)),by rw [TX]; exact (hL p t).2 ⟨hxh,hc⟩⟩
      ·exact .inl ⟨_,AX.2 (.inr (AY _ (AN ..))),by rw [TX]; exact (hH p t).2 ⟨hxh,by omega⟩⟩
    ·exact .inr hr
theorem Xm {l:LI} (ht:TreeOK l) {b:Bx} (hb:b.ok):EnI l b (oT b):=by
 have h1:=ht.len.1;refine ⟨fun j x hj=>?_,fun x hx=>?_,fun x hx=>?_,fun p t hh=>.inl ⟨_,AN ..,by rw [TX]; exact hh⟩,(fun h=>by cases h),(fun h=>by cases h)⟩
 ·match j,hj with
  | 0,hj=>
   obtain rfl:QV 0 b=x:=by simpa [oT] using hj
   rw [YL];simp only [ic];omega
  | j+1,hj=>simp [oT] at hj
 ·obtain rfl:=BL.1 hx;rw [TX]; exact hb
 ·obtain rfl:=BL.1 hx;intro p t hh;rw [TX] at hh;exact ⟨hh,rfl⟩
def QA (l:LI):Nat:=(l.map fun x=>3 ^ (31 - (H5 x).toNat)).sum
theorem EnI.depth {l:LI} (ht:TreeOK l) {b:Bx} {e:En} (h:EnI l b e):e.todo.length≤31:=by
 by_cases hc:e.todo.length≤31
 ·exact hc
 ·obtain ⟨x,hx⟩:∃ x,e.todo[31]?=some x:=⟨_,A9 (by omega)⟩
  have:=h.at_ 31 x hx
  have h2:=ht.len.2;simp only [ic] at this;omega
theorem Xj {l:LI} (hl:0 < l.length):QA l=QA (F8 l)+3 ^ (31 - (H5 (E4 l)).toNat):=by
 have e:l=F8 l++[E4 l]:=by
  have h2:=(VU hl).2;have h3:l[l.length - 1]=E4 l:=CR ((A9 (by omega)).symm.trans h2);unfold F8;rw [← h3,List.take_append_getElem,CV (by omega)]
 unfold QA
 conv=>lhs; rw [e]
 rw [List.map_append,List.sum_append];simp
theorem zjj {a b c:Nat} (h1:a < b) (h2:a < c) (ha:a < 31):3 ^ (31 - b)+3 ^ (31 - c)+1≤3 ^ (31 - a):=by
 have e:3 ^ (31 - a)=3*3 ^ (30 - a):=by
  rw [show 31 - a=(30 - a)+1 by omega,Nat.pow_succ]; omega
 have e1:3 ^ (31 - b)≤3 ^ (30 - a):=Nat.pow_le_pow_right (by omega) (by omega);have e2:3 ^ (31 - c)≤3 ^ (30 - a):=Nat.pow_le_pow_right (by omega) (by omega);have e3:0 < 3 ^ (30 - a):=Nat.pow_pos (by omega);omega
theorem Xl {l:LI} (ht:TreeOK l) {b:Bx} {e:En} (h:EnI l b e) (hl:0 < e.todo.length):QA (eV l e).todo+1≤QA e.todo:=by
 obtain ⟨hm,hg⟩:=VU hl;have ha:=h.at_ _ _ hg;have h31:=ht.len.2;have hlt:(H5 (E4 e.todo)).toNat < l.length:=by have:=ha.2; simp only [ic] at this; omega
 have hpos:0 < 3 ^ (31 - (H5 (E4 e.todo)).toNat):=Nat.pow_pos (by omega);rw [Xj hl];unfold eV;cases !GJ (l.getD (H5 (E4 e.todo)).toNat default).toInt||(JZ (E4 e.todo)).emp with
 | true=>rw [DI]; show QA (F8 e.todo)+1≤_; omega
 | false=>
  rw [DJ];cases hlf:(E3 l e).lf with
  | true=>rw [A2,DJ]; show QA (F8 e.todo)+1≤_; omega
  | false=>
   rw [A8,DI];obtain ⟨_,_,⟨l1,l2⟩,⟨r1,r2⟩,_⟩:=ht.fork _ hlt hlf;replace l1:((H5 (E4 e.todo)).toNat:Int) < (E3 l e).l:=l1;replace r1:((H5 (E4 e.todo)).toNat:Int) < (E3 l e).r:=r1
   have:=zjj (a:=(H5 (E4 e.todo)).toNat) (b:=(E3 l e).l.toNat) (c:=(E3 l e).r.toNat) (by omega) (by omega) (by omega)
   unfold QA at *;rw [List.map_append,List.sum_append];simp only [A0,CA,vbc,List.sum_nil,YL];omega
theorem Xk {l:LI} (hT:G1 l 4=true) {b:Bx} (hb:b.emp=false) (hok:b.ok) {e:En} (h:EnI l b e) (hl:e.todo=[]):e.lo=IF l b∧e.hi=IE l b:=by
 obtain ⟨t1,⟨p1,u1,q1,q2⟩,⟨p2,u2,q3,q4⟩⟩:=YF hT hb hok;have hall:∀ p t,b.has p t=true→e.any=true∧e.lo≤HE l p∧HE l p≤e.hi:=fun p t hh=>by
  rcases h.all p t hh with ⟨x,hx,_⟩ | hr
  ·rw [hl] at hx; cases hx
  ·exact hr
 have hany:=(hall _ _ q1).1;obtain ⟨p3,u3,q5,q6⟩:=h.lo hany;obtain ⟨p4,u4,q7,q8⟩:=h.hi hany;have a1:=hall _ _ q1;have a2:=hall _ _ q3;have a3:=t1 _ _ q5;have a4:=t1 _ _ q7;omega
theorem zjc {l:LI} (hT:G1 l 4=true) {b c:Bx} (hb:b.emp=false) (hok:b.ok) (hc:c.emp=false) (hokc:c.ok) (h:∀ p,(∃ t,b.has p t=true)↔∃ t,c.has p t=true):IF l b=IF l c∧IE l b=IE l c:=by
 obtain ⟨t1,⟨p1,u1,q1,q2⟩,⟨p2,u2,q3,q4⟩⟩:=YF hT hb hok;obtain ⟨s1,⟨p3,u3,q5,q6⟩,⟨p4,u4,q7,q8⟩⟩:=YF hT hc hokc;obtain ⟨v1,w1⟩:=(h p1).1 ⟨u1,q1⟩;obtain ⟨v2,w2⟩:=(h p2).1 ⟨u2,q3⟩;obtain ⟨v3,w3⟩:=(h p3).2 ⟨u3,q5⟩;obtain ⟨v4,w4⟩:=(h p4).2 ⟨u4,q7⟩;have a1:=s1 _ _ w1;have a2:=s1 _ _ w2;have a3:=t1 _ _ w3;have a4:=t1 _ _ w4;omega
open Go
theorem r8:∀ {l:LI} {st st':LI × LI} {x:IV},ID l st=some st'→ID (l++[x]) st=LM st' x
 | [],st,st',x,h=>by
  obtain rfl:=CR h;rw [C5,ID];cases LM st x <;> rfl
 | y :: r,st,st',x,h=>by
  rw [CT,ID];rw [ID] at h;cases hs:LM st y with
  | none=>rw [hs] at h; cases h
  | some s1=>rw [hs] at h; exact r8 h
theorem oQ:∀ {l:LI} {st st':Int × Int} {x:IV},JF l st=some st'→JF (l++[x]) st=LE st' x
 | [],st,st',x,h=>by
  obtain rfl:=CR h;rw [C5,JF];cases LE st x <;> rfl
 | y :: r,st,st',x,h=>by
  rw [CT,JF];rw [JF] at h;cases hs:LE st y with
  | none=>rw [hs] at h; cases h
  | some s1=>rw [hs] at h; exact oQ h
def KQ (m:Md) (q:Qy) (b:Bx):Nat:=(FG m q b 0).length+(FG m q b 1).length+(FG m q b 2).length+(FG m q b 3).length+(FG m q b 4).length
theorem Bo {α:Type} {p q:α→Bool}:∀ {l:List α},(∀ x∈l,p x=true→q x=true)→(l.filter p).length≤(l.filter q).length
 | [],_=>AZ _
 | x :: l,h=>by
  have ih:=Bo (l:=l) (p:=p) (q:=q) fun y hy=>h y (AY _ hy)
  have hx:=h x (AN ..);rw [vbm,vbm];cases hp:p x with
  | true=>rw [hx hp,BP rfl,BP rfl]; simp only [AM]; omega
  | false=>
   rw [BD (by decide)];cases q x with
   | true=>rw [BP rfl]; simp only [AM]; omega
   | false=>rw [BD (by decide)]; exact ih
theorem Bp {α:Type} {p q:α→Bool} {a:α}:∀ {l:List α},a∈l→p a=false→q a=true→(∀ x∈l,p x=true→q x=true)→(l.filter p).length < (l.filter q).length
 | [],h,_,_,_=>by cases h
 | x :: l,hm,h1,h2,h=>by
  have hx:=h x (AN ..);have hr:=fun y hy=>h y (AY _ hy)
  rw [vbm,vbm];rcases AO.1 hm with rfl | hm
  ·rw [h1,h2,BD (by decide),BP rfl]
   have:=Bo hr
   simp only [AM]; omega
  ·have ih:=Bp hm h1 h2 hr;cases hp:p x with
   | true=>rw [hx hp,BP rfl,BP rfl]; simp only [AM]; omega
   | false=>
    rw [BD (by decide)];cases q x with
    | true=>rw [BP rfl]; simp only [AM]; omega
    | false=>rw [BD (by decide)]; exact ih
theorem Wt {m:Md} {q:Qy} {b c:Bx} {i:Nat} (h:c.g i=b.g i):FG m q c i=FG m q b i:=by unfold FG; rw [h]
theorem Aj {m:Md} {q:Qy} {b c:Bx} {i:Nat} {a:Int} (ha:a∈FG m q b i) (h1:(b.g i).lo≤(c.g i).lo) (h2:(c.g i).hi≤(b.g i).hi) (h3:a < (c.g i).lo∨(c.g i).hi≤a):(FG m q c i).length < (FG m q b i).length:=by
 obtain ⟨hf,hm,hl,hh⟩:=XD.1 ha;unfold FG;rw [AL (by omega),DJ,DJ];unfold LF;refine Bp hm ?_ ?_ ?_
 ·simp only [Bool.not_eq_false',van,AQ]; omega
 ·simp only [B4,vaq,BW]; omega
 ·intro x _;simp only [B4,vaq,BW]; omega
theorem Gx {m:Md} {q:Qy} {b c:Bx} {j:Nat} (hj:j < 5) (h1:(FG m q c j).length < (FG m q b j).length) (h2:∀ i,i < 5→i≠j→c.g i=b.g i):KQ m q c < KQ m q b:=by
 have e:∀ i,i < 5→i≠j→(FG m q c i).length=(FG m q b i).length:=fun i hi hn=>by rw [Wt (h2 i hi hn)]
 unfold KQ
 match j,hj with
 | 0,_=>have:=e 1 (by omega) (by omega); have:=e 2 (by omega) (by omega); have:=e 3 (by omega) (by omega); have:=e 4 (by omega) (by omega); omega
 | 1,_=>have:=e 0 (by omega) (by omega); have:=e 2 (by omega) (by omega); have:=e 3 (by omega) (by omega); have:=e 4 (by omega) (by omega); omega
 | 2,_=>have:=e 0 (by omega) (by omega); have:=e 1 (by omega) (by omega); have:=e 3 (by omega) (by omega); have:=e 4 (by omega) (by omega); omega
 | 3,_=>have:=e 0 (by omega) (by omega); have:=e 1 (by omega) (by omega); have:=e 2 (by omega) (by omega); have:=e 4 (by omega) (by omega); omega
 | 4,_=>have:=e 0 (by omega) (by omega); have:=e 1 (by omega) (by omega); have:=e 2 (by omega) (by omega); have:=e 3 (by omega) (by omega); omega
 | n+5,h=>omega
theorem Lm {lo hi:Int} (h:lo≤hi):M8 lo hi=⟨lo,hi⟩:=by unfold M8; rw [AL (by omega),DJ]
theorem Gw {m:Md} {q:Qy} {b:Bx} {j:Nat} (hj:j < 5) {a:Int} (ha:a∈FG m q b j):KQ m q (b.cutL (j:Int) a) < KQ m q b:=by
 obtain ⟨hf,hm,hl,hh⟩:=XD.1 ha;have e:∀ i,i < 5→(b.cutL (j:Int) a).g i=if i=j then ⟨(b.g j).lo,a⟩ else b.g i:=fun i hi=>by
  unfold Bx.cutL;rw [BF,LZ b _ hj hi];unfold Sp.cutL;rw [show min (b.g j).hi a=a by omega,Lm hl]
 refine Gx hj (Aj ha ?_ ?_ ?_) fun i hi hn=>by rw [e i hi,BD hn]
 ·rw [e j hj,BP rfl]; exact vab _
 ·rw [e j hj,BP rfl]; show a≤_; omega
 ·rw [e j hj,BP rfl]; exact .inr (vab _)
theorem zf6 {m:Md} {q:Qy} {b:Bx} (hb:b.good) {j:Nat} (hj:j < 5) {a:Int} (ha:a∈FG m q b j):KQ m q (b.cutH (j:Int) a) < KQ m q b:=by
 obtain ⟨hf,hm,hl,hh⟩:=XD.1 ha;have hg:=hb j hj;have e:∀ i,i < 5→(b.cutH (j:Int) a).g i=if i=j then ⟨a+1,(b.g j).hi⟩ else b.g i:=fun i hi=>by
  unfold Bx.cutH;rw [BF,LZ b _ hj hi];unfold Sp.cutH;rw [AL (by omega),DJ,show FO (a+1)=a+1 from EL (by omega) (by omega),show max (b.g j).lo (a+1)=a+1 by omega,Lm (by omega)]
 refine Gx hj (Aj ha ?_ ?_ ?_) fun i hi hn=>by rw [e i hi,BD hn]
 ·rw [e j hj,BP rfl]; show _≤a+1; omega
 ·rw [e j hj,BP rfl]; exact vab _
 ·rw [e j hj,BP rfl]; exact .inl (by show a < a+1; omega)
structure Rp (m:Md) (q:Qy) (s:Sr):Prop where
 left:Z0 s
 pt:∀ (j:Nat) (x:IV),s.left[j]?=some x→KQ m q (D7 x)+j≤KQ m q (GE q)
 ps:∃ outs,ID s.proof ([(GE q).I],[])=some (s.left,outs)∧∀ x∈outs,GW m q (D7 x)=true
 dp:∃ most,JF s.proof (1,1)=some (ic s.left.length,most)∧1≤most∧most≤(KQ m q (GE q):Int)+1
theorem zgY {m:Md} {q:Qy} (h:E8 m q=true):Rp m q ⟨[(GE q).I],[],Vd.none,0⟩ where
 left:=zdm h
 pt j x hj:=by
  match j,hj with
  | 0,hj=>
   obtain rfl:(GE q).I=x:=by simpa using hj
   rw [IO]; omega
  | j+1,hj=>simp at hj
 ps:=⟨[],rfl,fun x hx=>by cases hx⟩
 dp:=⟨1,rfl,by omega,by omega⟩
theorem Iz {m:Md} {q:Qy} {s:Sr} (hr:E8 m q=true) (h:Rp m q s) (hl:0 < s.left.length) (hn:GW m q (D0 s.left)=false→HJ m q (D0 s.left).low (D0 s.left).s4.hi=false):Rp m q (GM m q s):=by
 obtain ⟨outs,hps,hout⟩:=h.ps;obtain ⟨most,hdp,hm1,hm2⟩:=h.dp;have hg:=zi1 (m:=m) (q:=q) h.left hl;have ht:=mM h.left hl;have htop:s.left[s.left.length - 1]?=some (E4 s.left):=(VU hl).2;have ept:D0 s.left=D7 (E4 s.left):=rfl;have hpt:=h.pt _ _ htop;rw [← ept] at hpt;cases hc:GW m q (D0 s.left) with
 | true=>
  have e:(GM m q s).left=F8 s.left∧(GM m q s).proof=s.proof++[NY true 0 0]:=by
   unfold GM;rw [hc,DI];exact ⟨rfl,rfl⟩
  refine ⟨hg,fun j x hj=>?_,⟨outs++[(D0 s.left).I],?_,fun x hx=>?_⟩,⟨most,?_,hm1,hm2⟩⟩
  ·rw [e.1] at hj;exact h.pt j x (f9 hj)
  ·rw [e.2,r8 hps,e.1];rfl
  ·rcases AX.1 hx with hx | hx
   ·exact hout x hx
   ·obtain rfl:=BL.1 hx;rw [IO]; exact hc
  ·rw [e.2,oQ hdp,e.1,VH];unfold LE;have h1:(ic s.left.length==0)=false:=A5.2 (by simp only [ic]; omega);show cond ((ic s.left.length==0)||!true) none (some (ic s.left.length - 1,most))=_;rw [h1];show some (ic s.left.length - 1,most)=_;rw [show ic s.left.length - 1=ic (s.left.length - 1) by simp only [ic]; omega]
 | false=>
  have hb:=hn hc;have hs:=Nu hr h.left hl hc hb;obtain ⟨j,hj,ei,_,_,hm⟩:=uE hs;have hcut:=XD.1 hm;have e:(GM m q s).left=F8 s.left++[((D0 s.left).cutH (j:Int) (I8 (E1 m q (D0 s.left)))).I,((D0 s.left).cutL (j:Int) (I8 (E1 m q (D0 s.left)))).I]∧(GM m q s).proof=s.proof++[NY false (j:Int) (I8 (E1 m q (D0 s.left)))]:=by
   unfold GM;rw [hc,DJ,hb,DJ,hs,DI,ei];exact ⟨rfl,rfl⟩
  generalize I8 (E1 m q (D0 s.left))=a at hm hcut e;refine ⟨hg,fun k x hk=>?_,⟨outs,?_,hout⟩,⟨max most (ic s.left.length+1),?_,by omega,?_⟩⟩
  ·rw [e.1,vaf,VH] at hk;split at hk
   ·exact h.pt k x (f9 hk)
   ·rcases DD (k - (s.left.length - 1)) 1 with h0 | h0
    ·rw [show k - (s.left.length - 1)=0 by omega] at hk;simp only [BY,AC] at hk;subst hk;rw [IO]
     have:=zf6 ht hj hm
     omega
    ·rcases DD (k - (s.left.length - 1)) 2 with h2 | h2
     ·rw [show k - (s.left.length - 1)=1 by omega] at hk;simp only [C6,BY,AC] at hk;subst hk;rw [IO]
      have:=Gw (q:=q) hj hm
      omega
     ·rw [BZ (by simpa using h2)] at hk;cases hk
  ·rw [e.2,r8 hps,e.1];unfold LM;show cond false _ (cond (decide (a < ((D0 s.left).g ((j:Int)).toNat).lo)||decide (a≥((D0 s.left).g ((j:Int)).toNat).hi)) none _)=_;rw [DJ,BF,AL (by omega),AL (by omega)];rfl
  ·rw [e.2,oQ hdp,e.1];unfold LE;have h1:(ic s.left.length==0)=false:=A5.2 (by simp only [ic]; omega);have h2:I2 (NY false (j:Int) a)=true:=by
    show (decide ((0:Int)≤(j:Int))&&decide ((j:Int)≤4))=true;rw [AD (by omega),AD (by omega)]; rfl
   show cond ((ic s.left.length==0)||!(I2 (NY false (j:Int) a))) none (some (ic s.left.length+1,max most (ic s.left.length+1)))=_;rw [h1,h2];show some (ic s.left.length+1,max most (ic s.left.length+1))=_;rw [AT,VH]
   have:ic (s.left.length - 1+[((D0 s.left).cutH (j:Int) a).I,((D0 s.left).cutL (j:Int) a).I].length)=ic s.left.length+1:=by simp only [ic,AM,A7]; omega
   rw [this]
  ·have h3:0 < KQ m q (D0 s.left):=Nat.lt_of_le_of_lt (B5 _) (Gw (q:=q) hj hm);simp only [ic];omega
open Go
def PJ (ts:LI):Nat:=(ts.map fun t=>(FI t).length).sum
theorem zjg (w:IV):(JA 0 w).length+(JA 1 w).length+(JA 2 w).length+(JA 3 w).length≤1:=by
 unfold JA;cases (DL w.toInt).lf with
 | true=>simp
 | false=>
  generalize (DL w.toInt).f=f;by_cases h0:f=0
  ·subst h0; exact AZ _
  by_cases h1:f=1
  ·subst h1; exact AZ _
  by_cases h2:f=2
  ·subst h2; exact AZ _
  by_cases h3:f=3
  ·subst h3; exact AZ _
  rw [A5.2 h0,A5.2 h1,A5.2 h2,A5.2 h3];simp
theorem zjf (f:Int) (w:IV):(JA f w).length≤1:=by
 unfold JA;cases (!(DL w.toInt).lf&&(DL w.toInt).f==f) <;> simp
theorem Fi:∀ (l:LI),(l.flatMap (JA 0)).length+(l.flatMap (JA 1)).length+(l.flatMap (JA 2)).length+(l.flatMap (JA 3)).length≤l.length
 | []=>AZ _
 | w :: l=>by
  have:=Fi l
  have:=zjg w
  simp only [vao,AT,AM];omega
theorem Fg (f:Int):∀ (l:LI),(l.flatMap (JA f)).length≤l.length
 | []=>AZ _
 | w :: l=>by
  have:=Fg f l
  have:=zjf f w
  simp only [vao,AT,AM];omega
theorem Hy:∀ (ts:LI),(IQ ts 0).length+(IQ ts 1).length+(IQ ts 2).length+(IQ ts 3).length≤PJ ts
 | []=>AZ _
 | t :: ts=>by
  have:=Hy ts
  have:=Fi (FI t)
  unfold IQ PJ at *;simp only [vao,AT,A0,vbc];omega
theorem Hx (f:Int):∀ (ts:LI),(IQ ts f).length≤PJ ts
 | []=>AZ _
 | t :: ts=>by
  have:=Hx f ts
  have:=Fg f (FI t)
  unfold IQ PJ at *;simp only [vao,AT,A0,vbc];omega
theorem eQ (m:Md) (q:Qy) (b:Bx) (i:Nat):(FG m q b i).length≤(IQ m.ts (IW q (i:Int))).length:=by
 unfold FG;cases decide (IW q (i:Int) < 0) with
 | true=>rw [DI]; exact B5 _
 | false=>
  rw [DJ];unfold LF JV;refine C2 (List.length_filter_le ..) ?_;rw [← (TR (IQ m.ts (IW q (i:Int)))).length_eq];exact jE _
theorem zf7 (m:Md) (q:Qy) (b:Bx):KQ m q b≤2*PJ m.ts:=by
 have h0:=eQ m q b 0;have h1:=eQ m q b 1;have h2:=eQ m q b 2;have h3:=eQ m q b 3;have h4:=eQ m q b 4;have h5:=Hx (IW q ((4:Nat):Int)) m.ts;have h6:=Hy m.ts;rw [o6 (by omega)] at h0 h1 h2 h3;unfold KQ;simp only [Int.natCast_zero] at *;have e1:((1:Nat):Int)=1:=rfl;have e2:((2:Nat):Int)=2:=rfl;have e3:((3:Nat):Int)=3:=rfl;rw [e1] at h1;rw [e2] at h2;rw [e3] at h3;omega
theorem Bt (f:Ft):PJ f.M.ts≤60:=by
 have hd:=ZM f.d;have key:∀ (l:LI),PJ (l.map (aQ f.d f.c))≤15*l.length:=by
  intro l
  induction l with
  | nil=>exact AZ _
  | cons t l ih=>
   obtain ⟨i,hi,hn⟩:=Fp (t.cell 1).toList (t.cell 2).toList (t.cell 3).toList (t.cell 4).toList (dim:=OF f.d) ⟨hd.1,by omega⟩;have e:(FI (aQ f.d f.c t)).length=2*i+1:=by
    show ((PL (t.cell 1).toList (t.cell 2).toList (t.cell 3).toList (t.cell 4).toList (OF f.d)).nodes.map TK).length=_;rw [BE,hn.len]
   unfold PJ at *;simp only [A0,vbc,AM];rw [e];omega
 have h4:(f.ts.take 4).length≤4:=by rw [BB]; omega
 have:=key (f.ts.take 4)
 show PJ ((f.ts.take 4).map (aQ f.d f.c))≤60;omega
open Go
def zi7 (q:Qy) (s:Sr):Prop:=∀ x∈s.left,∀ p t,(D7 x).has p t=true→(GE q).has p t=true
structure Ri (m:Md) (q:Qy) (s:Sr):Prop where
 sp:0≤s.spent∧s.spent≤q.bu
 opn:s.v.kind=0→Rp m q s∧0 < s.left.length∧s.spent=ic s.proof.length∧s.v.proof=[]∧zi7 q s
 holds:s.v.kind=1→Rp m q s∧s.left=[]∧s.spent=ic s.proof.length∧s.v.proof=s.proof
 fails:s.v.kind=2→s.v.proof=[]∧1≤s.spent∧(GE q).has ⟨s.v.w0,s.v.w1,s.v.w2,s.v.w3⟩ s.v.twin=true∧HJ m q ⟨s.v.w0,s.v.w1,s.v.w2,s.v.w3⟩ s.v.twin=true
 kinds:s.v.kind=0∨s.v.kind=1∨s.v.kind=2
theorem It {m:Md} {q:Qy} (h:E8 m q=true):Ri m q ⟨[(GE q).I],[],Vd.none,0⟩ where
 sp:=⟨vab _,(VN h).2.2.1.1⟩
 opn _:=⟨zgY h,by simp,rfl,rfl,fun x hx p t hh=>by
  obtain rfl:=BL.1 hx;rw [IO] at hh; exact hh⟩
 holds h:=absurd (show (0:Int)=1 from h) (by decide)
 fails h:=absurd (show (0:Int)=2 from h) (by decide)
 kinds:=.inl rfl
theorem zgP {m:Md} {q:Qy} {s:Sr} (hr:E8 m q=true) (h:Ri m q s) (ho:JU q s=false):Ri m q (GM m q s):=by
 unfold JU at ho;rw [vaq] at ho;have hk:s.v.kind=0:=by simpa using ho.1
 have hs:¬ s.spent≥q.bu:=BH ho.2;obtain ⟨hrp,hl,hsp,hvp,hsub⟩:=h.opn hk;have hsp0:=h.sp;have ht:=mM hrp.left hl;have htm:E4 s.left∈s.left:=(VU hl).1;have ept:D0 s.left=D7 (E4 s.left):=rfl;cases hc:GW m q (D0 s.left) with
 | true=>
  have hrp':=Iz hr hrp hl (fun h=>by rw [hc] at h; cases h);have e:GM m q s=⟨F8 s.left,s.proof++[NY true 0 0],cond (ic (s.left.length - 1)==0) ⟨1,s.proof++[NY true 0 0],0,0,0,0,0,0⟩ s.v,s.spent+1⟩:=by
   unfold GM;rw [hc,DI]
  rw [e] at hrp' ⊢;have hlen:s.spent+1=ic (s.proof++[NY true 0 0]).length:=by
   rw [hsp]; simp only [ic,AT,AM,A7]; omega
  cases he:(ic (s.left.length - 1)==0) with
  | true=>
   rw [he] at hrp';have h1:s.left.length=1:=by
    have:ic (s.left.length - 1)=0:=by simpa using he
    simp only [ic] at this; omega
   have hnil:F8 s.left=[]:=List.length_eq_zero_iff.1 (by rw [VH]; omega);exact ⟨⟨by show 0≤s.spent+1; omega,by show s.spent+1≤_; omega⟩,fun h=>absurd (show (1:Int)=0 from h) (by decide),fun _=>⟨hrp',hnil,hlen,rfl⟩,fun h=>absurd (show (1:Int)=2 from h) (by decide),.inr (.inl rfl)⟩
  | false=>
   rw [he] at hrp';have h1:s.left.length - 1≠0:=fun h=>by rw [h] at he; exact absurd he (by decide)
   refine ⟨⟨by show 0≤s.spent+1; omega,by show s.spent+1≤_; omega⟩,fun _=>⟨hrp',?_,hlen,hvp,fun x hx=>hsub x (aA hx)⟩,fun h=>?_,fun h=>?_,.inl hk⟩
   ·show 0 < (F8 s.left).length;rw [VH]; omega
   ·replace h:s.v.kind=1:=h;omega
   ·replace h:s.v.kind=2:=h;omega
 | false=>
  cases hb:HJ m q (D0 s.left).low (D0 s.left).s4.hi with
  | true=>
   have e:GM m q s=⟨F8 s.left,s.proof,⟨2,[],(D0 s.left).s0.lo,(D0 s.left).s1.lo,(D0 s.left).s2.lo,(D0 s.left).s3.lo,(D0 s.left).s4.hi,0⟩,s.spent+1⟩:=by
    unfold GM;rw [hc,DJ,hb,DI]
   rw [e];refine ⟨⟨by show 0≤s.spent+1; omega,by show s.spent+1≤_; omega⟩,fun h=>absurd (show (2:Int)=0 from h) (by decide),fun h=>absurd (show (2:Int)=1 from h) (by decide),fun _=>⟨rfl,by show 1≤s.spent+1; omega,?_,hb⟩,.inr (.inr rfl)⟩;exact hsub _ htm _ _ (by rw [← ept]; exact ZC _ ht.emp)
  | false=>
   have hrp':=Iz hr hrp hl (fun _=>hb);have hs2:=Nu hr hrp.left hl hc hb;obtain ⟨j,hj,ei,_,_,hm⟩:=uE hs2;have hcut:=XD.1 hm;have hg:=ht j hj;have e:GM m q s=⟨F8 s.left++[((D0 s.left).cutH (j:Int) (I8 (E1 m q (D0 s.left)))).I,((D0 s.left).cutL (j:Int) (I8 (E1 m q (D0 s.left)))).I],
     s.proof++[NY false (j:Int) (I8 (E1 m q (D0 s.left)))],s.v,s.spent+1⟩:=by
    unfold GM;rw [hc,DJ,hb,DJ,hs2,DI,ei]
   rw [e] at hrp' ⊢;generalize I8 (E1 m q (D0 s.left))=a at hm hcut hrp';refine ⟨⟨by show 0≤s.spent+1; omega,by show s.spent+1≤_; omega⟩,fun _=>⟨hrp',by simp,?_,hvp,fun x hx p t hh=>?_⟩,fun h=>?_,fun h=>?_,.inl hk⟩
   ·show s.spent+1=_;rw [hsp]; simp only [ic,AT,AM,A7]; omega
   ·rcases AX.1 hx with hx | hx
    ·exact hsub x (aA hx) p t hh
    ·rcases AO.1 hx with rfl | hx
     ·rw [IO] at hh;exact hsub _ htm p t (by rw [← ept]; exact ((oF ht.ok hj (by omega)).1 hh).1)
     ·obtain rfl:=BL.1 hx;rw [IO] at hh;exact hsub _ htm p t (by rw [← ept]; exact ((oH hj).1 hh).1)
   ·replace h:s.v.kind=1:=h;omega
   ·replace h:s.v.kind=2:=h;omega
theorem sS {m:Md} {q:Qy} (hr:E8 m q=true):∀ (d:Nat) (s:Sr),Ri m q s→q.bu < s.spent+d→Ri m q (LQ m q d s)∧JU q (LQ m q d s)=true
 | 0,s,h,hd=>⟨h,by
  unfold JU
  have:LQ m q 0 s=s:=rfl
  rw [this,AD (show s.spent≥q.bu by omega)];simp⟩
 | d+1,s,h,hd=>by
  rw [LQ];cases ho:JU q s with
  | true=>rw [DI]; exact ⟨h,ho⟩
  | false=>
   rw [DJ];refine sS hr d (GM m q s) (zgP hr h ho) ?_
   have:(GM m q s).spent=s.spent+1:=by
    unfold GM;cases GW m _ _ <;> cases HJ m _ _ _ <;> cases (E1 m _ _).isSome <;> rfl
   omega
theorem sX {m:Md} {q:Qy} (hr:E8 m q=true) (hp:KQ m q (GE q)≤199) :
  ((EC m q).kind=1→IC m q (EC m q)=true∧ic (EC m q).proof.length=(EC m q).spent∧0 < JQ (EC m q).proof) ∧
  ((EC m q).kind=2→IC m q (EC m q)=true∧(EC m q).proof=[]∧1≤(EC m q).spent) ∧
  ((EC m q).kind=3→(EC m q).spent=q.bu∧(EC m q).proof=[]) ∧
  ((EC m q).kind=1∨(EC m q).kind=2∨(EC m q).kind=3)∧0≤(EC m q).spent∧(EC m q).spent≤q.bu:=by
 have h3:=(VN hr).2.2.1;have hnew:RS m q=⟨[(GE q).I],[],Vd.none,0⟩:=by unfold RS; rw [hr,DI]
 obtain ⟨hi,ho⟩:=sS hr (q.bu.toNat+1) _ (It hr) (by show q.bu < 0+_; omega);unfold EC;rw [hnew];generalize LQ m q (q.bu.toNat+1) _=s at hi ho;rcases hi.kinds with hk | hk | hk
 ·have ek:(GQ s).kind=3:=by simp [GQ,hk]
  have hsp:s.spent=q.bu:=by
   unfold JU at ho;rw [hk] at ho
   have:s.spent≥q.bu:=by simpa using ho
   have:=hi.sp
   omega
  exact ⟨fun h=>by omega,fun h=>by omega,fun _=>⟨hsp,(hi.opn hk).2.2.2.1⟩,.inr (.inr ek),hi.sp.1,hi.sp.2⟩
 ·have ek:(GQ s).kind=1:=by simp [GQ,hk]
  obtain ⟨hrp,hl,hsp,hvp⟩:=hi.holds hk;obtain ⟨outs,hps,hout⟩:=hrp.ps;obtain ⟨most,hdp,hm1,hm2⟩:=hrp.dp;have hlen:=hi.sp;rw [hl] at hps hdp;have hdeep:JQ s.proof=most:=by
   unfold JQ;rw [AL (by omega),DJ,hdp];show cond (!((ic ([]:LI).length)==0)||decide (most > 200)) 0 most=most;rw [AL (by omega)];rfl
  have epr:(GQ s).proof=s.proof:=hvp;refine ⟨fun _=>⟨?_,?_,?_⟩,fun h=>by omega,fun h=>by omega,.inl ek,hi.sp.1,hi.sp.2⟩
  ·unfold IC;rw [hr,ek,epr];show (true&&cond true (match I7 (GE q) s.proof with | some l=>l.all fun x=>GW m q (D7 x) | none=>false) _)=true;unfold I7;rw [hdeep,AD (show most > 0 by omega),DI,hps];show (true&&(outs.all fun x=>GW m q (D7 x)))=true;rw [A6,CQ];exact hout
  ·rw [epr]; exact hsp.symm
  ·rw [epr,hdeep]; omega
 ·have ek:(GQ s).kind=2:=by simp [GQ,hk]
  obtain ⟨hvp,hsp,hh,hb⟩:=hi.fails hk;refine ⟨fun h=>by omega,fun _=>⟨?_,hvp,hsp⟩,fun h=>by omega,.inr (.inl ek),hi.sp.1,hi.sp.2⟩;unfold IC;rw [hr,ek];show (true&&((GE q).has ⟨s.v.w0,s.v.w1,s.v.w2,s.v.w3⟩ s.v.twin&&HJ m q ⟨s.v.w0,s.v.w1,s.v.w2,s.v.w3⟩ s.v.twin))=true;rw [hh,hb];rfl
open Go
theorem zau {s:Sp}:XK s=true↔s.good:=by
 unfold XK Sp.good;simp only [AH,AQ]
theorem ZT {b:Bx}:F7 b=true↔b.good:=by
 unfold F7;simp only [AH,zau];constructor
 ·rintro ⟨h0,h1,h2,h3,h4⟩ i hi
  match i,hi with
  | 0,_=>exact h0
  | 1,_=>exact h1
  | 2,_=>exact h2
  | 3,_=>exact h3
  | 4,_=>exact h4
  | n+5,hi=>omega
 ·intro h;exact ⟨h 0 (by omega),h 1 (by omega),h 2 (by omega),h 3 (by omega),h 4 (by omega)⟩
theorem zjy {b:Bx} (h4:b.s4.lo≤b.s4.hi) (p:Pt):(∃ t,(b.p ⟨0,0⟩ 4).has p t=true)↔∃ t,b.has p t=true:=by
 constructor
 ·rintro ⟨t,h⟩;refine ⟨b.s4.lo,?_⟩;unfold Bx.has at h ⊢;simp only [AH] at h ⊢;exact ⟨h.1,h.2.1,h.2.2.1,h.2.2.2.1,PQ.2 ⟨vab _,h4⟩⟩
 ·rintro ⟨t,h⟩;refine ⟨0,?_⟩;unfold Bx.has at h ⊢;simp only [AH] at h ⊢;exact ⟨h.1,h.2.1,h.2.2.1,h.2.2.2.1,PQ.2 ⟨vab _,vab _⟩⟩
theorem uL {g g':LI→Int} (k:Int):∀ (ts:LI) (s:Int),(∀ t∈ts,g (FI t)=g' (FI t))→I9 g k ts s=I9 g' k ts s
 | [],_,_=>rfl
 | t :: ts,s,h=>by
  rw [I9,I9,h t (AN ..)];exact uL k ts _ fun u hu=>h u (AY _ hu)
theorem Je {m:Md} (hm:EX m=true) (k:Int) {b:Bx} (hb:b.good):EA m k (b.p ⟨0,0⟩ 4)=EA m k b∧D8 m k (b.p ⟨0,0⟩ 4)=D8 m k b:=by
 have hg:(b.p ⟨0,0⟩ 4).good:=VG hb ⟨by decide,by decide,by decide⟩ (by omega);have ht:∀ t∈m.ts,IF (FI t) (b.p ⟨0,0⟩ 4)=IF (FI t) b∧IE (FI t) (b.p ⟨0,0⟩ 4)=IE (FI t) b:=fun t ht=>
  zjc (aR hm ht) hg.emp hg.ok hb.emp hb.ok (zjy (hb 4 (by omega)).2.1)
 have es:G8 m k (b.p ⟨0,0⟩ 4)=G8 m k b:=by unfold G8; rw [hg.emp,hb.emp]
 unfold EA D8;rw [es];cases G8 m k b with
 | false=>exact ⟨rfl,rfl⟩
 | true=>
  rw [DI,DI,DI,DI];exact ⟨uL k m.ts _ fun t h=>(ht t h).1,uL k m.ts _ fun t h=>(ht t h).2⟩
def W6 (m:Md) (q:Qy) (b:Bx):Nat→Nat→Bool
 | 0,_=>true
 | d+1,i=>cond (!((i:Int)==q.c)&&decide (D8 m (i:Int) b≥EA m q.c b)) false (W6 m q b d (i+1))
def K3 (q:Qy) (b:Bx):Bx:=b.p b.s4 q.ft.toNat
def tF (m:Md) (q:Qy) (b:Bx):Bool:=
 cond b.emp true
  (cond (q.k==1) (decide (q.lo≤EA m q.c b)&&decide (D8 m q.c b≤q.hi))
   (cond (q.k==2) (W6 m q b m.c.toNat 0)
    (cond (decide ((b.g q.ft.toNat).lo≥b.s4.hi)) true
     (cond q.fl (decide (D8 m q.c (K3 q b)≤EA m q.c b)) (decide (EA m q.c (K3 q b)≥D8 m q.c b))))))
theorem wL {m:Md} {q:Qy} {b:Bx}:∀ (d i:Nat),W6 m q b d i=true↔∀ j:Nat,i≤j→j < i+d→(j:Int)≠q.c→D8 m (j:Int) b < EA m q.c b
 | 0,i=>⟨fun _ j h1 h2=>by omega,fun _=>rfl⟩
 | d+1,i=>by
  rw [W6];cases hc:(!((i:Int)==q.c)&&decide (D8 m (i:Int) b≥EA m q.c b)) with
  | true=>
   rw [DI];simp only [AH,B4,A5,AQ] at hc;refine ⟨(fun h=>by cases h),fun h=>?_⟩
   have:=h i (AZ _) (by omega) hc.1
   omega
  | false=>
   rw [DJ,wL d (i+1)];rw [Bool.and_eq_false_iff,Bool.not_eq_false',B8,BW] at hc;constructor
   ·intro h j h1 h2 hn;rcases DD i j with h3 | h3
    ·exact h j h3 (by omega) hn
    ·have:j=i:=by omega
     subst this;rcases hc with hc | hc
     ·exact absurd hc hn
     ·omega
   ·intro h j h1 h2 hn;exact h j (by omega) (by omega) hn
theorem zhj {m:Md} {q:Qy} {b:Bx} (hr:E8 m q=true) (hb:b.emp=true∨b.good):tF m q b=GW m q b:=by
 unfold tF GW;rw [hr,A6];cases he:b.emp with
 | true=>rfl
 | false=>
  rw [DJ,DJ];have hg:b.good:=by
   rcases hb with h | h
   ·rw [he] at h; cases h
   ·exact h
  obtain ⟨hm,⟨c0,c1⟩,_,_,hk⟩:=VN hr;have hcl:=oA c0 c1;have hs:=X9 hm hcl he;rcases kF hk with ⟨e,_⟩ | ⟨e,h2,_⟩ | ⟨e,hf,_⟩
  ·rw [e];show (decide (q.lo≤EA m q.c b)&&decide (D8 m q.c b≤q.hi))=(G8 m q.c b&&(decide (q.lo≤EA m q.c b)&&decide (D8 m q.c b≤q.hi)));rw [hs,A6]
  ·rw [e];show W6 m q b m.c.toNat 0=(NU m q.c b&&decide (VA m q.c b > 0));have hmg:NU m q.c b=true:=by unfold NU; rw [hs,AD (by omega)]; rfl
   rw [hmg,A6,va1,wL,AQ]
   have:=Ef hmg
   constructor
   ·intro h;exact this.2 fun j hj hn=>h j (B5 _) (by omega) hn
   ·intro h j _ h2 hn;exact this.1 h j (by omega) hn
  ·rw [e];have hp:=rN hm e hf;have h44:=hg 4 (by omega);have hg2:(K3 q b).good:=VG hg h44 (by have:=hf; have:=(VN hr).1; rcases RY hp with e | e | e | e <;> rw [e] <;> decide);have s1:=Je hm q.c hg;have s2:=Je hm q.c hg2;have f1:J6 q b=b.p ⟨0,0⟩ 4:=by unfold J6; rw [hp,DI]
   have f2:KA q b=(K3 q b).p ⟨0,0⟩ 4:=by unfold KA; rw [hp,DI]; rfl
   have hch:LC m q b=true:=by
    unfold LC;rw [hp,f1,f2,X9 hm hcl (VG hg ⟨by decide,by decide,by decide⟩ (by omega)).emp,X9 hm hcl (VG hg2 ⟨by decide,by decide,by decide⟩ (by omega)).emp];rfl
   have e1:S2 m q b=D8 m q.c (K3 q b) - EA m q.c b:=by unfold S2; rw [hch,DI,f1,f2,s1.1,s2.2]
   have e2:S3 m q b=EA m q.c (K3 q b) - D8 m q.c b:=by unfold S3; rw [hch,DI,f1,f2,s1.2,s2.1]
   have eo:QI q b=!decide ((b.g q.ft.toNat).lo≥b.s4.hi):=by
    unfold QI;rw [hp,he];by_cases h:(b.g q.ft.toNat).lo < b.s4.hi
    ·rw [AD h,AL (by omega)]; rfl
    ·rw [AL h,AD (by omega)]; rfl
   show cond (decide ((b.g q.ft.toNat).lo≥b.s4.hi)) true _=cond (!(QI q b)) true (cond q.fl (LC m q b&&decide (S2 m q b≤0)) (LC m q b&&decide (S3 m q b≥0)));rw [eo,Bool.not_not,hch,A6,A6,e1,e2];have d1:decide (D8 m q.c (K3 q b) - EA m q.c b≤0)=decide (D8 m q.c (K3 q b)≤EA m q.c b):=by
    rw [va1,AQ,AQ]; omega
   have d2:decide (EA m q.c (K3 q b) - D8 m q.c b≥0)=decide (EA m q.c (K3 q b)≥D8 m q.c b):=by
    rw [va1,AQ,AQ]; omega
   rw [d1,d2]
open Go
theorem oR {x:IV} {left most:Int} {st:Int × Int} (h:LE (left,most) x=some st):left≠0∧I2 x=true∧((GZ x=true∧st=(left - 1,most))∨(GZ x=false∧st=(left+1,max most (left+1)))):=by
 unfold LE at h;cases hz:(left==0) with
 | true=>simp only [hz,Bool.true_or,BJ] at h; cases h
 | false=>
  have hne:left≠0:=by simpa using hz
  simp only [hz,vaw] at h;cases hr:I2 x with
  | false=>rw [hr] at h; cases h
  | true=>
   rw [hr] at h;simp only [A2,BC] at h;cases hs:GZ x with
   | true=>rw [hs] at h; exact ⟨hne,rfl,.inl ⟨rfl,(CR h).symm⟩⟩
   | false=>rw [hs] at h; exact ⟨hne,rfl,.inr ⟨rfl,(CR h).symm⟩⟩
theorem sT {x:IV} (h:I2 x=true) (hs:GZ x=false):0≤FD x∧FD x≤4:=by
 unfold I2 at h;rw [hs,DJ,AH,AQ,AQ] at h;exact h
theorem Hm {x:IV} {left out:LI} {most:Int} {st:Int × Int} {lo:LI × LI} (hl:∀ y∈left,(D7 y).good) (ho:∀ y∈out,(D7 y).good) (hd:LE (ic left.length,most) x=some st) (hp:LM (left,out) x=some lo) :
  (∀ y∈lo.1,(D7 y).good)∧(∀ y∈lo.2,(D7 y).good)∧st.1=ic lo.1.length:=by
 obtain ⟨hne,hr,hd⟩:=oR hd;have hlen:0 < left.length:=by simp only [ic] at hne; omega
 have ht:(D0 left).good:=hl _ (VU hlen).1;unfold LM at hp;rcases hd with ⟨hs,rfl⟩ | ⟨hs,rfl⟩
 ·rw [hs] at hp;obtain rfl:=CR hp;refine ⟨fun y hy=>hl y (aA hy),fun y hy=>?_,?_⟩
  ·rcases AX.1 hy with hy | hy
   ·exact ho y hy
   ·obtain rfl:=BL.1 hy;rw [IO]; exact ht
  ·show ic left.length - 1=ic (F8 left).length;rw [VH]; simp only [ic]; omega
 ·rw [hs] at hp;have hpl:=sT hr hs;have ej:FD x=(((FD x).toNat:Nat):Int):=by omega
  cases hc:(decide (FR x < ((D0 left).g (FD x).toNat).lo)||decide (FR x≥((D0 left).g (FD x).toNat).hi)) with
  | true=>simp only [hc,BC,BJ] at hp; cases hp
  | false=>
   simp only [hc,BC] at hp;obtain rfl:=CR hp;simp only [vaq,BW] at hc;refine ⟨fun y hy=>?_,ho,?_⟩
   ·rcases AX.1 hy with hy | hy
    ·exact hl y (aA hy)
    ·rcases AO.1 hy with rfl | hy
     ·rw [IO,ej]; exact Aa ht (by omega) (by omega) (by omega)
     ·obtain rfl:=BL.1 hy;rw [IO,ej]; exact Ac ht (by omega) (by omega) (by omega)
   ·show ic left.length+1=ic (F8 left++[_,_]).length;rw [AT,VH];simp only [ic,AM,A7]; omega
theorem Hl:∀ {l:LI} {left out:LI} {most:Int} {st:Int × Int} {lo:LI × LI},(∀ y∈left,(D7 y).good)→(∀ y∈out,(D7 y).good)→JF l (ic left.length,most)=some st→ID l (left,out)=some lo→∀ y∈lo.2,(D7 y).good
 | [],left,out,most,st,lo,_,ho,_,hp=>by
  obtain rfl:=CR hp;exact ho
 | x :: l,left,out,most,st,lo,hl,ho,hd,hp=>by
  rw [JF] at hd;rw [ID] at hp;cases h1:LE (ic left.length,most) x with
  | none=>rw [h1] at hd; cases hd
  | some s1=>
   cases h2:LM (left,out) x with
   | none=>rw [h2] at hp; cases hp
   | some l1=>
    rw [h1] at hd;rw [h2] at hp;obtain ⟨g1,g2,g3⟩:=Hm hl ho h1 h2;obtain ⟨a,b⟩:=l1;obtain ⟨c,d⟩:=s1;obtain rfl:c=ic a.length:=g3;exact Hl g1 g2 hd hp
theorem oP {l:LI} (h:JQ l > 0):∃ st,JF l (1,1)=some st:=by
 unfold JQ at h;cases hc:decide (ic l.length > 65536) with
 | true=>rw [hc,DI] at h; omega
 | false=>
  rw [hc,DJ] at h;cases hd:JF l (1,1) with
  | none=>rw [hd] at h; exact absurd h (by decide)
  | some st=>exact ⟨st,rfl⟩
theorem zgi {b:Bx} (hb:b.good) {l outs:LI} (h:I7 b l=some outs):∀ y∈outs,(D7 y).good:=by
 unfold I7 at h;cases hd:decide (JQ l > 0) with
 | false=>rw [hd,DJ] at h; cases h
 | true=>
  rw [hd,DI] at h;obtain ⟨st,hst⟩:=oP (A1 hd);cases hp:ID l ([b.I],[]) with
  | none=>rw [hp] at h; cases h
  | some lo=>
   rw [hp] at h;obtain rfl:=CR h;refine Hl (left:=[b.I]) (out:=[]) (most:=1) (fun y hy=>?_) (fun y hy=>by cases hy) hst hp;obtain rfl:=BL.1 hy;rw [IO]; exact hb
open Go Go.Proofs
def YX (N:Nat):Env:=D4 [(111,P0),(112,K9),(55,MP)] [(3,⟨[0,4,5,6,7,8,9],[500],[⟨.tmp 9,500,252,true,kD⟩]⟩)] 88 N
open Go Go.Proofs
set_option maxRecDepth 100000
def RI (l O:LI) (n:Nat) (lo hi:Int) (any:Bool):St:=⟨[(0,.list false [.int .u64] l),(4,.int .i64 0),(5,.int .i64 0),(6,.int .i64 lo),(7,.int .i64 hi),(8,.bool any),(9,.row 500 0 n)],[(500,some (.row true 252 true kD O))]⟩
abbrev pW:KP:=⟨[0,4,5,6,7,8,9],[500],[⟨.tmp 9,500,252,true,kD⟩]⟩
noncomputable abbrev pT (N:Nat):Out→St→DN:=DQ 0 (DS (YX N) (DK ZE [1,1,1,1]) (DT (YX N) none [.tmp 4,.tmp 5] [[.z],[.z]]))
def eW (n:Nat):Int:=AA AB (ic (n - 0) - 1)
def eX (O:LI) (n:Nat):IV:=O.getD (0+(eW n).toNat) default
def JR (l:LI) (x:IV):Int:=(l.getD (H5 x).toNat default).toInt
theorem zek (N:Nat) (l:LI) (b:Bx):DZ (YX N) ZE [.tmp 4,.tmp 5] [[.z],[.z]] [.list false [.int .u64] l,b.V] =
 DY (YX N) (DK ZE [1,1,1,0,0,0]) pW N (RI l [QV 0 b] 1 0 0 false) (pT N):=by kernel_rfl
theorem Mz (N:Nat) (l O:LI) (n:Nat) (lo hi:Int) (any:Bool) (again:St→DN) (k:Out→St→DN):E2 (YX N) (DK ZE [1,1,1,0,0,0]) (RI l O n lo hi any) (EQ again pW k) =
 cond (decide (ic (n - 0) > 0)) (cond (decide (0≤eW n)&&decide (eW n < ic (n - 0))) (cond (decide (0≤eW n)&&decide (eW n≤ic (n - 0)))
 (cond (decide (0≤H5 (eX O n))&&decide (H5 (eX O n) < ic l.length))
 (cond (!(GJ (JR l (eX O n)))) (again (RI l O (0+(eW n).toNat) lo hi any))
 (cond (JZ (eX O n)).emp (again (RI l O (0+(eW n).toNat) lo hi any))
 (cond (!(DL (JR l (eX O n))).lf)
 (cond (H9 (DL (JR l (eX O n))).f) (cond (decide ((0+(eW n).toNat+2)*88≤EE))
 (again (RI l (O.take (0+(eW n).toNat)++[QV (DL (JR l (eX O n))).l ((JZ (eX O n)).cutL (DL (JR l (eX O n))).f (DL (JR l (eX O n))).a),QV (DL (JR l (eX O n))).r ((JZ (eX O n)).cutH (DL (JR l (eX O n))).f (DL (JR l (eX O n))).a)]) (0+(eW n).toNat+2) lo hi any)) none) none)
 (cond (!any) (again (RI l O (0+(eW n).toNat) (min (DL (JR l (eX O n))).v (DL (JR l (eX O n))).v) (max (DL (JR l (eX O n))).v (DL (JR l (eX O n))).v) true))
 (again (RI l O (0+(eW n).toNat) (min lo (DL (JR l (eX O n))).v) (max hi (DL (JR l (eX O n))).v) any)))))) none) none) none)
 (k (.exit 0) (RI l O n lo hi any)):=by kernel_rfl
theorem Zb (N:Nat) (l O:LI) (n:Nat) (lo hi:Int) (any:Bool):pT N (.exit 0) (RI l O n lo hi any)=some (.tup [.int .i64 lo,.int .i64 hi],[]):=by kernel_rfl
theorem ZO (N:Nat) {l:LI} (hT:G1 l 4=true) {b:Bx} (hb:b.good):∀ (c:Nat) (O:LI) (n:Nat) (lo hi:Int) (any:Bool),n≤O.length→EnI l b ⟨O.take n,lo,hi,any⟩→QA (O.take n) < c →
  DY (YX N) (DK ZE [1,1,1,0,0,0]) pW c (RI l O n lo hi any) (pT N)=some (.tup [.int .i64 (IF l b),.int .i64 (IE l b)],[])
 | 0,_,_,_,_,_,_,_,h=>absurd h (by omega)
 | c+1,O,0,lo,hi,any,hn,h,hc=>by
  obtain ⟨e1,e2⟩:=Xk hT hb.emp hb.ok h rfl;replace e1:lo=IF l b:=e1;replace e2:hi=IE l b:=e2;rw [D5,Mz,show decide (ic (0 - 0) > 0)=false from rfl,DJ,Zb,e1,e2]
 | c+1,O,j+1,lo,hi,any,hn,h,hc=>by
  have ht:=uV hT;have hlen:(O.take (j+1)).length=j+1:=by rw [BB]; omega
  have hl:0 < (En.mk (O.take (j+1)) lo hi any).todo.length:=by show 0 < (O.take (j+1)).length; omega
  have hd:=h.depth ht;replace hd:(O.take (j+1)).length≤31:=hd;have hs:=Xn ht h hl;have hw:=Xl ht h hl;have htop:E4 (O.take (j+1))=O.getD j default:=by
   unfold E4;rw [hlen,BV,BV,CL,BP (by omega)];rfl
  have hpop:F8 (O.take (j+1))=O.take j:=by
   unfold F8;rw [hlen,List.take_take];congr 1;omega
  have ew:eW (j+1)=(j:Int):=by
   unfold eW;rw [show ic (j+1 - 0) - 1=(j:Int) by simp only [ic]; omega];exact EL (by omega) (by omega)
  have ej:0+(eW (j+1)).toNat=j:=by rw [ew]; omega
  have ex:eX O (j+1)=E4 (O.take (j+1)):=by unfold eX; rw [ej,htop]
  have ha:=h.at_ _ _ (VU hl).2;replace ha:((((O.take (j+1)).length - 1:Nat)):Int)≤H5 (E4 (O.take (j+1)))∧H5 (E4 (O.take (j+1))) < ic l.length:=ha;have i1:decide (ic (j+1 - 0) > 0)=true:=AD (by simp only [ic]; omega);have i2:(decide (0≤eW (j+1))&&decide (eW (j+1) < ic (j+1 - 0)))=true:=by rw [ew,AD (by omega),AD (by simp only [ic]; omega)]; rfl
  have i3:(decide (0≤eW (j+1))&&decide (eW (j+1)≤ic (j+1 - 0)))=true:=by rw [ew,AD (by omega),AD (by simp only [ic]; omega)]; rfl
  rw [D5,Mz,i1,DI,i2,DI,i3,DI,ej,ex,AD (show 0≤H5 (E4 (O.take (j+1))) by omega),AD ha.2,B3,DI];unfold eV at hs hw;simp only [E3,hpop] at hs hw;have eWdef:JR l (E4 (O.take (j+1)))=(l.getD (H5 (E4 (O.take (j+1)))).toNat default).toInt:=rfl;rw [← eWdef] at hs hw;have hfk:(DL (JR l (E4 (O.take (j+1))))).lf=false→H9 (DL (JR l (E4 (O.take (j+1))))).f=true:=fun hf=>by
   have hk:(H5 (E4 (O.take (j+1)))).toNat < l.length:=by have:=ha.2; simp only [ic] at this; omega
   have:=(ht.fork _ hk hf).1
   replace this:0≤(DL (JR l (E4 (O.take (j+1))))).f∧(DL (JR l (E4 (O.take (j+1))))).f < 4:=this;unfold H9;rw [AD this.1,AD (by omega)];rfl
  generalize JR l (E4 (O.take (j+1)))=wd at hs hw hfk ⊢;generalize JZ (E4 (O.take (j+1)))=vb at hs hw ⊢;cases hnb:GJ wd with
  | false=>
   rw [A8,DI];simp only [hnb,A8,Bool.true_or,BJ] at hs hw;exact ZO N hT hb c O j lo hi any (by omega) hs (by omega)
  | true=>
   rw [A2,DJ];simp only [hnb,A2,vaw] at hs hw;cases he:vb.emp with
   | true=>
    rw [DI];simp only [he,BJ] at hs hw;exact ZO N hT hb c O j lo hi any (by omega) hs (by omega)
   | false=>
    rw [DJ];simp only [he,BC] at hs hw;cases hlf:(DL wd).lf with
    | true=>
     rw [A2,DJ];simp only [hlf,A2,BC] at hs hw;cases any with
     | false=>
      rw [A8,DI];exact ZO N hT hb c O j _ _ true (by omega) hs (by omega)
     | true=>
      rw [A2,DJ];exact ZO N hT hb c O j _ _ true (by omega) hs (by omega)
    | false=>
     rw [A8,DI];simp only [hlf,A8,BJ] at hs hw;have e2:∀ v1 v2:IV,(O.take j++[v1,v2]).take (j+2)=O.take j++[v1,v2]:=fun v1 v2=>CV (by simp only [AT,BB,AM,A7]; omega)
     rw [hfk hlf,DI,AD (show (j+2)*88≤EE by unfold EE; omega),DI];refine ZO N hT hb c _ (j+2) lo hi any (by simp only [AT,BB,AM,A7]; omega) ?_ ?_
     ·rw [e2]; exact hs
     ·rw [e2]; omega
theorem zhG:DX PR B0 158 cE:=by
 refine D6 [(111,P0),(112,K9),(55,MP)] [(3,⟨[0,4,5,6,7,8,9],[500],[⟨.tmp 9,500,252,true,kD⟩]⟩)] cE [[.z],[.z]] Tryz.func158 za4 ⟨lU,YA,aN,trivial⟩ ?_;intro vs r hwf h;unfold cE at h;split at h
 ·rename_i l b;replace h:=J0 h;obtain ⟨b,rfl,h⟩:=h;cases hg:(G1 l 4&&F7 b) with
  | false=>rw [hg] at h; simp [R.get] at h
  | true=>
  rw [hg,R.get_br,DI,R.get_ok] at h;rw [AH] at hg;refine ⟨3 ^ 31+1,(zek (3 ^ 31+1) l b).trans ?_⟩;rw [← h];have hgd:=ZT.1 hg.2;refine ZO (3 ^ 31+1) hg.1 hgd (3 ^ 31+1) [QV 0 b] 1 0 0 false (AZ _) (Xm (uV hg.1) hgd.ok) ?_;show QA [QV 0 b] < 3 ^ 31+1;unfold QA;simp only [A0,CA,vbc,List.sum_nil,YL];show 3 ^ 31+0 < 3 ^ 31+1;omega
 ·simp [R.get] at h
open Go Go.Proofs
def YY (N:Nat):Env:=D4 [(111,P0),(110,dG)] [(6,⟨[4,5,6,7,19,20,21],[500,501],[⟨.tmp 6,500,36,true,FB⟩,⟨.tmp 7,501,36,true,FB⟩]⟩)] 75 N
end Go.FM
