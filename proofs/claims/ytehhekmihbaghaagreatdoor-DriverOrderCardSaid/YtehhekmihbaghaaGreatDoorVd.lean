/-
  A small machine that reckons what a call comes to; the functions of the program, one by one. (WHAT span's, box's, couple's, leaves', bound's, grid's, quer, NORMAL FORMS: what the functions' runs come to (written by a, NORMAL FORMS: what the functions' runs come to (written by a, and so on.)
-/
import Derived.Test.YtehhekmihbaghaaGreatDoorVc
set_option linter.all false
set_option maxRecDepth 100000
open Array renaming getElem?_eq_some_iff→DF,getElem?_toList→vax,getElem?_modify→va6
open Bool renaming and_eq_true→AI,not_true→A3,not_false→A7,true_and→BC,false_and→BL,and_true→B2,not_eq_true'→B3,and_self→B4,and_false→vaf,or_eq_true→vap,or_eq_false_iff→vas,false_or→vaz,eq_iff_iff→va2
open Go.Addr.mk renaming injEq→DH
open Go.IntKind renaming wrap→AA,i64→AB
open Go.Lib renaming compactUpTo→vbt
open Go.ResultVar renaming tmp→CF,cell→va7
open Go.Sort renaming ahead→vbH
open Go.Value renaming ownBlock→CC
open Go.Value.slice renaming injEq→CJ
open Go.World renaming cell?→vaN
open Int renaming toNat→AE,toNat_natCast→BF,le_refl→vac
open List renaming length→AF,getD→AH,take→AK,length_cons→AM,mem_cons_self→AO,mem_cons→AP,drop→AS,length_append→AT,mem_append→AX,mem_cons_of_mem→AY,map_cons→A0,map→A2,length_nil→A6,getElem?_eq_getElem→A8,length_take→BB,drop_eq_getElem_cons→BE,length_map→BG,mem_singleton→BM,replicate→BN,take_length→BO,getElem?_eq_some_iff→BR,getD_eq_getElem?_getD→BV,drop_zero→BY,getElem?_cons_zero→BZ,getElem?_eq_none→B1,getElem?_map→B9,map_nil→CA,drop_of_length_le→CD,mem_map→CI,getElem?_take→CM,all_eq_true→CR,cons_append→CT,take_of_length_le→CV,getElem_mem→CX,length_singleton→C2,nil_append→C4,getElem?_cons_succ→C5,append_nil→DB,getElem?_append→vag,mem_of_getElem?→vah,flatMap_cons→vaq,range→vau,drop_length→vaD,length_set→vaG,append_assoc→vaI,map_map→vaJ,mem_of_mem_take→vaK,mem_range→vaR,sum_cons→va3,filter_cons→vbm,pairwise_cons→vbF
open List.Perm renaming refl→vbM
open Nat renaming le_of_ble_eq_true→AN,le_refl→AZ,zero_add→BI,beq→BQ,blt→BS,zero_le→B5,ble→B6,le_trans→C1,ble_eq_true_of_le→C6,add_zero→C9,lt_or_ge→DD,min_eq_left→vaB,add_assoc→vaV,sub_zero→va5,beq_refl→vbn
open Option.some renaming injEq→AC,inj→CS
open Prod.mk renaming injEq→AV
namespace Go.FM
open Go
def Nd.cs (x:Nd):List FM.V:=[.bool x.lf,.int .i64 x.v,.int .i64 x.f,.int .i64 x.a,.int .i64 x.l,.int .i64 x.r]
def Nd.V (x:Nd):FM.V:=.agg x.cs
def Md.cs (m:Md):List FM.V:=[.int .i64 m.d,.int .i64 m.c,.int .i64 m.b0,.int .i64 m.b1,.int .i64 m.b2,.list true [.z,.list false [.int .u64]] m.ts]
def Md.V (m:Md):FM.V:=.agg m.cs
def Qy.cs (q:Qy):List FM.V:=[.int .i64 q.k,.int .i64 q.c,.int .i64 q.a0,.int .i64 q.b0,.int .i64 q.a1,.int .i64 q.b1,.int .i64 q.a2,.int .i64 q.b2,.int .i64 q.a3,.int .i64 q.b3,.int .i64 q.a4,.int .i64 q.b4,.int .i64 q.lo,.int .i64 q.hi,.int .i64 q.ft,.bool q.fl,.int .i64 q.bu]
def Vd.cs (v:Vd):List FM.V:=[.int .i64 v.kind,.list true [.bool,.z,.z] v.proof,.int .i64 v.w0,.int .i64 v.w1,.int .i64 v.w2,.int .i64 v.w3,.int .i64 v.twin,.int .i64 v.spent]
def Ak.cs (a:Ak):List FM.V:=[.int .i64 a.k,.int .i64 a.c,.int .i64 a.lo,.int .i64 a.size,.int .i64 a.ft,.int .i64 a.bu,.bool a.fl,.list false [.z] a.sp]
def Ak.V (a:Ak):FM.V:=.agg a.cs
structure Sp where
 lo:Int
 hi:Int
def Sp.cs (s:Sp):List FM.V:=[.int .i64 s.lo,.int .i64 s.hi]
def Sp.V (s:Sp):FM.V:=.agg s.cs
structure Bx where
 s0:Sp
 s1:Sp
 s2:Sp
 s3:Sp
 s4:Sp
def Bx.g (b:Bx):Nat→Sp
 | 0=>b.s0
 | 1=>b.s1
 | 2=>b.s2
 | 3=>b.s3
 | _=>b.s4
def Bx.p (b:Bx) (s:Sp):Nat→Bx
 | 0=>⟨s,b.s1,b.s2,b.s3,b.s4⟩
 | 1=>⟨b.s0,s,b.s2,b.s3,b.s4⟩
 | 2=>⟨b.s0,b.s1,s,b.s3,b.s4⟩
 | 3=>⟨b.s0,b.s1,b.s2,s,b.s4⟩
 | _=>⟨b.s0,b.s1,b.s2,b.s3,s⟩
def Bx.cs (b:Bx):List FM.V:=[.int .i64 b.s0.lo,.int .i64 b.s0.hi,.int .i64 b.s1.lo,.int .i64 b.s1.hi,.int .i64 b.s2.lo,.int .i64 b.s2.hi,.int .i64 b.s3.lo,.int .i64 b.s3.hi,.int .i64 b.s4.lo,.int .i64 b.s4.hi]
def Bx.V (b:Bx):FM.V:=.agg b.cs
structure Pt where
 p0:Int
 p1:Int
 p2:Int
 p3:Int
def Pt.cs (p:Pt):List FM.V:=[.int .i64 p.p0,.int .i64 p.p1,.int .i64 p.p2,.int .i64 p.p3]
def Pt.V (p:Pt):FM.V:=.agg p.cs
def Pt.g (p:Pt):Nat→Int
 | 0=>p.p0
 | 1=>p.p1
 | 2=>p.p2
 | _=>p.p3
def spOf?:List FM.V→Option Sp
 | [.int .i64 a,.int .i64 b]=>some ⟨a,b⟩
 | _=>none
def ptOf?:List FM.V→Option Pt
 | [.int .i64 a,.int .i64 b,.int .i64 c,.int .i64 d]=>some ⟨a,b,c,d⟩
 | _=>none
def bxOf?:List FM.V→Option Bx
 | [.int .i64 a0,.int .i64 b0,.int .i64 a1,.int .i64 b1,.int .i64 a2,.int .i64 b2,.int .i64 a3,.int .i64 b3,.int .i64 a4,.int .i64 b4]=>some ⟨⟨a0,b0⟩,⟨a1,b1⟩,⟨a2,b2⟩,⟨a3,b3⟩,⟨a4,b4⟩⟩
 | _=>none
def mdOf?:List FM.V→Option Md
 | [.int .i64 d,.int .i64 c,.int .i64 b0,.int .i64 b1,.int .i64 b2,.list true [.z,.list false [.int .u64]] ts]=>some ⟨d,c,b0,b1,b2,ts⟩
 | _=>none
def qyOf?:List FM.V→Option Qy
 | [.int .i64 k,.int .i64 c,.int .i64 a0,.int .i64 b0,.int .i64 a1,.int .i64 b1,.int .i64 a2,.int .i64 b2,.int .i64 a3,.int .i64 b3,.int .i64 a4,.int .i64 b4,.int .i64 lo,.int .i64 hi,.int .i64 ft,.bool fl,.int .i64 bu]=>
  some ⟨k,c,a0,b0,a1,b1,a2,b2,a3,b3,a4,b4,lo,hi,ft,fl,bu⟩
 | _=>none
def vdOf?:List FM.V→Option Vd
 | [.int .i64 k,.list true [.bool,.z,.z] p,.int .i64 a,.int .i64 b,.int .i64 c,.int .i64 d,.int .i64 t,.int .i64 s]=>some ⟨k,p,a,b,c,d,t,s⟩
 | _=>none
def RZ {α:Type} (of:List FM.V→Option α) (v:FM.V) (k:α→R):R:=
 match v with
 | .agg l=>match of l with | some x=>k x | none=>.no
 | _=>.no
abbrev mA (v:FM.V) (k:Sp→R):R:=RZ spOf? v k
abbrev VM (v:FM.V) (k:Pt→R):R:=RZ ptOf? v k
abbrev JF (v:FM.V) (k:Bx→R):R:=RZ bxOf? v k
abbrev JT (v:FM.V) (k:Md→R):R:=RZ mdOf? v k
abbrev J8 (v:FM.V) (k:Qy→R):R:=RZ qyOf? v k
abbrev Ov (v:FM.V) (k:Vd→R):R:=RZ vdOf? v k
theorem VL {α:Type} {of:List FM.V→Option α} {v:FM.V} {k:α→R} {z:FM.V × List (List FM.V)} (h:(RZ of v k).get=some z):∃ l x,v = .agg l∧of l=some x∧(k x).get=some z:=by
 unfold RZ at h;split at h
 ·rename_i l;split at h
  ·rename_i x hx;exact ⟨l,x,rfl,hx,h⟩
  ·simp [R.get] at h
 ·simp [R.get] at h
theorem uG {v:FM.V} {k:Sp→R} {z:FM.V × List (List FM.V)} (h:(mA v k).get=some z):∃ x:Sp,v=x.V∧(k x).get=some z:=by
 obtain ⟨l,x,rfl,hx,h⟩:=VL h;unfold spOf? at hx;split at hx
 ·simp only [AC] at hx;subst hx;exact ⟨_,rfl,h⟩
 ·cases hx
theorem YE {v:FM.V} {k:Pt→R} {z:FM.V × List (List FM.V)} (h:(VM v k).get=some z):∃ x:Pt,v=x.V∧(k x).get=some z:=by
 obtain ⟨l,x,rfl,hx,h⟩:=VL h;unfold ptOf? at hx;split at hx
 ·simp only [AC] at hx;subst hx;exact ⟨_,rfl,h⟩
 ·cases hx
theorem JS {v:FM.V} {k:Bx→R} {z:FM.V × List (List FM.V)} (h:(JF v k).get=some z):∃ x:Bx,v=x.V∧(k x).get=some z:=by
 obtain ⟨l,x,rfl,hx,h⟩:=VL h;unfold bxOf? at hx;split at hx
 ·simp only [AC] at hx;subst hx;exact ⟨_,rfl,h⟩
 ·cases hx
theorem J7 {v:FM.V} {k:Md→R} {z:FM.V × List (List FM.V)} (h:(JT v k).get=some z):∃ x:Md,v=x.V∧(k x).get=some z:=by
 obtain ⟨l,x,rfl,hx,h⟩:=VL h;unfold mdOf? at hx;split at hx
 ·simp only [AC] at hx;subst hx;exact ⟨_,rfl,h⟩
 ·cases hx
theorem KK {v:FM.V} {k:Qy→R} {z:FM.V × List (List FM.V)} (h:(J8 v k).get=some z):∃ x:Qy,v=x.V∧(k x).get=some z:=by
 obtain ⟨l,x,rfl,hx,h⟩:=VL h;unfold qyOf? at hx;split at hx
 ·simp only [AC] at hx;subst hx;exact ⟨_,rfl,h⟩
 ·cases hx
theorem zjm {v:FM.V} {k:Vd→R} {z:FM.V × List (List FM.V)} (h:(Ov v k).get=some z):∃ x:Vd,v=x.V∧(k x).get=some z:=by
 obtain ⟨l,x,rfl,hx,h⟩:=VL h;unfold vdOf? at hx;split at hx
 ·simp only [AC] at hx;subst hx;exact ⟨_,rfl,h⟩
 ·cases hx
def Sp.emp (s:Sp):Bool:=decide (s.lo > s.hi)
def Sp.has (s:Sp) (n:Int):Bool:=decide (s.lo≤n)&&decide (n≤s.hi)
def MY (lo hi:Int):Sp:=cond (decide (lo > hi)) ⟨1,0⟩ ⟨lo,hi⟩
def Sp.cutL (s:Sp) (a:Int):Sp:=MY s.lo (min s.hi a)
def Sp.cutH (s:Sp) (a:Int):Sp:=cond (decide (a≥s.hi)) ⟨1,0⟩ (MY (max s.lo (FL (a+1))) s.hi)
def WK:DV
 | []=>.ok (.agg [.int .i64 1,.int .i64 0]) []
 | _=>.no
def dG:DV
 | [.int .i64 lo,.int .i64 hi]=>.ok (MY lo hi).V []
 | _=>.no
def WI:DV
 | [s]=>mA s fun s=>.ok (.bool (s.emp)) []
 | _=>.no
def WJ:DV
 | [s,.int .i64 n]=>mA s fun s=>.ok (.bool (s.has n)) []
 | _=>.no
def hZ:DV
 | [s,.int .i64 n]=>mA s fun s=>.ok (.tup [(s.cutL n).V,(s.cutH n).V]) []
 | _=>.no
def Bx.I (b:Bx):IV:=.agg [.int b.s0.lo,.int b.s0.hi,.int b.s1.lo,.int b.s1.hi,.int b.s2.lo,.int b.s2.hi,.int b.s3.lo,.int b.s3.hi,.int b.s4.lo,.int b.s4.hi]
abbrev cI (x:IV) (j:Nat):Int:=(x.cell j).toInt
def D7 (x:IV):Bx:=⟨⟨cI x 0,cI x 1⟩,⟨cI x 2,cI x 3⟩,⟨cI x 4,cI x 5⟩,⟨cI x 6,cI x 7⟩,⟨cI x 8,cI x 9⟩⟩
abbrev E6:List Kd:=[.z,.z,.z,.z,.z,.z,.z,.z,.z,.z]
def Bx.emp (b:Bx):Bool:=b.s0.emp||(b.s1.emp||(b.s2.emp||(b.s3.emp||b.s4.emp)))
def YX:Bx:=⟨⟨0,0⟩,⟨0,0⟩,⟨0,0⟩,⟨0,0⟩,⟨0,0⟩⟩
def H8 (i:Int):Bool:=decide (0≤i)&&decide (i < 5)
def Bx.cutL (b:Bx) (i a:Int):Bx:=b.p ((b.g i.toNat).cutL a) i.toNat
def Bx.cutH (b:Bx) (i a:Int):Bx:=b.p ((b.g i.toNat).cutH a) i.toNat
def Pt.p (p:Pt) (x:Int):Nat→Pt
 | 0=>⟨x,p.p1,p.p2,p.p3⟩
 | 1=>⟨p.p0,x,p.p2,p.p3⟩
 | 2=>⟨p.p0,p.p1,x,p.p3⟩
 | _=>⟨p.p0,p.p1,p.p2,x⟩
def Bx.low (b:Bx):Pt:=⟨b.s0.lo,b.s1.lo,b.s2.lo,b.s3.lo⟩
def Bx.has (b:Bx) (p:Pt) (t:Int):Bool:=b.s0.has p.p0&&(b.s1.has p.p1&&(b.s2.has p.p2&&(b.s3.has p.p3&&b.s4.has t)))
def K2:DV
 | [b]=>JF b fun b=>.ok (.bool (b.emp)) []
 | _=>.no
def bG:DV
 | [b]=>JF b fun b=>.ok b.low.V []
 | _=>.no
def bE:DV
 | [b,p,.int .i64 t]=>JF b fun b=>VM p fun p=>.ok (.bool (b.has p t)) []
 | _=>.no
def PO:DV
 | [b,.int .i64 i,.int .i64 a]=>JF b fun b=>.br (H8 i) (.ok (.tup [(b.cutL i a).V,(b.cutH i a).V]) []) .no
 | _=>.no
def IR (l:LI) (p:Pt):Nat→Int→Int × Nd
 | 0,_=>(-1,Nd.zero)
 | n+1,a=>
  cond (decide (a≥ic l.length)) (-1,Nd.zero)
   (cond (!(GC (l.getD a.toNat default).toInt)) (-1,Nd.zero)
    (cond (DL (l.getD a.toNat default).toInt).lf (a,DL (l.getD a.toNat default).toInt)
     (cond (decide (p.g (DL (l.getD a.toNat default).toInt).f.toNat≤(DL (l.getD a.toNat default).toInt).a)) (IR l p n (DL (l.getD a.toNat default).toInt).l) (IR l p n (DL (l.getD a.toNat default).toInt).r))))
def Wf (l:LI) (p:Pt):Int:=(IR l p 31 0).1
def jE (l:LI) (p:Pt):Nd:=(IR l p 31 0).2
def dL:DV
 | [.list false [.int .u64] l,p]=>VM p fun p=>.ok (.tup [.int .i64 (Wf l p),(jE l p).V]) []
 | _=>.no
def HD (l:LI) (p:Pt):Int:=(jE l p).v
def dK:DV
 | [.list false [.int .u64] l,p]=>VM p fun p=>.ok (.int .i64 (HD l p)) []
 | _=>.no
def LQ (m:Md) (c:Int):Int:=cond (c==0) m.b0 (cond (c==1) m.b1 m.b2)
abbrev VD (t:IV):Int:=cI t 0
abbrev FE (t:IV):LI:=(t.cell 1).toList
def P2 (c:Int) (p:Pt):LI→Int→Int
 | [],s=>s
 | t :: r,s=>P2 c p r (cond (VD t==c) (s+HD (FE t) p) s)
def ID (m:Md) (c:Int):Bool:=decide (0≤c)&&decide (c < m.c)
def cQ:DV
 | [m,.int .i64 k,p]=>JT m fun m=>VM p fun p=>.br (EW m&&ID m k) (.ok (.int .i64 (P2 k p m.ts (LQ m k))) []) .no
 | _=>.no
def ER (m:Md) (k:Int) (p:Pt):Int:=cond (EW m&&ID m k) (P2 k p m.ts (LQ m k)) 0
def cO:DV
 | [m,.int .i64 k,p]=>JT m fun m=>VM p fun p=>.ok (.int .i64 (ER m k p)) []
 | _=>.no
def W9 (x:Int):List Int→List Int
 | []=>[x]
 | y :: r=>cond (decide (x≤y)) (x :: y :: r) (y :: W9 x r)
def KY:List Int→List Int
 | []=>[]
 | x :: r=>W9 x (KY r)
def ML:Int→List Int→List Int
 | _,[]=>[]
 | p,x :: r=>cond (x==p) (ML x r) (x :: ML x r)
def KA:List Int→List Int
 | []=>[]
 | x :: r=>x :: ML x r
def I6 (f:Int) (w:IV):List Int:=cond (!(DL w.toInt).lf&&(DL w.toInt).f==f) [(DL w.toInt).a] []
def IM (ts:LI) (f:Int):List Int:=ts.flatMap fun t=>(FE t).flatMap (I6 f)
def JO (ts:LI) (f:Int):List Int:=KA (KY (IM ts f))
def iZ (l:List Int):LI:=l.map IV.int
def cP:DV
 | [m,.int .i64 f]=>JT m fun m=>.br (EW m) (.ok (.vec 3 false [.z] (iZ (JO m.ts f))) []) .no
 | _=>.no
def jS:Ip:=⟨3,false,fun rs l=>match rs with
 | []=>some (iZ (KY (l.map IV.toInt)))
 | _=>none⟩
def jQ:Ip:=⟨3,true,fun rs l=>match rs with
 | []=>some (iZ (KA (l.map IV.toInt)))
 | _=>none⟩
def K6 (a b:Int) (l:List Int):List Int:=l.filter fun t=>!(decide (t < a)||decide (t≥b))
def jR:Ip:=⟨3,true,fun rs l=>match rs with
 | [.clo f [.bor [.int .i64 a,.int .i64 b]]]=>cond (BQ f 169) (some (iZ (K6 a b (l.map IV.toInt)))) none
 | _=>none⟩
def Qy.bx (q:Qy):Bx:=⟨⟨q.a0,q.b0⟩,⟨q.a1,q.b1⟩,⟨q.a2,q.b2⟩,⟨q.a3,q.b3⟩,⟨q.a4,q.b4⟩⟩
def KZ (d i:Int) (s:Sp):Bool:=!(decide (i≥d)&&!((s.lo==0)&&(s.hi==0)))&&(!s.emp&&(E2 s.lo&&E2 s.hi))
def P9 (b:Bx) (d:Int):Bool:=KZ d 0 b.s0&&(KZ d 1 b.s1&&(KZ d 2 b.s2&&(KZ d 3 b.s3&&KZ d 4 b.s4)))
def c7:DV
 | [b,.int .i64 d]=>JF b fun b=>.ok (.bool (P9 b d)) []
 | _=>.no
def RA (m:Md) (q:Qy):Bool:=
 cond (q.k==1) (decide (q.lo≤q.hi)&&((q.ft==0)&&!q.fl))
  (cond (q.k==2) (decide (m.c≥2)&&((q.lo==0)&&((q.hi==0)&&((q.ft==0)&&!q.fl))))
   (cond (q.k==3) (decide (q.ft≥0)&&(decide (q.ft < m.d)&&((q.lo==0)&&(q.hi==0)))) false))
def FG (m:Md) (q:Qy):Bool:=EW m&&(decide (q.c≥0)&&(decide (q.c < m.c)&&(decide (q.bu≥0)&&(decide (q.bu≤65536)&&(P9 q.bx m.d&&RA m q)))))
def HA (q:Qy):Bool:=(q.k==3)&&(decide (q.ft≥0)&&decide (q.ft < 4))
def GJ (q:Qy):Bx:=q.bx.p (cond (HA q) (q.bx.g q.ft.toNat) ⟨0,0⟩) 4
def JE (q:Qy) (p:Pt) (t:Int):Pt:=cond (HA q) (p.p t q.ft.toNat) p
def fM (m:Md) (q:Qy) (p:Pt) (own:Int):Bool:=(vau m.c.toNat).any fun c=>!((c:Int)==q.c)&&decide (ER m (c:Int) p≥own)
def HJ (m:Md) (q:Qy) (p:Pt) (t:Int):Bool:=
 FG m q &&
  cond (q.k==1) (!(Sp.has ⟨q.lo,q.hi⟩ (ER m q.c p)))
   (cond (q.k==2) (fM m q p (ER m q.c p))
    (cond (decide (p.g q.ft.toNat≥t)) false
     (cond q.fl (decide (ER m q.c (JE q p t) > ER m q.c p)) (decide (ER m q.c (JE q p t) < ER m q.c p)))))
def O3 (n:Nd) (i:Nat) (own:LI):LI:=
 cond n.lf own ((own.set n.l.toNat ((D7 (own.getD i default)).cutL n.f n.a).I).set n.r.toNat ((D7 (own.getD i default)).cutH n.f n.a).I)
def fQ (b:Bx) (v:Int):IV:=.agg [.int b.s0.lo,.int b.s0.hi,.int b.s1.lo,.int b.s1.hi,.int b.s2.lo,.int b.s2.hi,.int b.s3.lo,.int b.s3.hi,.int b.s4.lo,.int b.s4.hi,.int v]
abbrev HR (x:IV):Int:=cI x 10
abbrev MN:List Kd:=[.z,.z,.z,.z,.z,.z,.z,.z,.z,.z,.z]
def N8:LI→Nat→LI→LI→LI
 | [],_,_,out=>out
 | w :: r,i,own,out=>N8 r (i+1) (O3 (DL w.toInt) i own) (cond ((DL w.toInt).lf&&!(D7 (own.getD i default)).emp) (out++[fQ (D7 (own.getD i default)) (DL w.toInt).v]) out)
def IT (l:LI) (b:Bx):LI:=cond (GV l 4&&!b.emp) (N8 l 0 ((BN l.length YX.I).set 0 b.I) []) []
def cN:DV
 | [.list false [.int .u64] l,b]=>JF b fun b=>.ok (.list true MN (IT l b)) []
 | _=>.no
def O5:LI→Int→Int
 | [],a=>a
 | x :: r,a=>O5 r (min a (HR x))
def O4:LI→Int→Int
 | [],a=>a
 | x :: r,a=>O4 r (max a (HR x))
def fU (ps:LI):Int:=O5 ps (HR (ps.getD 0 default))
def fT (ps:LI):Int:=O4 ps (HR (ps.getD 0 default))
def X1 (l:LI) (b:Bx):Bool:=!((IT l b).isEmpty)
def IB (l:LI) (b:Bx):Int:=cond (X1 l b) (fU (IT l b)) 0
def IA (l:LI) (b:Bx):Int:=cond (X1 l b) (fT (IT l b)) 0
def bD:DV
 | [.list false [.int .u64] l,b]=>JF b fun b=>.ok (.tup [.int .i64 (IB l b),.int .i64 (IA l b),.bool (X1 l b)]) []
 | _=>.no
def I5 (h:LI→Int) (c:Int):LI→Int→Int
 | [],s=>s
 | t :: r,s=>I5 h c r (cond (VD t==c) (s+h (FE t)) s)
def G4 (m:Md) (c:Int) (b:Bx):Bool:=EW m&&(ID m c&&!b.emp)
def EA (m:Md) (c:Int) (b:Bx):Int:=cond (G4 m c b) (I5 (fun l=>IB l b) c m.ts (LQ m c)) 0
def D8 (m:Md) (c:Int) (b:Bx):Int:=cond (G4 m c b) (I5 (fun l=>IA l b) c m.ts (LQ m c)) 0
def SB:DV
 | [m,.int .i64 k,b]=>JT m fun m=>JF b fun b=>.ok (.tup [.int .i64 (EA m k b),.int .i64 (D8 m k b),.bool (G4 m k b)]) []
 | _=>.no
def RF (m:Md) (c lo:Int) (b:Bx):Nat→Int→Int→Bool→Int
 | 0,_,a,_=>a
 | n+1,i,a,z=>cond (i==c) (RF m c lo b n (i+1) a z)
  (cond (!z||decide (lo - D8 m i b < a)) (RF m c lo b n (i+1) (lo - D8 m i b) true) (RF m c lo b n (i+1) a z))
def NG (m:Md) (c:Int) (b:Bx):Bool:=G4 m c b&&decide (m.c≥2)
def UU (m:Md) (c:Int) (b:Bx):Int:=cond (NG m c b) (RF m c (EA m c b) b m.c.toNat 0 0 false) 0
def bC:DV
 | [m,.int .i64 k,b]=>JT m fun m=>JF b fun b=>.ok (.tup [.int .i64 (UU m k b),.bool (NG m k b)]) []
 | _=>.no
def JY (q:Qy) (b:Bx):Bx:=cond (HA q) (b.p ⟨0,0⟩ 4) b
def J4 (q:Qy) (b:Bx):Bx:=cond (HA q) ((b.p b.s4 q.ft.toNat).p ⟨0,0⟩ 4) b
def P7 (q:Qy) (b:Bx):Bool:=HA q&&(!b.emp&&decide ((b.g q.ft.toNat).lo < b.s4.hi))
def K4 (m:Md) (q:Qy) (b:Bx):Bool:=HA q&&(G4 m q.c (JY q b)&&G4 m q.c (J4 q b))
def SP (m:Md) (q:Qy) (b:Bx):Int:=cond (K4 m q b) (EA m q.c (J4 q b) - D8 m q.c (JY q b)) 0
def SO (m:Md) (q:Qy) (b:Bx):Int:=cond (K4 m q b) (D8 m q.c (J4 q b) - EA m q.c (JY q b)) 0
def GQ (m:Md) (q:Qy) (b:Bx):Bool:=
 FG m q &&
  cond b.emp true
   (cond (q.k==1) (G4 m q.c b&&(decide (q.lo≤EA m q.c b)&&decide (D8 m q.c b≤q.hi)))
    (cond (q.k==2) (NG m q.c b&&decide (UU m q.c b > 0))
     (cond (!(P7 q b)) true
      (cond q.fl (K4 m q b&&decide (SO m q b≤0)) (K4 m q b&&decide (SP m q b≥0))))))
def IS (q:Qy) (i:Int):Int:=cond (decide (i≥0)&&decide (i < 4)) i (cond ((i==4)&&(q.k==3)) q.ft (-1))
def FD (m:Md) (q:Qy) (b:Bx) (i:Nat):List Int:=
 cond (decide (IS q (i:Int) < 0)) [] (K6 (b.g i).lo (b.g i).hi (JO m.ts (IS q (i:Int))))
def LK (m:Md) (q:Qy) (b:Bx):Nat→Nat→Option (Int × Int)
 | 0,_=>none
 | n+1,i=>cond (decide ((FD m q b i).length > 0)) (some ((i:Int),(FD m q b i).getD (((FD m q b i).length - 1) / 2) 0)) (LK m q b n (i+1))
def EY (m:Md) (q:Qy) (b:Bx):Option (Int × Int):=LK m q b 5 0
def cZ:DV
 | [m,q]=>JT m fun m=>J8 q fun q=>.ok (.bool (RA m q)) []
 | _=>.no
def NV:DV
 | [m,q]=>JT m fun m=>J8 q fun q=>.ok (.bool (FG m q)) []
 | _=>.no
def WG:DV
 | [q]=>J8 q fun q=>.ok (.bool (HA q)) []
 | _=>.no
def PP:DV
 | [q]=>J8 q fun q=>.ok (.bool (HA q)) []
 | _=>.no
def WF:DV
 | [q]=>J8 q fun q=>.ok (GJ q).V []
 | _=>.no
def cY:DV
 | [q,p,.int .i64 t]=>J8 q fun q=>VM p fun p=>.ok (JE q p t).V []
 | _=>.no
def WE:DV
 | [m,q,p,.int .i64 t]=>JT m fun m=>J8 q fun q=>VM p fun p=>.ok (.bool (HJ m q p t)) []
 | _=>.no
def cB:DV
 | [q,b]=>J8 q fun q=>JF b fun b=>.ok (JY q b).V []
 | _=>.no
def cD:DV
 | [q,b]=>J8 q fun q=>JF b fun b=>.ok (J4 q b).V []
 | _=>.no
def cC:DV
 | [q,b]=>J8 q fun q=>JF b fun b=>.ok (.bool (P7 q b)) []
 | _=>.no
def cA:DV
 | [m,q,b]=>JT m fun m=>J8 q fun q=>JF b fun b=>.ok (.tup [.int .i64 (SP m q b),.int .i64 (SO m q b),.bool (K4 m q b)]) []
 | _=>.no
def cF:DV
 | [m,q,b]=>JT m fun m=>J8 q fun q=>JF b fun b=>.ok (.bool (GQ m q b)) []
 | _=>.no
def cG:DV
 | [b]=>JF b fun b=>.ok (.tup [b.low.V,.int .i64 b.s4.hi]) []
 | _=>.no
def cK:DV
 | [q,.int .i64 i]=>J8 q fun q=>.ok (.int .i64 (IS q i)) []
 | _=>.no
def cJ:DV
 | [m,q,b,.int .i64 i]=>JT m fun m=>J8 q fun q=>JF b fun b=>.br (EW m&&H8 i) (.ok (.list false [.z] (iZ (FD m q b i.toNat))) []) .no
 | _=>.no
def J6 (o:Option (Int × Int)):Int:=match o with | none=>0 | some (i,_)=>i
def I4 (o:Option (Int × Int)):Int:=match o with | none=>0 | some (_,a)=>a
def cH:DV
 | [m,q,b]=>JT m fun m=>J8 q fun q=>JF b fun b=>.br (EW m) (.ok (.tup [.int .i64 (J6 (EY m q b)),.int .i64 (I4 (EY m q b)),.bool (EY m q b).isSome]) []) .no
 | _=>.no
structure Sr where
 left:LI
 proof:LI
 v:Vd
 spent:Int
def NN (s:Bool) (p a:Int):IV:=.agg [.bool s,.int p,.int a]
def D0 (l:LI):Bx:=D7 (l.getD (l.length - 1) default)
def F3 (l:LI):LI:=l.take (l.length - 1)
def GE (m:Md) (q:Qy) (s:Sr):Sr:=
 cond (GQ m q (D0 s.left)) ⟨F3 s.left,s.proof++[NN true 0 0],cond (ic (s.left.length - 1)==0) ⟨1,s.proof++[NN true 0 0],0,0,0,0,0,0⟩ s.v,s.spent+1⟩
  (cond (HJ m q (D0 s.left).low (D0 s.left).s4.hi) ⟨F3 s.left,s.proof,⟨2,[],(D0 s.left).s0.lo,(D0 s.left).s1.lo,(D0 s.left).s2.lo,(D0 s.left).s3.lo,(D0 s.left).s4.hi,0⟩,s.spent+1⟩
   (cond (EY m q (D0 s.left)).isSome
    ⟨F3 s.left++[((D0 s.left).cutH (J6 (EY m q (D0 s.left))) (I4 (EY m q (D0 s.left)))).I,((D0 s.left).cutL (J6 (EY m q (D0 s.left))) (I4 (EY m q (D0 s.left)))).I],
     s.proof++[NN false (J6 (EY m q (D0 s.left))) (I4 (EY m q (D0 s.left)))],s.v,s.spent+1⟩
    ⟨F3 s.left,s.proof,⟨3,[],0,0,0,0,0,0⟩,s.spent+1⟩))
def JN (q:Qy) (s:Sr):Bool:=!(s.v.kind==0)||decide (s.spent≥q.bu)
def LJ (m:Md) (q:Qy):Nat→Sr→Sr
 | 0,s=>s
 | n+1,s=>cond (JN q s) s (LJ m q n (GE m q s))
def RI (m:Md) (q:Qy):Sr:=cond (FG m q) ⟨[(GJ q).I],[],Vd.none,0⟩ ⟨[],[],⟨4,[],0,0,0,0,0,0⟩,0⟩
def GK (s:Sr):Vd:=⟨cond (s.v.kind==0) 3 s.v.kind,s.v.proof,s.v.w0,s.v.w1,s.v.w2,s.v.w3,s.v.twin,s.spent⟩
def E8 (m:Md) (q:Qy):Vd:=GK (LJ m q (q.bu.toNat+1) (RI m q))
def FZ (m:Md) (q:Qy) (r:List FM.V):List FM.V:=m.cs++(q.cs++r)
def seOf? (l:List FM.V):Option (Md × Qy × List FM.V):=
 match mdOf? (l.take 6),qyOf? ((l.drop 6).take 17) with
 | some m,some q=>some (m,q,(l.drop 6).drop 17)
 | _,_=>none
abbrev pE (l:LI):FM.V:=.vec 36 true E6 l
abbrev zcj (l:LI):FM.V:=.vec 127 true EC l
abbrev jJ (l:LI):FM.V:=.list true EC l
def aE (v:Vd) (vp:FM.V) (sp:Int):List FM.V:=[.int .i64 v.kind,vp,.int .i64 v.w0,.int .i64 v.w1,.int .i64 v.w2,.int .i64 v.w3,.int .i64 v.twin,.int .i64 v.spent,.int .i64 sp]
def PD (t:Nat) (m:Md) (q:Qy) (s:Sr):List FM.V:=
 FZ m q (match t with
  | 0=>pE s.left :: zcj s.proof :: aE s.v .zs s.spent
  | 1=>pE s.left :: .zs :: aE s.v .zs s.spent
  | 2=>pE s.left :: jJ s.proof :: aE s.v (jJ s.v.proof) s.spent
  | _=>.zs :: .zs :: aE s.v .zs s.spent)
def srT?:List FM.V→Option (Nat × Sr)
 | [.vec 36 true [.z,.z,.z,.z,.z,.z,.z,.z,.z,.z] l,.vec 127 true [.bool,.z,.z] p,.int .i64 k,.zs,.int .i64 a,.int .i64 b,.int .i64 c,.int .i64 d,.int .i64 t,.int .i64 vs,.int .i64 sp]=>some (0,⟨l,p,⟨k,[],a,b,c,d,t,vs⟩,sp⟩)
 | [.vec 36 true [.z,.z,.z,.z,.z,.z,.z,.z,.z,.z] l,.zs,.int .i64 k,.zs,.int .i64 a,.int .i64 b,.int .i64 c,.int .i64 d,.int .i64 t,.int .i64 vs,.int .i64 sp]=>some (1,⟨l,[],⟨k,[],a,b,c,d,t,vs⟩,sp⟩)
 | [.vec 36 true [.z,.z,.z,.z,.z,.z,.z,.z,.z,.z] l,.list true [.bool,.z,.z] p,.int .i64 k,.list true [.bool,.z,.z] vp,.int .i64 a,.int .i64 b,.int .i64 c,.int .i64 d,.int .i64 t,.int .i64 vs,.int .i64 sp]=>some (2,⟨l,p,⟨k,vp,a,b,c,d,t,vs⟩,sp⟩)
 | [.zs,.zs,.int .i64 k,.zs,.int .i64 a,.int .i64 b,.int .i64 c,.int .i64 d,.int .i64 t,.int .i64 vs,.int .i64 sp]=>some (3,⟨[],[],⟨k,[],a,b,c,d,t,vs⟩,sp⟩)
 | _=>none
def mB (v:FM.V) (k:Nat→Md→Qy→Sr→R):R:=
 match v with
 | .bor l=>match seOf? l with
  | some (m,q,r)=>match srT? r with
   | some (t,s)=>k t m q s
   | none=>.no
  | none=>.no
 | _=>.no
def lN (m:Md) (q:Qy) (t:Nat) (s:Sr):Nat:=
 cond (GQ m q (D0 s.left)) (cond (ic (s.left.length - 1)==0) 2 0)
  (cond (HJ m q (D0 s.left).low (D0 s.left).s4.hi) t (cond (EY m q (D0 s.left)).isSome 0 t))
def c8:DV
 | [m,q]=>JT m fun m=>J8 q fun q=>.br (FG m q) (.ok (.bor (PD 1 m q ⟨[(GJ q).I],[],Vd.none,0⟩)) []) (.ok (.bor (PD 3 m q ⟨[],[],⟨4,[],0,0,0,0,0,0⟩,0⟩)) [])
 | _=>.no
def dA:DV
 | [x]=>mB x fun t m q s=>
  .br (JN q s) (.ok (.bool false) [PD t m q s])
   (.br (B6 t 1&&(FG m q&&(decide (0≤s.spent)&&(BS 0 s.left.length&&(B6 s.left.length 100000&&B6 s.proof.length 100000)))))
    (.br (GQ m q (D0 s.left)) (.br (ic (s.left.length - 1)==0) (.ok (.bool true) [PD 2 m q (GE m q s)]) (.ok (.bool true) [PD 0 m q (GE m q s)]))
     (.br (HJ m q (D0 s.left).low (D0 s.left).s4.hi) (.ok (.bool true) [PD t m q (GE m q s)])
      (.br (EY m q (D0 s.left)).isSome (.ok (.bool true) [PD 0 m q (GE m q s)]) (.ok (.bool true) [PD t m q (GE m q s)])))) .no)
 | _=>.no
def dC:DV
 | [x]=>mB x fun t m q s=>.br (B6 s.v.proof.length 100000) (.ok (GK s).V [PD t m q s]) .no
 | _=>.no
def WH:DV
 | [m,q]=>JT m fun m=>J8 q fun q=>.ok (E8 m q).V []
 | _=>.no
def g9:DV
 | [.list true [.bool,.z,.z] l]=>.br (B6 l.length 100000) (.ok (.vec 127 true EC l) []) .no
 | _=>.no
open Go Go.Proofs
def Rt (N:Nat):Env:=D5 [] [] 2 N
theorem zew (N:Nat):DZ (Rt N) yE [.cell 0 34] [[.z,.z]] []=(some ((.agg [.i 1,.i 0]),[])):=by kernel_rfl
def Ru (N:Nat):Env:=D5 [(194,WK)] [] 12 N
theorem zex (N:Nat) (lo hi:Int):DZ (Ru N) yF [.cell 4 34] [[.z,.z]] [.i lo,.i hi]=(cond (decide (lo > hi)) (some ((.agg [.i 1,.i 0]),[])) (some ((.agg [.i lo,.i hi]),[]))):=by kernel_rfl
def Rr (N:Nat):Env:=D5 [] [] 8 N
theorem zeu (N:Nat) (s:Sp):DZ (Rr N) yC [.tmp 2] [[.bool]] [(Sp.V s)]=(some ((.bool (decide (Sp.lo s > Sp.hi s))),[])):=by kernel_rfl
def Rs (N:Nat):Env:=D5 [] [] 15 N
theorem zev (N:Nat) (s:Sp) (n:Int):DZ (Rs N) yD [.tmp 4] [[.bool]] [(Sp.V s),.i n]=(cond (decide (Sp.lo s≤n)) (some ((.bool (decide (n≤Sp.hi s))),[])) (some ((.bool false),[]))):=by kernel_rfl
def Rq (N:Nat):Env:=D5 [(194,WK),(193,dG)] [] 29 N
theorem zet (N:Nat) (s:Sp) (atv:Int):DZ (Rq N) yB [.cell 4 34,.cell 5 34] [[.z,.z],[.z,.z]] [(Sp.V s),.i atv]=(cond (decide (atv≥Sp.hi s)) (some ((.tup [(Sp.V (MY (Sp.lo s) (min (Sp.hi s) atv))),.agg [.i 1,.i 0]]),[])) (some ((.tup [(Sp.V (MY (Sp.lo s) (min (Sp.hi s) atv))),(Sp.V (MY (max (Sp.lo s) (AA AB (atv+1))) (Sp.hi s)))]),[]))):=by kernel_rfl
def KL (N:Nat):Env:=D5 [(55,MI)] [(3,⟨[0,3,4,5,6,9],[3,5],[]⟩)] 46 N
abbrev ME (p:Pt) (l0:LI) (x4 x6 x9:Int) (u00:Bool) (u01 u02 u03 u04 u05:Int):St:=⟨[(0,(.list false [.int .u64] l0)),(3,(.ptr 3 0 0)),(4,(.i x4)),(5,(.ptr 5 0 0)),(6,(.i x6)),(9,(.i x9))],[(3,(some (.box (Pt.cs p)))),(5,(some (.box [.bool u00,.i u01,.i u02,.i u03,.i u04,.i u05])))]⟩
theorem zeJ (N:Nat) (l:LI) (p:Pt):DZ (KL N) N0 [.tmp 4,.cell 5 111] [[.z],[.bool,.z,.z,.z,.z,.z]] [.list false [.int .u64] l,(Pt.V p)]=(DY (KL N) (DK N0 [1,1,0,1,0,0]) ⟨[0,3,4,5,6,9],[3,5],[]⟩ N (ME p l 0 0 0 false 0 0 0 0 0) (DQ 0 (DS (KL N) (DK N0 [1,1,1]) (DT (KL N) none [.tmp 4,.cell 5 111] [[.z],[.bool,.z,.z,.z,.z,.z]])))):=by kernel_rfl
theorem Mo (N:Nat) (p:Pt) (l0:LI) (x4 x6 x9:Int) (u00:Bool) (u01 u02 u03 u04 u05:Int) (again:St→DO) (k:Out→St→DO):EZ (KL N) (DK N0 [1,1,0,1,0,0]) (ME p l0 x4 x6 x9 u00 u01 u02 u03 u04 u05) (EN again ⟨[0,3,4,5,6,9],[3,5],[]⟩ k)=(cond (decide (x9 < 31)) (cond (decide (x6≥ic (AF l0))) (k (.exit 0) (ME p l0 x4 x6 x9 u00 u01 u02 u03 u04 u05)) (cond (decide (0≤x6)&&decide (x6 < ic (AF l0))) (cond (!GC (IV.toInt (AH l0 (AE x6) default))) (k .ret (ME p l0 (-1) x6 x9 false 0 0 0 0 0)) (cond (Nd.lf (DL (IV.toInt (AH l0 (AE x6) default)))) (k .ret ⟨[(0,(.list false [.int .u64] l0)),(3,(.ptr 3 0 0)),(4,(.i x6)),(5,(.ptr 5 0 0)),(6,(.i x6)),(9,(.i x9))],[(3,(some (.box (Pt.cs p)))),(5,(some (.box (Nd.cs (DL (IV.toInt (AH l0 (AE x6) default)))))))]⟩) (cond (decide (Nd.f (DL (IV.toInt (AH l0 (AE x6) default)))=ic 0)) (cond (decide (Pt.p0 p≤Nd.a (DL (IV.toInt (AH l0 (AE x6) default))))) (again (ME p l0 x4 (Nd.l (DL (IV.toInt (AH l0 (AE x6) default)))) (AA AB (x9+1)) u00 u01 u02 u03 u04 u05)) (again (ME p l0 x4 (Nd.r (DL (IV.toInt (AH l0 (AE x6) default)))) (AA AB (x9+1)) u00 u01 u02 u03 u04 u05))) (cond (decide (Nd.f (DL (IV.toInt (AH l0 (AE x6) default)))=ic 1)) (cond (decide (Pt.p1 p≤Nd.a (DL (IV.toInt (AH l0 (AE x6) default))))) (again (ME p l0 x4 (Nd.l (DL (IV.toInt (AH l0 (AE x6) default)))) (AA AB (x9+1)) u00 u01 u02 u03 u04 u05)) (again (ME p l0 x4 (Nd.r (DL (IV.toInt (AH l0 (AE x6) default)))) (AA AB (x9+1)) u00 u01 u02 u03 u04 u05))) (cond (decide (Nd.f (DL (IV.toInt (AH l0 (AE x6) default)))=ic 2)) (cond (decide (Pt.p2 p≤Nd.a (DL (IV.toInt (AH l0 (AE x6) default))))) (again (ME p l0 x4 (Nd.l (DL (IV.toInt (AH l0 (AE x6) default)))) (AA AB (x9+1)) u00 u01 u02 u03 u04 u05)) (again (ME p l0 x4 (Nd.r (DL (IV.toInt (AH l0 (AE x6) default)))) (AA AB (x9+1)) u00 u01 u02 u03 u04 u05))) (cond (decide (Nd.f (DL (IV.toInt (AH l0 (AE x6) default)))=ic 3)) (cond (decide (Pt.p3 p≤Nd.a (DL (IV.toInt (AH l0 (AE x6) default))))) (again (ME p l0 x4 (Nd.l (DL (IV.toInt (AH l0 (AE x6) default)))) (AA AB (x9+1)) u00 u01 u02 u03 u04 u05)) (again (ME p l0 x4 (Nd.r (DL (IV.toInt (AH l0 (AE x6) default)))) (AA AB (x9+1)) u00 u01 u02 u03 u04 u05))) none)))))) none)) (k (.exit 0) (ME p l0 x4 x6 x9 u00 u01 u02 u03 u04 u05))):=by kernel_rfl
theorem Ag (N:Nat) (p:Pt) (l0:LI) (x4 x6 x9:Int) (u00:Bool) (u01 u02 u03 u04 u05:Int):(DQ 0 (DS (KL N) (DK N0 [1,1,1]) (DT (KL N) none [.tmp 4,.cell 5 111] [[.z],[.bool,.z,.z,.z,.z,.z]]))) (.exit 0) (ME p l0 x4 x6 x9 u00 u01 u02 u03 u04 u05)=(some ((.tup [.i (-1),.agg [.bool false,.i 0,.i 0,.i 0,.i 0,.i 0]]),[])):=by kernel_rfl
theorem Yv (N:Nat) (p:Pt) (l0:LI) (x4 x6 x9:Int) (u00:Bool) (u01 u02 u03 u04 u05:Int):(DQ 0 (DS (KL N) (DK N0 [1,1,1]) (DT (KL N) none [.tmp 4,.cell 5 111] [[.z],[.bool,.z,.z,.z,.z,.z]]))) .ret (ME p l0 x4 x6 x9 u00 u01 u02 u03 u04 u05)=(some ((.tup [.i x4,.agg [.bool u00,.i u01,.i u02,.i u03,.i u04,.i u05]]),[])):=by kernel_rfl
def Sc (N:Nat):Env:=D5 [(217,dL)] [] 15 N
theorem zeI (N:Nat) (l:LI) (p:Pt):DZ (Sc N) yN [.tmp 4] [[.z]] [.list false [.int .u64] l,(Pt.V p)]=(some ((.i (Nd.v (jE l p))),[])):=by kernel_rfl
def LN (N:Nat):Env:=D5 [(195,dK)] [(3,⟨[1,5,6,7,15,16,17],[5],[]⟩)] 33 N
abbrev TS (p:Pt) (x1 x6 x7:Int) (l15:LI) (x16 x17:Int):St:=⟨[(1,(.i x1)),(5,(.ptr 5 0 0)),(6,(.i x6)),(7,(.i x7)),(15,(.list true MO l15)),(16,(.i x16)),(17,(.i x17))],[(5,(some (.box (Pt.cs p))))]⟩
theorem zd2 (N:Nat) (m:Md) (u00:Int) (p:Pt):DZ (LN N) OU [.tmp 6] [[.z]] [(Md.V m),.i u00,(Pt.V p)]=(cond (decide (u00=ic 0)) (DY (LN N) (DK OU [1,1,0,1,0,0]) ⟨[1,5,6,7,15,16,17],[5],[]⟩ N (TS p u00 0 (Md.b0 m) (Md.ts m) (ic (AF (Md.ts m))) 0) (DQ 0 (DS (LN N) (DK OU [1,1,1]) (DT (LN N) none [.tmp 6] [[.z]])))) (cond (decide (u00=ic 1)) (DY (LN N) (DK OU [1,1,0,1,0,0]) ⟨[1,5,6,7,15,16,17],[5],[]⟩ N (TS p u00 0 (Md.b1 m) (Md.ts m) (ic (AF (Md.ts m))) 0) (DQ 0 (DS (LN N) (DK OU [1,1,1]) (DT (LN N) none [.tmp 6] [[.z]])))) (cond (decide (u00=ic 2)) (DY (LN N) (DK OU [1,1,0,1,0,0]) ⟨[1,5,6,7,15,16,17],[5],[]⟩ N (TS p u00 0 (Md.b2 m) (Md.ts m) (ic (AF (Md.ts m))) 0) (DQ 0 (DS (LN N) (DK OU [1,1,1]) (DT (LN N) none [.tmp 6] [[.z]])))) none))):=by kernel_rfl
theorem Mc (N:Nat) (p:Pt) (x1 x6 x7:Int) (l15:LI) (x16 x17:Int) (again:St→DO) (k:Out→St→DO):EZ (LN N) (DK OU [1,1,0,1,0,0]) (TS p x1 x6 x7 l15 x16 x17) (EN again ⟨[1,5,6,7,15,16,17],[5],[]⟩ k)=(cond (decide (x17 < x16)) (cond (decide (0≤x17)&&decide (x17 < ic (AF l15))) (cond (IV.toInt (IV.cell (AH l15 (AE x17) default) 0)==x1) (again (TS p x1 x6 (AA AB (x7+HD (IV.toList (IV.cell (AH l15 (AE x17) default) 1)) p)) l15 x16 (AA AB (x17+1)))) (again (TS p x1 x6 x7 l15 x16 (AA AB (x17+1))))) none) (k (.exit 0) (TS p x1 x6 x7 l15 x16 x17))):=by kernel_rfl
theorem Ya (N:Nat) (p:Pt) (x1 x6 x7:Int) (l15:LI) (x16 x17:Int):(DQ 0 (DS (LN N) (DK OU [1,1,1]) (DT (LN N) none [.tmp 6] [[.z]]))) (.exit 0) (TS p x1 x6 x7 l15 x16 x17)=(some ((.i x7),[])):=by kernel_rfl
def Qw (N:Nat):Env:=D5 [(53,MH),(159,cQ)] [] 24 N
theorem zdY (N:Nat) (m:Md) (u00:Int) (p:Pt):DZ (Qw N) xK [.tmp 6] [[.z]] [(Md.V m),.i u00,(Pt.V p)]=(cond (!EW m) (some ((.i 0),[])) (cond (decide (u00 < 0)) (some ((.i 0),[])) (cond (decide (u00≥Md.c m)) (some ((.i 0),[])) (cond (EW m&&ID m u00) (some ((.i (P2 u00 p (Md.ts m) (LQ m u00))),[])) none)))):=by kernel_rfl
def Pp (N:Nat):Env:=D5 [(155,WI)] [(2,⟨[2,5,6],[],[]⟩)] 12 N
def Pr (N:Nat):Env:=D5 [] [(3,⟨[1,2,3,5],[1,2,3],[]⟩)] 16 N
open Go Go.Proofs
def NU (N:Nat):Env:=kG [(53,MH),(55,MI)] [(202,jQ),(201,jS)] [(5,⟨[1,4,5,16,17,18],[500],[⟨.tmp 5,500,3,false,[.z]⟩]⟩),(8,⟨[1,4,5,16,17,18,23,24,25],[500],[⟨.tmp 5,500,3,false,[.z]⟩]⟩)] 54 N
abbrev aO (x1:Int) (n5:Nat) (l16:LI) (x17 x18:Int) (u00:LI):St:=⟨[(1,(.i x1)),(4,.zs),(5,(.row 500 0 n5)),(16,(.list true MO l16)),(17,(.i x17)),(18,(.i x18))],[(500,(some (.row true 3 false [.z] u00)))]⟩
abbrev VV (x1:Int) (n5:Nat) (l16:LI) (x17 x18:Int) (l23:LI) (x24 x25:Int) (u00:LI):St:=⟨[(1,(.i x1)),(4,.zs),(5,(.row 500 0 n5)),(16,(.list true MO l16)),(17,(.i x17)),(18,(.i x18)),(23,(.list false [.int .u64] l23)),(24,(.i x24)),(25,(.i x25))],[(500,(some (.row true 3 false [.z] u00)))]⟩
theorem zd1 (N:Nat) (m:Md) (u00:Int):DZ (NU N) OT [.tmp 4] [] [(Md.V m),.i u00]=(cond (!EW m) (some (.any,[])) (DY (NU N) (DK OT [1,1,1,0,1,0,0]) ⟨[1,4,5,16,17,18],[500],[⟨(.tmp 5),500,3,false,[.z]⟩]⟩ N (aO u00 0 (Md.ts m) (ic (AF (Md.ts m))) 0 []) (DQ 0 (DS (NU N) (DK OT [1,1,1,1]) (DT (NU N) none [.tmp 4] []))))):=by kernel_rfl
theorem Ma (N:Nat) (x1:Int) (n5:Nat) (l16:LI) (x17 x18:Int) (u00:LI) (again:St→DO) (k:Out→St→DO):EZ (NU N) (DK OT [1,1,1,0,1,0,0]) (aO x1 n5 l16 x17 x18 u00) (EN again ⟨[1,4,5,16,17,18],[500],[⟨(.tmp 5),500,3,false,[.z]⟩]⟩ k)=(cond (decide (x18 < x17)) (cond (decide (0≤x18)&&decide (x18 < ic (AF l16))) (DY (NU N) (DK OT [1,1,1,0,1,0,0,1,1,0,0,1,1,0,0]) ⟨[1,4,5,16,17,18,23,24,25],[500],[⟨(.tmp 5),500,3,false,[.z]⟩]⟩ N (VV x1 n5 l16 x17 x18 (IV.toList (IV.cell (AH l16 (AE x18) default) 1)) (ic (AF (IV.toList (IV.cell (AH l16 (AE x18) default) 1)))) 0 u00) (DQ 2 (DQ 1 (DS (NU N) (DK OT [1,1,1,0,1,0,0,1,1,1]) (EN again ⟨[1,4,5,16,17,18],[500],[⟨(.tmp 5),500,3,false,[.z]⟩]⟩ k))))) none) (k (.exit 0) (aO x1 n5 l16 x17 x18 u00))):=by kernel_rfl
theorem Mb (N:Nat) (x1:Int) (n5:Nat) (l16:LI) (x17 x18:Int) (l23:LI) (x24 x25:Int) (u00:LI) (again:St→DO) (k:Out→St→DO):EZ (NU N) (DK OT [1,1,1,0,1,0,0,1,1,0,0,1,1,0,0]) (VV x1 n5 l16 x17 x18 l23 x24 x25 u00) (EN again ⟨[1,4,5,16,17,18,23,24,25],[500],[⟨(.tmp 5),500,3,false,[.z]⟩]⟩ k)=(cond (decide (x25 < x24)) (cond (decide (0≤x25)&&decide (x25 < ic (AF l23))) (cond (!Nd.lf (DL (IV.toInt (AH l23 (AE x25) default)))) (cond (Nd.f (DL (IV.toInt (AH l23 (AE x25) default)))==x1) (cond (decide ((n5+1)*8≤EE)) (again (VV x1 (n5+1) l16 x17 x18 l23 x24 (AA AB (x25+1)) (AK n5 u00++[IV.int (Nd.a (DL (IV.toInt (AH l23 (AE x25) default))))]))) none) (again (VV x1 n5 l16 x17 x18 l23 x24 (AA AB (x25+1)) u00))) (again (VV x1 n5 l16 x17 x18 l23 x24 (AA AB (x25+1)) u00))) none) (k (.exit 2) (VV x1 n5 l16 x17 x18 l23 x24 x25 u00))):=by kernel_rfl
theorem Xy (N:Nat) (x1:Int) (n5:Nat) (l16:LI) (x17 x18:Int) (u00:LI):(DQ 0 (DS (NU N) (DK OT [1,1,1,1]) (DT (NU N) none [.tmp 4] []))) (.exit 0) (aO x1 n5 l16 x17 x18 u00)=(cond (BQ n5 (AF u00)) (cond (BQ (AF (iZ (KY (A2 IV.toInt u00)))) (AF u00)) (cond (BQ n5 (AF (iZ (KY (A2 IV.toInt u00))))) (cond (B6 (AF (iZ (KA (A2 IV.toInt (iZ (KY (A2 IV.toInt u00))))))) (AF (iZ (KY (A2 IV.toInt u00))))) (some ((.vec 3 false [.z] (AK (AF (iZ (KA (A2 IV.toInt (iZ (KY (A2 IV.toInt u00))))))) (iZ (KA (A2 IV.toInt (iZ (KY (A2 IV.toInt u00)))))))),[])) none) none) none) none):=by kernel_rfl
theorem Xz (N:Nat) (again:St→DO) (k:Out→St→DO) (x1:Int) (n5:Nat) (l16:LI) (x17 x18:Int) (l23:LI) (x24 x25:Int) (u00:LI):(DQ 2 (DQ 1 (DS (NU N) (DK OT [1,1,1,0,1,0,0,1,1,1]) (EN again ⟨[1,4,5,16,17,18],[500],[⟨(.tmp 5),500,3,false,[.z]⟩]⟩ k)))) (.exit 2) (VV x1 n5 l16 x17 x18 l23 x24 x25 u00)=(again (aO x1 n5 l16 x17 (AA AB (x18+1)) u00)):=by kernel_rfl
def Qt (N:Nat):Env:=D5 [] [] 23 N
theorem zdT (N:Nat) (q:Qy) (u00:Int):DZ (Qt N) xH [.tmp 4] [[.z]] [(Qy.V q),.i u00]=(cond (decide (u00≥0)) (cond (decide (u00 < 4)) (some ((.i u00),[])) (cond (u00==4) (cond (Qy.k q==3) (some ((.i (Qy.ft q)),[])) (some ((.i (-1)),[]))) (some ((.i (-1)),[])))) (cond (u00==4) (cond (Qy.k q==3) (some ((.i (Qy.ft q)),[])) (some ((.i (-1)),[]))) (some ((.i (-1)),[])))):=by kernel_rfl
def uP (N:Nat):Env:=kG [(166,cK),(168,cP)] [(167,jR)] [] 24 N
def Rk (N:Nat):Env:=D5 [] [] 71 N
theorem zeg (N:Nat) (m:Md) (a1:Qy):DZ (Rk N) xW [.tmp 4] [[.bool]] [(Md.V m),(Qy.V a1)]=(cond (Qy.k a1==1) (cond (decide (Qy.lo a1≤Qy.hi a1)) (cond (Qy.ft a1==0) (some ((.bool (!Qy.fl a1)),[])) (some ((.bool false),[]))) (some ((.bool false),[]))) (cond (Qy.k a1==2) (cond (decide (Md.c m≥2)) (cond (Qy.lo a1==0) (cond (Qy.hi a1==0) (cond (Qy.ft a1==0) (some ((.bool (!Qy.fl a1)),[])) (some ((.bool false),[]))) (some ((.bool false),[]))) (some ((.bool false),[]))) (some ((.bool false),[]))) (cond (Qy.k a1==3) (cond (decide (Qy.ft a1≥0)) (cond (decide (Qy.ft a1 < Md.d m)) (cond (Qy.lo a1==0) (some ((.bool (Qy.hi a1==0)),[])) (some ((.bool false),[]))) (some ((.bool false),[]))) (some ((.bool false),[]))) (some ((.bool false),[]))))):=by kernel_rfl
def Rg (N:Nat):Env:=D5 [(53,MH),(108,cZ),(107,c7)] [] 41 N
theorem zed (N:Nat) (m:Md) (q:Qy):DZ (Rg N) xT [.tmp 4] [[.bool]] [(Md.V m),(Qy.V q)]=(cond (EW m) (cond (decide (Qy.c q≥0)) (cond (decide (Qy.c q < Md.c m)) (cond (decide (Qy.bu q≥0)) (cond (decide (Qy.bu q≤65536)) (cond (P9 {s0:={lo:=Qy.a0 q,hi:=Qy.b0 q},s1:={lo:=Qy.a1 q,hi:=Qy.b1 q},s2:={lo:=Qy.a2 q,hi:=Qy.b2 q},s3:={lo:=Qy.a3 q,hi:=Qy.b3 q},s4:={lo:=Qy.a4 q,hi:=Qy.b4 q}} (Md.d m)) (some ((.bool (RA m q)),[])) (some ((.bool false),[]))) (some ((.bool false),[]))) (some ((.bool false),[]))) (some ((.bool false),[]))) (some ((.bool false),[]))) (some ((.bool false),[]))):=by kernel_rfl
def Rl (N:Nat):Env:=D5 [] [] 16 N
theorem zeh (N:Nat) (q:Qy):DZ (Rl N) xX [.tmp 2] [[.bool]] [(Qy.V q)]=(cond (Qy.k q==3) (cond (decide (Qy.ft q≥0)) (some ((.bool (decide (Qy.ft q < 4))),[])) (some ((.bool false),[]))) (some ((.bool false),[]))):=by kernel_rfl
def Rj (N:Nat):Env:=D5 [(109,WG)] [] 16 N
theorem zef (N:Nat) (q:Qy):DZ (Rj N) xV [.cell 2 36] [[.z,.z,.z,.z,.z,.z,.z,.z,.z,.z]] [(Qy.V q)]=(cond (HA q) (cond (decide (Qy.ft q=ic 0)) (some ((.agg [.i (Qy.a0 q),.i (Qy.b0 q),.i (Qy.a1 q),.i (Qy.b1 q),.i (Qy.a2 q),.i (Qy.b2 q),.i (Qy.a3 q),.i (Qy.b3 q),.i (Qy.a0 q),.i (Qy.b0 q)]),[])) (cond (decide (Qy.ft q=ic 1)) (some ((.agg [.i (Qy.a0 q),.i (Qy.b0 q),.i (Qy.a1 q),.i (Qy.b1 q),.i (Qy.a2 q),.i (Qy.b2 q),.i (Qy.a3 q),.i (Qy.b3 q),.i (Qy.a1 q),.i (Qy.b1 q)]),[])) (cond (decide (Qy.ft q=ic 2)) (some ((.agg [.i (Qy.a0 q),.i (Qy.b0 q),.i (Qy.a1 q),.i (Qy.b1 q),.i (Qy.a2 q),.i (Qy.b2 q),.i (Qy.a3 q),.i (Qy.b3 q),.i (Qy.a2 q),.i (Qy.b2 q)]),[])) (cond (decide (Qy.ft q=ic 3)) (some ((.agg [.i (Qy.a0 q),.i (Qy.b0 q),.i (Qy.a1 q),.i (Qy.b1 q),.i (Qy.a2 q),.i (Qy.b2 q),.i (Qy.a3 q),.i (Qy.b3 q),.i (Qy.a3 q),.i (Qy.b3 q)]),[])) (cond (decide (Qy.ft q=ic 4)) (some ((.agg [.i (Qy.a0 q),.i (Qy.b0 q),.i (Qy.a1 q),.i (Qy.b1 q),.i (Qy.a2 q),.i (Qy.b2 q),.i (Qy.a3 q),.i (Qy.b3 q),.i 0,.i 0]),[])) none))))) (some ((.agg [.i (Qy.a0 q),.i (Qy.b0 q),.i (Qy.a1 q),.i (Qy.b1 q),.i (Qy.a2 q),.i (Qy.b2 q),.i (Qy.a3 q),.i (Qy.b3 q),.i 0,.i 0]),[]))):=by kernel_rfl
def Rh (N:Nat):Env:=D5 [(109,WG)] [] 14 N
theorem zee (N:Nat) (q:Qy) (p:Pt) (twin:Int):DZ (Rh N) xU [.cell 6 53] [[.z,.z,.z,.z]] [(Qy.V q),(Pt.V p),.i twin]=(cond (HA q) (cond (decide (Qy.ft q=ic 0)) (some ((.agg [.i twin,.i (Pt.p1 p),.i (Pt.p2 p),.i (Pt.p3 p)]),[])) (cond (decide (Qy.ft q=ic 1)) (some ((.agg [.i (Pt.p0 p),.i twin,.i (Pt.p2 p),.i (Pt.p3 p)]),[])) (cond (decide (Qy.ft q=ic 2)) (some ((.agg [.i (Pt.p0 p),.i (Pt.p1 p),.i twin,.i (Pt.p3 p)]),[])) (cond (decide (Qy.ft q=ic 3)) (some ((.agg [.i (Pt.p0 p),.i (Pt.p1 p),.i (Pt.p2 p),.i twin]),[])) none)))) (some ((Pt.V p),[]))):=by kernel_rfl
def LO (N:Nat):Env:=D5 [(115,cO),(65,NV),(116,cY),(114,WJ)] [(9,⟨[4,5,6,8,9,36,37],[4,5,6],[]⟩)] 75 N
abbrev TT (m:Md) (a1:Qy) (a2:Pt) (b8:Bool) (x9 x36 x37:Int):St:=⟨[(4,(.ptr 4 0 0)),(5,(.ptr 5 0 0)),(6,(.ptr 6 0 0)),(8,(.bool b8)),(9,(.i x9)),(36,(.i x36)),(37,(.i x37))],[(4,(some (.box (Md.cs m)))),(5,(some (.box (Qy.cs a1)))),(6,(some (.box (Pt.cs a2))))]⟩
theorem zec (N:Nat) (m:Md) (a1:Qy) (a2:Pt) (a3:Int):DZ (LO N) NZ [.tmp 8] [[.bool]] [(Md.V m),(Qy.V a1),(Pt.V a2),.i a3]=(cond (!FG m a1) (some ((.bool false),[])) (cond (Qy.k a1==1) (some ((.bool (!Sp.has {lo:=Qy.lo a1,hi:=Qy.hi a1} (ER m (Qy.c a1) a2))),[])) (cond (Qy.k a1==2) (DY (LO N) (DK NZ [1,1,1,0,1,0,1,1,1,0,0,1,0,0]) ⟨[4,5,6,8,9,36,37],[4,5,6],[]⟩ N (TT m a1 a2 false (ER m (Qy.c a1) a2) (Md.c m) 0) (DQ 1 (DS (LO N) (DK NZ [1,1,1,0,1,0,1,1,1,0,1]) (DQ 0 (DS (LO N) (DK NZ [1,1,1,1]) (DT (LO N) none [.tmp 8] [[.bool]])))))) (cond (decide (Qy.ft a1=ic 0)) (cond (decide (Pt.p0 a2≥a3)) (some ((.bool false),[])) (cond (Qy.fl a1) (some ((.bool (decide (ER m (Qy.c a1) (JE a1 a2 a3) > ER m (Qy.c a1) a2))),[])) (some ((.bool (decide (ER m (Qy.c a1) (JE a1 a2 a3) < ER m (Qy.c a1) a2))),[])))) (cond (decide (Qy.ft a1=ic 1)) (cond (decide (Pt.p1 a2≥a3)) (some ((.bool false),[])) (cond (Qy.fl a1) (some ((.bool (decide (ER m (Qy.c a1) (JE a1 a2 a3) > ER m (Qy.c a1) a2))),[])) (some ((.bool (decide (ER m (Qy.c a1) (JE a1 a2 a3) < ER m (Qy.c a1) a2))),[])))) (cond (decide (Qy.ft a1=ic 2)) (cond (decide (Pt.p2 a2≥a3)) (some ((.bool false),[])) (cond (Qy.fl a1) (some ((.bool (decide (ER m (Qy.c a1) (JE a1 a2 a3) > ER m (Qy.c a1) a2))),[])) (some ((.bool (decide (ER m (Qy.c a1) (JE a1 a2 a3) < ER m (Qy.c a1) a2))),[])))) (cond (decide (Qy.ft a1=ic 3)) (cond (decide (Pt.p3 a2≥a3)) (some ((.bool false),[])) (cond (Qy.fl a1) (some ((.bool (decide (ER m (Qy.c a1) (JE a1 a2 a3) > ER m (Qy.c a1) a2))),[])) (some ((.bool (decide (ER m (Qy.c a1) (JE a1 a2 a3) < ER m (Qy.c a1) a2))),[])))) none))))))):=by kernel_rfl
theorem Mg (N:Nat) (m:Md) (a1:Qy) (a2:Pt) (b8:Bool) (x9 x36 x37:Int) (again:St→DO) (k:Out→St→DO):EZ (LO N) (DK NZ [1,1,1,0,1,0,1,1,1,0,0,1,0,0]) (TT m a1 a2 b8 x9 x36 x37) (EN again ⟨[4,5,6,8,9,36,37],[4,5,6],[]⟩ k)=(cond (decide (x37 < x36)) (cond (x37 != Qy.c a1) (cond (decide (ER m x37 a2≥x9)) (k .ret (TT m a1 a2 true x9 x36 x37)) (again (TT m a1 a2 b8 x9 x36 (AA AB (x37+1))))) (again (TT m a1 a2 b8 x9 x36 (AA AB (x37+1))))) (k (.exit 1) (TT m a1 a2 b8 x9 x36 x37))):=by kernel_rfl
theorem Ye (N:Nat) (m:Md) (a1:Qy) (a2:Pt) (b8:Bool) (x9 x36 x37:Int):(DQ 1 (DS (LO N) (DK NZ [1,1,1,0,1,0,1,1,1,0,1]) (DQ 0 (DS (LO N) (DK NZ [1,1,1,1]) (DT (LO N) none [.tmp 8] [[.bool]]))))) (.exit 1) (TT m a1 a2 b8 x9 x36 x37)=(some ((.bool false),[])):=by kernel_rfl
theorem Yf (N:Nat) (m:Md) (a1:Qy) (a2:Pt) (b8:Bool) (x9 x36 x37:Int):(DQ 1 (DS (LO N) (DK NZ [1,1,1,0,1,0,1,1,1,0,1]) (DQ 0 (DS (LO N) (DK NZ [1,1,1,1]) (DT (LO N) none [.tmp 8] [[.bool]]))))) .ret (TT m a1 a2 b8 x9 x36 x37)=(some ((.bool b8),[])):=by kernel_rfl
def Rm (N:Nat):Env:=D5 [(93,R9),(155,WI)] [(2,⟨[1,4,7,8],[],[]⟩)] 35 N
open Go Go.Proofs
def QX (N:Nat):Env:=D5 [(111,PO),(112,K2),(55,MI),(96,WP)] [(7,⟨[4,5,6,24,25,26],[20,500],[⟨.tmp 6,500,275,true,[.z,.z,.z,.z,.z,.z,.z,.z,.z,.z,.z]⟩]⟩)] 79 N
abbrev VU (n5 n6:Nat) (l24:LI) (x25 x26:Int) (lo20 u00:LI):St:=⟨[(4,.zs),(5,(.row 20 0 n5)),(6,(.row 500 0 n6)),(24,(.list false [.int .u64] l24)),(25,(.i x25)),(26,(.i x26))],[(20,(some (.row true 36 true E6 lo20))),(500,(some (.row true 275 true MN u00)))]⟩
theorem zdX (N:Nat) (l:LI) (a1:Bx):DZ (QX N) UI [.tmp 4] [[.list true [.z,.z,.z,.z,.z,.z,.z,.z,.z,.z,.z]]] [.list false [.int .u64] l,(Bx.V a1)]=(cond (!GV l 4) (some ((.list true MN []),[])) (cond (Bx.emp a1) (some ((.list true MN []),[])) (cond (true&&(true&&decide (0≤ic (AF l)))&&(decide (ic (AF l)=ic (AF l))&&decide (ic (AF l)*ic 80≤ic EE))) (cond (decide (0≤0)&&decide (0 < ic (AE (ic (AF l)) - 0))) (DY (QX N) (DK UI [1,1,1,1,1,0,1,0,0]) ⟨[4,5,6,24,25,26],[20,500],[⟨(.tmp 6),500,275,true,MN⟩]⟩ N (VU (AE (ic (AF l))) 0 l (ic (AF l)) 0 (List.set (BN (AE (ic (AF l))) (IV.agg [IV.int 0,IV.int 0,IV.int 0,IV.int 0,IV.int 0,IV.int 0,IV.int 0,IV.int 0,IV.int 0,IV.int 0])) 0 (Bx.I a1)) []) (DQ 0 (DS (QX N) (DK UI [1,1,1,1,1,1]) (DT (QX N) none [.tmp 4] [[.list true MN]])))) none) none))):=by kernel_rfl
theorem Ly (N n5 n6:Nat) (l24:LI) (x25 x26:Int) (lo20 u00:LI) (again:St→DO) (k:Out→St→DO):EZ (QX N) (DK UI [1,1,1,1,1,0,1,0,0]) (VU n5 n6 l24 x25 x26 lo20 u00) (EN again ⟨[4,5,6,24,25,26],[20,500],[⟨(.tmp 6),500,275,true,MN⟩]⟩ k)=(cond (decide (x26 < x25)) (cond (decide (0≤x26)&&decide (x26 < ic (AF l24))) (cond (!Nd.lf (DL (IV.toInt (AH l24 (AE x26) default)))) (cond (decide (0≤x26)&&decide (x26 < ic (n5 - 0))) (cond (H8 (Nd.f (DL (IV.toInt (AH l24 (AE x26) default))))) (cond (decide (0≤Nd.l (DL (IV.toInt (AH l24 (AE x26) default))))&&decide (Nd.l (DL (IV.toInt (AH l24 (AE x26) default))) < ic (n5 - 0))) (cond (decide (0≤Nd.r (DL (IV.toInt (AH l24 (AE x26) default))))&&decide (Nd.r (DL (IV.toInt (AH l24 (AE x26) default))) < ic (n5 - 0))) (again (VU n5 n6 l24 x25 (AA AB (x26+1)) (List.set (List.set lo20 (0+AE (Nd.l (DL (IV.toInt (AH l24 (AE x26) default))))) (Bx.I (Bx.cutL (D7 (AH lo20 (0+AE x26) default)) (Nd.f (DL (IV.toInt (AH l24 (AE x26) default)))) (Nd.a (DL (IV.toInt (AH l24 (AE x26) default))))))) (0+AE (Nd.r (DL (IV.toInt (AH l24 (AE x26) default))))) (Bx.I (Bx.cutH (D7 (AH lo20 (0+AE x26) default)) (Nd.f (DL (IV.toInt (AH l24 (AE x26) default)))) (Nd.a (DL (IV.toInt (AH l24 (AE x26) default))))))) u00)) none) none) none) none) (cond (decide (0≤x26)&&decide (x26 < ic (n5 - 0))) (cond (!Bx.emp (D7 (AH lo20 (0+AE x26) default))) (cond (decide (0≤x26)&&decide (x26 < ic (n5 - 0))) (cond (decide ((n6+1)*88≤EE)) (again (VU n5 (n6+1) l24 x25 (AA AB (x26+1)) lo20 (AK n6 u00++[(fQ (D7 (AH lo20 (0+AE x26) default)) (Nd.v (DL (IV.toInt (AH l24 (AE x26) default)))))]))) none) none) (again (VU n5 n6 l24 x25 (AA AB (x26+1)) lo20 u00))) none)) none) (k (.exit 0) (VU n5 n6 l24 x25 x26 lo20 u00))):=by kernel_rfl
theorem Xv (N n5 n6:Nat) (l24:LI) (x25 x26:Int) (lo20 u00:LI):(DQ 0 (DS (QX N) (DK UI [1,1,1,1,1,1]) (DT (QX N) none [.tmp 4] [[.list true MN]]))) (.exit 0) (VU n5 n6 l24 x25 x26 lo20 u00)=(some ((.list true MN (AS 0 (AK n6 u00))),[])):=by kernel_rfl
def QT (N:Nat):Env:=D5 [(218,cN)] [(6,⟨[4,5,6,8,9,26,27,28],[],[]⟩)] 43 N
abbrev aL (x4 x5:Int) (b6:Bool) (x8 x9:Int) (l26:LI) (x27 x28:Int):St:=⟨[(4,(.i x4)),(5,(.i x5)),(6,(.bool b6)),(8,(.i x8)),(9,(.i x9)),(26,(.list true MN l26)),(27,(.i x27)),(28,(.i x28))],[]⟩
theorem zdb (N:Nat) (l:LI) (b:Bx):DZ (QT N) UD [.tmp 4,.tmp 5,.tmp 6] [[.z],[.z],[.bool]] [.list false [.int .u64] l,(Bx.V b)]=(cond (ic (AF (IT l b))==0) (some ((.tup [.i 0,.i 0,.bool false]),[])) (cond (decide (0≤0)&&decide (0 < ic (AF (IT l b)))) (cond (decide (0≤0)&&decide (0 < ic (AF (IT l b)))) (DY (QT N) (DK UD [1,1,1,1,0,1,0,0]) ⟨[4,5,6,8,9,26,27,28],[],[]⟩ N (aL 0 0 false (IV.toInt (IV.cell (AH (IT l b) (AE 0) default) 10)) (IV.toInt (IV.cell (AH (IT l b) (AE 0) default) 10)) (IT l b) (ic (AF (IT l b))) 0) (DQ 0 (DS (QT N) (DK UD [1,1,1,1,1]) (DT (QT N) none [.tmp 4,.tmp 5,.tmp 6] [[.z],[.z],[.bool]])))) none) none)):=by kernel_rfl
theorem Lf (N:Nat) (x4 x5:Int) (b6:Bool) (x8 x9:Int) (l26:LI) (x27 x28:Int) (again:St→DO) (k:Out→St→DO):EZ (QT N) (DK UD [1,1,1,1,0,1,0,0]) (aL x4 x5 b6 x8 x9 l26 x27 x28) (EN again ⟨[4,5,6,8,9,26,27,28],[],[]⟩ k)=(cond (decide (x28 < x27)) (cond (decide (0≤x28)&&decide (x28 < ic (AF l26))) (again (aL x4 x5 b6 (min x8 (IV.toInt (IV.cell (AH l26 (AE x28) default) 10))) (max x9 (IV.toInt (IV.cell (AH l26 (AE x28) default) 10))) l26 x27 (AA AB (x28+1)))) none) (k (.exit 0) (aL x4 x5 b6 x8 x9 l26 x27 x28))):=by kernel_rfl
theorem Wr (N:Nat) (x4 x5:Int) (b6:Bool) (x8 x9:Int) (l26:LI) (x27 x28:Int):(DQ 0 (DS (QT N) (DK UD [1,1,1,1,1]) (DT (QT N) none [.tmp 4,.tmp 5,.tmp 6] [[.z],[.z],[.bool]]))) (.exit 0) (aL x4 x5 b6 x8 x9 l26 x27 x28)=(some ((.tup [.i x8,.i x9,.bool true]),[])):=by kernel_rfl
def GW (N:Nat):Env:=D5 [(196,bD),(112,K2),(53,MH)] [(5,⟨[1,5,6,7,8,9,10,42,43,44],[5],[]⟩)] 69 N
abbrev M3 (a2:Bx) (x1 x6 x7:Int) (b8:Bool) (x9 x10:Int) (l42:LI) (x43 x44:Int):St:=⟨[(1,(.i x1)),(5,(.ptr 5 0 0)),(6,(.i x6)),(7,(.i x7)),(8,(.bool b8)),(9,(.i x9)),(10,(.i x10)),(42,(.list true MO l42)),(43,(.i x43)),(44,(.i x44))],[(5,(some (.box (Bx.cs a2))))]⟩
theorem zda (N:Nat) (m:Md) (a1:Int) (a2:Bx):DZ (GW N) IP [.tmp 6,.tmp 7,.tmp 8] [[.z],[.z],[.bool]] [(Md.V m),.i a1,(Bx.V a2)]=(cond (!EW m) (some ((.tup [.i 0,.i 0,.bool false]),[])) (cond (decide (a1 < 0)) (some ((.tup [.i 0,.i 0,.bool false]),[])) (cond (decide (a1≥Md.c m)) (some ((.tup [.i 0,.i 0,.bool false]),[])) (cond (Bx.emp a2) (some ((.tup [.i 0,.i 0,.bool false]),[])) (cond (decide (a1=ic 0)) (cond (decide (a1=ic 0)) (DY (GW N) (DK IP [1,1,1,0,1,0,0]) ⟨[1,5,6,7,8,9,10,42,43,44],[5],[]⟩ N (M3 a2 a1 0 0 false (Md.b0 m) (Md.b0 m) (Md.ts m) (ic (AF (Md.ts m))) 0) (DQ 0 (DS (GW N) (DK IP [1,1,1,1]) (DT (GW N) none [.tmp 6,.tmp 7,.tmp 8] [[.z],[.z],[.bool]])))) (cond (decide (a1=ic 1)) (DY (GW N) (DK IP [1,1,1,0,1,0,0]) ⟨[1,5,6,7,8,9,10,42,43,44],[5],[]⟩ N (M3 a2 a1 0 0 false (Md.b0 m) (Md.b1 m) (Md.ts m) (ic (AF (Md.ts m))) 0) (DQ 0 (DS (GW N) (DK IP [1,1,1,1]) (DT (GW N) none [.tmp 6,.tmp 7,.tmp 8] [[.z],[.z],[.bool]])))) (cond (decide (a1=ic 2)) (DY (GW N) (DK IP [1,1,1,0,1,0,0]) ⟨[1,5,6,7,8,9,10,42,43,44],[5],[]⟩ N (M3 a2 a1 0 0 false (Md.b0 m) (Md.b2 m) (Md.ts m) (ic (AF (Md.ts m))) 0) (DQ 0 (DS (GW N) (DK IP [1,1,1,1]) (DT (GW N) none [.tmp 6,.tmp 7,.tmp 8] [[.z],[.z],[.bool]])))) none))) (cond (decide (a1=ic 1)) (cond (decide (a1=ic 0)) (DY (GW N) (DK IP [1,1,1,0,1,0,0]) ⟨[1,5,6,7,8,9,10,42,43,44],[5],[]⟩ N (M3 a2 a1 0 0 false (Md.b1 m) (Md.b0 m) (Md.ts m) (ic (AF (Md.ts m))) 0) (DQ 0 (DS (GW N) (DK IP [1,1,1,1]) (DT (GW N) none [.tmp 6,.tmp 7,.tmp 8] [[.z],[.z],[.bool]])))) (cond (decide (a1=ic 1)) (DY (GW N) (DK IP [1,1,1,0,1,0,0]) ⟨[1,5,6,7,8,9,10,42,43,44],[5],[]⟩ N (M3 a2 a1 0 0 false (Md.b1 m) (Md.b1 m) (Md.ts m) (ic (AF (Md.ts m))) 0) (DQ 0 (DS (GW N) (DK IP [1,1,1,1]) (DT (GW N) none [.tmp 6,.tmp 7,.tmp 8] [[.z],[.z],[.bool]])))) (cond (decide (a1=ic 2)) (DY (GW N) (DK IP [1,1,1,0,1,0,0]) ⟨[1,5,6,7,8,9,10,42,43,44],[5],[]⟩ N (M3 a2 a1 0 0 false (Md.b1 m) (Md.b2 m) (Md.ts m) (ic (AF (Md.ts m))) 0) (DQ 0 (DS (GW N) (DK IP [1,1,1,1]) (DT (GW N) none [.tmp 6,.tmp 7,.tmp 8] [[.z],[.z],[.bool]])))) none))) (cond (decide (a1=ic 2)) (cond (decide (a1=ic 0)) (DY (GW N) (DK IP [1,1,1,0,1,0,0]) ⟨[1,5,6,7,8,9,10,42,43,44],[5],[]⟩ N (M3 a2 a1 0 0 false (Md.b2 m) (Md.b0 m) (Md.ts m) (ic (AF (Md.ts m))) 0) (DQ 0 (DS (GW N) (DK IP [1,1,1,1]) (DT (GW N) none [.tmp 6,.tmp 7,.tmp 8] [[.z],[.z],[.bool]])))) (cond (decide (a1=ic 1)) (DY (GW N) (DK IP [1,1,1,0,1,0,0]) ⟨[1,5,6,7,8,9,10,42,43,44],[5],[]⟩ N (M3 a2 a1 0 0 false (Md.b2 m) (Md.b1 m) (Md.ts m) (ic (AF (Md.ts m))) 0) (DQ 0 (DS (GW N) (DK IP [1,1,1,1]) (DT (GW N) none [.tmp 6,.tmp 7,.tmp 8] [[.z],[.z],[.bool]])))) (cond (decide (a1=ic 2)) (DY (GW N) (DK IP [1,1,1,0,1,0,0]) ⟨[1,5,6,7,8,9,10,42,43,44],[5],[]⟩ N (M3 a2 a1 0 0 false (Md.b2 m) (Md.b2 m) (Md.ts m) (ic (AF (Md.ts m))) 0) (DQ 0 (DS (GW N) (DK IP [1,1,1,1]) (DT (GW N) none [.tmp 6,.tmp 7,.tmp 8] [[.z],[.z],[.bool]])))) none))) none))))))):=by kernel_rfl
theorem Le (N:Nat) (a2:Bx) (x1 x6 x7:Int) (b8:Bool) (x9 x10:Int) (l42:LI) (x43 x44:Int) (again:St→DO) (k:Out→St→DO):EZ (GW N) (DK IP [1,1,1,0,1,0,0]) (M3 a2 x1 x6 x7 b8 x9 x10 l42 x43 x44) (EN again ⟨[1,5,6,7,8,9,10,42,43,44],[5],[]⟩ k)=(cond (decide (x44 < x43)) (cond (decide (0≤x44)&&decide (x44 < ic (AF l42))) (cond (IV.toInt (IV.cell (AH l42 (AE x44) default) 0) != x1) (again (M3 a2 x1 x6 x7 b8 x9 x10 l42 x43 (AA AB (x44+1)))) (again (M3 a2 x1 x6 x7 b8 (AA AB (x9+IB (IV.toList (IV.cell (AH l42 (AE x44) default) 1)) a2)) (AA AB (x10+IA (IV.toList (IV.cell (AH l42 (AE x44) default) 1)) a2)) l42 x43 (AA AB (x44+1))))) none) (k (.exit 0) (M3 a2 x1 x6 x7 b8 x9 x10 l42 x43 x44))):=by kernel_rfl
theorem Wq (N:Nat) (a2:Bx) (x1 x6 x7:Int) (b8:Bool) (x9 x10:Int) (l42:LI) (x43 x44:Int):(DQ 0 (DS (GW N) (DK IP [1,1,1,1]) (DT (GW N) none [.tmp 6,.tmp 7,.tmp 8] [[.z],[.z],[.bool]]))) (.exit 0) (M3 a2 x1 x6 x7 b8 x9 x10 l42 x43 x44)=(some ((.tup [.i x9,.i x10,.bool true]),[])):=by kernel_rfl
def QS (N:Nat):Env:=D5 [(162,SB)] [(6,⟨[1,3,5,6,7,8,11,12,33,34],[3,5],[]⟩)] 62 N
abbrev TL (m:Md) (b:Bx) (x1 x6:Int) (b7:Bool) (x8 x11:Int) (b12:Bool) (x33 x34:Int):St:=⟨[(1,(.i x1)),(3,(.ptr 3 0 0)),(5,(.ptr 5 0 0)),(6,(.i x6)),(7,(.bool b7)),(8,(.i x8)),(11,(.i x11)),(12,(.bool b12)),(33,(.i x33)),(34,(.i x34))],[(3,(some (.box (Md.cs m)))),(5,(some (.box (Bx.cs b))))]⟩
theorem zc9 (N:Nat) (m:Md) (u00:Int) (b:Bx):DZ (QS N) UC [.tmp 6,.tmp 7] [[.z],[.bool]] [(Md.V m),.i u00,(Bx.V b)]=(cond (!G4 m u00 b) (some ((.tup [.i 0,.bool false]),[])) (cond (decide (Md.c m < 2)) (some ((.tup [.i 0,.bool false]),[])) (DY (QS N) (DK UC [1,1,1,1,0,1,0,0]) ⟨[1,3,5,6,7,8,11,12,33,34],[3,5],[]⟩ N (TL m b u00 0 false (EA m u00 b) 0 false (Md.c m) 0) (DQ 0 (DS (QS N) (DK UC [1,1,1,1,1]) (DT (QS N) none [.tmp 6,.tmp 7] [[.z],[.bool]])))))):=by kernel_rfl
theorem Ld (N:Nat) (m:Md) (b:Bx) (x1 x6:Int) (b7:Bool) (x8 x11:Int) (b12:Bool) (x33 x34:Int) (again:St→DO) (k:Out→St→DO):EZ (QS N) (DK UC [1,1,1,1,0,1,0,0]) (TL m b x1 x6 b7 x8 x11 b12 x33 x34) (EN again ⟨[1,3,5,6,7,8,11,12,33,34],[3,5],[]⟩ k)=(cond (decide (x34 < x33)) (cond (x34==x1) (again (TL m b x1 x6 b7 x8 x11 b12 x33 (AA AB (x34+1)))) (cond (!b12) (again (TL m b x1 x6 b7 x8 (AA AB (x8 - D8 m x34 b)) true x33 (AA AB (x34+1)))) (cond (decide (AA AB (x8 - D8 m x34 b) < x11)) (again (TL m b x1 x6 b7 x8 (AA AB (x8 - D8 m x34 b)) true x33 (AA AB (x34+1)))) (again (TL m b x1 x6 b7 x8 x11 b12 x33 (AA AB (x34+1))))))) (k (.exit 0) (TL m b x1 x6 b7 x8 x11 b12 x33 x34))):=by kernel_rfl
theorem Wp (N:Nat) (m:Md) (b:Bx) (x1 x6:Int) (b7:Bool) (x8 x11:Int) (b12:Bool) (x33 x34:Int):(DQ 0 (DS (QS N) (DK UC [1,1,1,1,1]) (DT (QS N) none [.tmp 6,.tmp 7] [[.z],[.bool]]))) (.exit 0) (TL m b x1 x6 b7 x8 x11 b12 x33 x34)=(some ((.tup [.i x11,.bool true]),[])):=by kernel_rfl
def Qk (N:Nat):Env:=D5 [] [] 16 N
theorem zdI (N:Nat) (q:Qy):DZ (Qk N) w8 [.tmp 2] [[.bool]] [(Qy.V q)]=(cond (Qy.k q==3) (cond (decide (Qy.ft q≥0)) (some ((.bool (decide (Qy.ft q < 4))),[])) (some ((.bool false),[]))) (some ((.bool false),[]))):=by kernel_rfl
def Qh (N:Nat):Env:=D5 [(197,PP)] [] 10 N
theorem zdF (N:Nat) (q:Qy) (b:Bx):DZ (Qh N) wX [.cell 4 36] [[.z,.z,.z,.z,.z,.z,.z,.z,.z,.z]] [(Qy.V q),(Bx.V b)]=(cond (HA q) (some ((.agg [.i (Sp.lo (Bx.s0 b)),.i (Sp.hi (Bx.s0 b)),.i (Sp.lo (Bx.s1 b)),.i (Sp.hi (Bx.s1 b)),.i (Sp.lo (Bx.s2 b)),.i (Sp.hi (Bx.s2 b)),.i (Sp.lo (Bx.s3 b)),.i (Sp.hi (Bx.s3 b)),.i 0,.i 0]),[])) (some ((Bx.V b),[]))):=by kernel_rfl
def Qj (N:Nat):Env:=D5 [(197,PP)] [] 15 N
theorem zdH (N:Nat) (q:Qy) (b:Bx):DZ (Qj N) wZ [.cell 4 36] [[.z,.z,.z,.z,.z,.z,.z,.z,.z,.z]] [(Qy.V q),(Bx.V b)]=(cond (HA q) (cond (decide (Qy.ft q=ic 0)) (some ((.agg [.i (Sp.lo (Bx.s4 b)),.i (Sp.hi (Bx.s4 b)),.i (Sp.lo (Bx.s1 b)),.i (Sp.hi (Bx.s1 b)),.i (Sp.lo (Bx.s2 b)),.i (Sp.hi (Bx.s2 b)),.i (Sp.lo (Bx.s3 b)),.i (Sp.hi (Bx.s3 b)),.i 0,.i 0]),[])) (cond (decide (Qy.ft q=ic 1)) (some ((.agg [.i (Sp.lo (Bx.s0 b)),.i (Sp.hi (Bx.s0 b)),.i (Sp.lo (Bx.s4 b)),.i (Sp.hi (Bx.s4 b)),.i (Sp.lo (Bx.s2 b)),.i (Sp.hi (Bx.s2 b)),.i (Sp.lo (Bx.s3 b)),.i (Sp.hi (Bx.s3 b)),.i 0,.i 0]),[])) (cond (decide (Qy.ft q=ic 2)) (some ((.agg [.i (Sp.lo (Bx.s0 b)),.i (Sp.hi (Bx.s0 b)),.i (Sp.lo (Bx.s1 b)),.i (Sp.hi (Bx.s1 b)),.i (Sp.lo (Bx.s4 b)),.i (Sp.hi (Bx.s4 b)),.i (Sp.lo (Bx.s3 b)),.i (Sp.hi (Bx.s3 b)),.i 0,.i 0]),[])) (cond (decide (Qy.ft q=ic 3)) (some ((.agg [.i (Sp.lo (Bx.s0 b)),.i (Sp.hi (Bx.s0 b)),.i (Sp.lo (Bx.s1 b)),.i (Sp.hi (Bx.s1 b)),.i (Sp.lo (Bx.s2 b)),.i (Sp.hi (Bx.s2 b)),.i (Sp.lo (Bx.s4 b)),.i (Sp.hi (Bx.s4 b)),.i 0,.i 0]),[])) (cond (decide (Qy.ft q=ic 4)) (some ((.agg [.i (Sp.lo (Bx.s0 b)),.i (Sp.hi (Bx.s0 b)),.i (Sp.lo (Bx.s1 b)),.i (Sp.hi (Bx.s1 b)),.i (Sp.lo (Bx.s2 b)),.i (Sp.hi (Bx.s2 b)),.i (Sp.lo (Bx.s3 b)),.i (Sp.hi (Bx.s3 b)),.i 0,.i 0]),[])) none))))) (some ((Bx.V b),[]))):=by kernel_rfl
def Qi (N:Nat):Env:=D5 [(112,K2),(197,PP)] [] 23 N
theorem zdG (N:Nat) (q:Qy) (b:Bx):DZ (Qi N) wY [.tmp 4] [[.bool]] [(Qy.V q),(Bx.V b)]=(cond (HA q) (cond (!Bx.emp b) (cond (decide (Qy.ft q=ic 0)) (some ((.bool (decide (Sp.lo (Bx.s0 b) < Sp.hi (Bx.s4 b)))),[])) (cond (decide (Qy.ft q=ic 1)) (some ((.bool (decide (Sp.lo (Bx.s1 b) < Sp.hi (Bx.s4 b)))),[])) (cond (decide (Qy.ft q=ic 2)) (some ((.bool (decide (Sp.lo (Bx.s2 b) < Sp.hi (Bx.s4 b)))),[])) (cond (decide (Qy.ft q=ic 3)) (some ((.bool (decide (Sp.lo (Bx.s3 b) < Sp.hi (Bx.s4 b)))),[])) (cond (decide (Qy.ft q=ic 4)) (some ((.bool (decide (Sp.lo (Bx.s4 b) < Sp.hi (Bx.s4 b)))),[])) none))))) (some ((.bool false),[]))) (some ((.bool false),[]))):=by kernel_rfl
def Qg (N:Nat):Env:=D5 [(162,SB),(198,cB),(199,cD),(197,PP)] [] 54 N
theorem zdE (N:Nat) (m:Md) (q:Qy) (b:Bx):DZ (Qg N) wW [.tmp 6,.tmp 7,.tmp 8] [[.z],[.z],[.bool]] [(Md.V m),(Qy.V q),(Bx.V b)]=(cond (!HA q) (some ((.tup [.i 0,.i 0,.bool false]),[])) (cond (!G4 m (Qy.c q) (JY q b)) (some ((.tup [.i 0,.i 0,.bool false]),[])) (cond (!G4 m (Qy.c q) (J4 q b)) (some ((.tup [.i 0,.i 0,.bool false]),[])) (some ((.tup [.i (AA AB (EA m (Qy.c q) (J4 q b) - D8 m (Qy.c q) (JY q b))),.i (AA AB (D8 m (Qy.c q) (J4 q b) - EA m (Qy.c q) (JY q b))),.bool true]),[]))))):=by kernel_rfl
def Qr (N:Nat):Env:=D5 [(163,bC),(162,SB),(112,K2),(165,cA),(164,cC),(65,NV)] [] 86 N
theorem zdQ (N:Nat) (m:Md) (a1:Qy) (a2:Bx):DZ (Qr N) xF [.tmp 6] [[.bool]] [(Md.V m),(Qy.V a1),(Bx.V a2)]=(cond (!FG m a1) (some ((.bool false),[])) (cond (Bx.emp a2) (some ((.bool true),[])) (cond (Qy.k a1==1) (cond (G4 m (Qy.c a1) a2) (cond (decide (Qy.lo a1≤EA m (Qy.c a1) a2)) (some ((.bool (decide (D8 m (Qy.c a1) a2≤Qy.hi a1))),[])) (some ((.bool false),[]))) (some ((.bool false),[]))) (cond (Qy.k a1==2) (cond (NG m (Qy.c a1) a2) (some ((.bool (decide (UU m (Qy.c a1) a2 > 0))),[])) (some ((.bool false),[]))) (cond (!P7 a1 a2) (some ((.bool true),[])) (cond (Qy.fl a1) (cond (K4 m a1 a2) (some ((.bool (decide (SO m a1 a2≤0))),[])) (some ((.bool false),[]))) (cond (K4 m a1 a2) (some ((.bool (decide (SP m a1 a2≥0))),[])) (some ((.bool false),[]))))))))):=by kernel_rfl
def Qs (N:Nat):Env:=D5 [(81,bG)] [] 9 N
theorem zdR (N:Nat) (b:Bx):DZ (Qs N) xG [.cell 2 53,.tmp 3] [[.z,.z,.z,.z],[.z]] [(Bx.V b)]=(some ((.tup [(Pt.V (Bx.low b)),.i (Sp.hi (Bx.s4 b))]),[])):=by kernel_rfl
def OM (N:Nat):Env:=D5 [(126,cJ)] [(2,⟨[3,4,5,6,7,8,11],[3,4,5],[]⟩)] 31 N
abbrev VT (m:Md) (q:Qy) (b:Bx) (x6 x7:Int) (b8:Bool) (x11:Int):St:=⟨[(3,(.ptr 3 0 0)),(4,(.ptr 4 0 0)),(5,(.ptr 5 0 0)),(6,(.i x6)),(7,(.i x7)),(8,(.bool b8)),(11,(.i x11))],[(3,(some (.box (Md.cs m)))),(4,(some (.box (Qy.cs q)))),(5,(some (.box (Bx.cs b))))]⟩
theorem zdS (N:Nat) (m:Md) (q:Qy) (b:Bx):DZ (OM N) SL [.tmp 6,.tmp 7,.tmp 8] [[.z],[.z],[.bool]] [(Md.V m),(Qy.V q),(Bx.V b)]=(DY (OM N) (DK SL [1,0,1,0,0]) ⟨[3,4,5,6,7,8,11],[3,4,5],[]⟩ N (VT m q b 0 0 false 0) (DQ 0 (DS (OM N) (DK SL [1,1]) (DT (OM N) none [.tmp 6,.tmp 7,.tmp 8] [[.z],[.z],[.bool]])))):=by kernel_rfl
theorem Lx (N:Nat) (m:Md) (q:Qy) (b:Bx) (x6 x7:Int) (b8:Bool) (x11:Int) (again:St→DO) (k:Out→St→DO):EZ (OM N) (DK SL [1,0,1,0,0]) (VT m q b x6 x7 b8 x11) (EN again ⟨[3,4,5,6,7,8,11],[3,4,5],[]⟩ k)=(cond (decide (x11 < 5)) (cond (EW m&&H8 x11) (cond (decide (ic (AF (iZ (FD m q b (AE x11)))) > 0)) (cond (decide (0≤AA AB (Int.tdiv (AA AB (ic (AF (iZ (FD m q b (AE x11)))) - 1)) 2))&&decide (AA AB (Int.tdiv (AA AB (ic (AF (iZ (FD m q b (AE x11)))) - 1)) 2) < ic (AF (iZ (FD m q b (AE x11)))))) (k .ret (VT m q b x11 (IV.toInt (AH (iZ (FD m q b (AE x11))) (AE (AA AB (Int.tdiv (AA AB (ic (AF (iZ (FD m q b (AE x11)))) - 1)) 2))) default)) true x11)) none) (again (VT m q b x6 x7 b8 (AA AB (x11+1))))) none) (k (.exit 0) (VT m q b x6 x7 b8 x11))):=by kernel_rfl
theorem Xt (N:Nat) (m:Md) (q:Qy) (b:Bx) (x6 x7:Int) (b8:Bool) (x11:Int):(DQ 0 (DS (OM N) (DK SL [1,1]) (DT (OM N) none [.tmp 6,.tmp 7,.tmp 8] [[.z],[.z],[.bool]]))) (.exit 0) (VT m q b x6 x7 b8 x11)=(some ((.tup [.i 0,.i 0,.bool false]),[])):=by kernel_rfl
theorem Xu (N:Nat) (m:Md) (q:Qy) (b:Bx) (x6 x7:Int) (b8:Bool) (x11:Int):(DQ 0 (DS (OM N) (DK SL [1,1]) (DT (OM N) none [.tmp 6,.tmp 7,.tmp 8] [[.z],[.z],[.bool]]))) .ret (VT m q b x6 x7 b8 x11)=(some ((.tup [.i x6,.i x7,.bool b8]),[])):=by kernel_rfl
open Go Go.Proofs
set_option maxRecDepth 100000
theorem Bg {i:Int} (h:H8 i=true):i=0∨i=1∨i=2∨i=3∨i=4:=by
 unfold H8 at h;simp only [AI,AQ] at h;omega
theorem Jx:DX PR B0 194 WK:=by
 refine D6 [] [] WK [[.z,.z]] Tryz.func194 zbE trivial ?_;intro vs r hwf h;unfold WK at h;split at h
 ·rw [R.get_ok] at h;exact ⟨0,(zew 0).trans h⟩
 ·simp [R.get] at h
theorem zh5:DX PR B0 193 dG:=by
 refine D6 [(194,WK)] [] dG [[.z,.z]] Tryz.func193 zbF ⟨Jx,trivial⟩ ?_;intro vs r hwf h;unfold dG at h;split at h
 ·rename_i lo hi;rw [R.get_ok] at h;refine ⟨0,?_⟩;rw [← h];refine (zex 0 lo hi).trans ?_;unfold MY;cases decide (lo > hi) <;> rfl
 ·simp [R.get] at h
theorem Jv:DX PR B0 155 WI:=by
 refine D6 [] [] WI [[.bool]] Tryz.func155 zbC trivial ?_;intro vs r hwf h;unfold WI at h;split at h
 ·rename_i s;replace h:=uG h;obtain ⟨s,rfl,h⟩:=h;rw [R.get_ok] at h;exact ⟨0,(zeu 0 s).trans h⟩
 ·simp [R.get] at h
theorem Jw:DX PR B0 114 WJ:=by
 refine D6 [] [] WJ [[.bool]] Tryz.func114 zbD trivial ?_;intro vs r hwf h;unfold WJ at h;split at h
 ·rename_i s n;replace h:=uG h;obtain ⟨s,rfl,h⟩:=h;rw [R.get_ok] at h;refine ⟨0,?_⟩;rw [← h];refine (zev 0 s n).trans ?_;unfold Sp.has;cases decide (s.lo≤n) <;> rfl
 ·simp [R.get] at h
theorem zh4:DX PR B0 157 hZ:=by
 refine D6 [(194,WK),(193,dG)] [] hZ [[.z,.z],[.z,.z]] Tryz.func157 zbB ⟨Jx,zh5,trivial⟩ ?_;intro vs r hwf h;unfold hZ at h;split at h
 ·rename_i s n;replace h:=uG h;obtain ⟨s,rfl,h⟩:=h;rw [R.get_ok] at h;refine ⟨0,?_⟩;rw [← h];refine (zet 0 s n).trans ?_;unfold Sp.cutH;cases decide (n≥s.hi) <;> rfl
 ·simp [R.get] at h
theorem zgA (b:Bx):DZ (Pp 6) wG [.tmp 2] [[.bool]] [b.V] =
 cond b.s0.emp (some (.bool true,[])) (cond b.s1.emp (some (.bool true,[])) (cond b.s2.emp (some (.bool true,[])) (cond b.s3.emp (some (.bool true,[])) (cond b.s4.emp (some (.bool true,[])) (some (.bool false,[])))))):=by kernel_rfl
theorem XY:DX PR B0 112 K2:=by
 refine D6 [(155,WI)] [(2,⟨[2,5,6],[],[]⟩)] K2 [[.bool]] Tryz.func112 zaj ⟨Jv,trivial⟩ ?_;intro vs r hwf h;unfold K2 at h;split at h
 ·rename_i b;replace h:=JS h;obtain ⟨b,rfl,h⟩:=h;rw [R.get_ok] at h;refine ⟨6,?_⟩;rw [← h];refine (zgA b).trans ?_;unfold Bx.emp;cases b.s0.emp <;> cases b.s1.emp <;> cases b.s2.emp <;> cases b.s3.emp <;> cases b.s4.emp <;> rfl
 ·simp [R.get] at h
theorem zgB (b:Bx):DZ (Pr 5) wI [.cell 2 53] [[.z,.z,.z,.z]] [b.V]=some (b.low.V,[]):=by kernel_rfl
theorem zg5:DX PR B0 81 bG:=by
 refine D6 [] [(3,⟨[1,2,3,5],[1,2,3],[]⟩)] bG [[.z,.z,.z,.z]] Tryz.func81 zal trivial ?_;intro vs r hwf h;unfold bG at h;split at h
 ·rename_i b;replace h:=JS h;obtain ⟨b,rfl,h⟩:=h;rw [R.get_ok] at h;exact ⟨5,(zgB b).trans h⟩
 ·simp [R.get] at h
theorem lD:DX PR B0 111 PO:=by
 refine D6 [(157,hZ)] [] PO [[.z,.z,.z,.z,.z,.z,.z,.z,.z,.z],[.z,.z,.z,.z,.z,.z,.z,.z,.z,.z]] Tryz.func111 zai ⟨zh4,trivial⟩ ?_;intro vs r hwf h;unfold PO at h;split at h
 ·rename_i b i a;replace h:=JS h;obtain ⟨b,rfl,h⟩:=h;cases hg:(H8 i) with
  | false=>rw [hg] at h; simp [R.get] at h
  | true=>
  rw [hg,R.get_br,DI,R.get_ok] at h;refine ⟨0,?_⟩;rw [← h];rcases Bg hg with rfl | rfl | rfl | rfl | rfl <;> kernel_rfl
 ·simp [R.get] at h
theorem Jt:DX PR B0 109 WG:=by
 refine D6 [] [] WG [[.bool]] Tryz.func109 zbs trivial ?_;intro vs r hwf h;unfold WG at h;split at h
 ·rename_i q;replace h:=KK h;obtain ⟨q,rfl,h⟩:=h;rw [R.get_ok] at h;refine ⟨0,?_⟩;rw [← h];refine (zeh 0 q).trans ?_;unfold HA;cases (q.k==3) <;> cases decide (q.ft≥0) <;> rfl
 ·simp [R.get] at h
theorem lE:DX PR B0 197 PP:=by
 refine D6 [] [] PP [[.bool]] Tryz.func197 zaT trivial ?_;intro vs r hwf h;unfold PP at h;split at h
 ·rename_i q;replace h:=KK h;obtain ⟨q,rfl,h⟩:=h;rw [R.get_ok] at h;refine ⟨0,?_⟩;rw [← h];refine (zdI 0 q).trans ?_;unfold HA;cases (q.k==3) <;> cases decide (q.ft≥0) <;> rfl
 ·simp [R.get] at h
theorem RO {q:Qy} (h:HA q=true):q.ft=0∨q.ft=1∨q.ft=2∨q.ft=3:=by
 unfold HA at h;simp only [AI,AQ] at h;omega
theorem zhu:DX PR B0 198 cB:=by
 refine D6 [(197,PP)] [] cB [[.z,.z,.z,.z,.z,.z,.z,.z,.z,.z]] Tryz.func198 zaQ ⟨lE,trivial⟩ ?_;intro vs r hwf h;unfold cB at h;split at h
 ·rename_i q b;replace h:=KK h;obtain ⟨q,rfl,h⟩:=h;replace h:=JS h;obtain ⟨b,rfl,h⟩:=h;rw [R.get_ok] at h;refine ⟨0,?_⟩;rw [← h];refine (zdF 0 q b).trans ?_;unfold JY;cases HA q <;> rfl
 ·simp [R.get] at h
theorem zhw:DX PR B0 199 cD:=by
 refine D6 [(197,PP)] [] cD [[.z,.z,.z,.z,.z,.z,.z,.z,.z,.z]] Tryz.func199 zaS ⟨lE,trivial⟩ ?_;intro vs r hwf h;unfold cD at h;split at h
 ·rename_i q b;replace h:=KK h;obtain ⟨q,rfl,h⟩:=h;replace h:=JS h;obtain ⟨b,rfl,h⟩:=h;rw [R.get_ok] at h;refine ⟨0,?_⟩;rw [← h];refine (zdH 0 q b).trans ?_;unfold J4;cases hp:HA q with
  | false=>rfl
  | true=>rcases RO hp with e | e | e | e <;> rw [e] <;> rfl
 ·simp [R.get] at h
theorem zhv:DX PR B0 164 cC:=by
 refine D6 [(112,K2),(197,PP)] [] cC [[.bool]] Tryz.func164 zaR ⟨XY,lE,trivial⟩ ?_;intro vs r hwf h;unfold cC at h;split at h
 ·rename_i q b;replace h:=KK h;obtain ⟨q,rfl,h⟩:=h;replace h:=JS h;obtain ⟨b,rfl,h⟩:=h;rw [R.get_ok] at h;refine ⟨0,?_⟩;rw [← h];refine (zdG 0 q b).trans ?_;unfold P7;cases hp:HA q with
  | false=>rfl
  | true=>cases b.emp <;> rcases RO hp with e | e | e | e <;> rw [e] <;> rfl
 ·simp [R.get] at h
theorem Js:DX PR B0 66 WF:=by
 refine D6 [(109,WG)] [] WF [[.z,.z,.z,.z,.z,.z,.z,.z,.z,.z]] Tryz.func66 zbq ⟨Jt,trivial⟩ ?_;intro vs r hwf h;unfold WF at h;split at h
 ·rename_i q;replace h:=KK h;obtain ⟨q,rfl,h⟩:=h;rw [R.get_ok] at h;refine ⟨0,?_⟩;rw [← h];refine (zef 0 q).trans ?_;unfold GJ;cases hp:HA q with
  | false=>rfl
  | true=>rcases RO hp with e | e | e | e <;> rw [e] <;> rfl
 ·simp [R.get] at h
theorem zhT:DX PR B0 116 cY:=by
 refine D6 [(109,WG)] [] cY [[.z,.z,.z,.z]] Tryz.func116 zbp ⟨Jt,trivial⟩ ?_;intro vs r hwf h;unfold cY at h;split at h
 ·rename_i q p t;replace h:=KK h;obtain ⟨q,rfl,h⟩:=h;replace h:=YE h;obtain ⟨p,rfl,h⟩:=h;rw [R.get_ok] at h;refine ⟨0,?_⟩;rw [← h];refine (zee 0 q p t).trans ?_;unfold JE;cases hp:HA q with
  | false=>rfl
  | true=>rcases RO hp with e | e | e | e <;> rw [e] <;> rfl
 ·simp [R.get] at h
def XR (d i:Int) (s:Sp) (rest:DO):DO:=
 cond (decide (i≥d)) (cond (!((s.lo==0)&&((s.hi==0)&&true))) (some (.bool false,[])) (cond s.emp (some (.bool false,[])) (cond (!(E2 s.lo)) (some (.bool false,[])) (cond (!(E2 s.hi)) (some (.bool false,[])) rest))))
  (cond s.emp (some (.bool false,[])) (cond (!(E2 s.lo)) (some (.bool false,[])) (cond (!(E2 s.hi)) (some (.bool false,[])) rest)))
theorem f5 (d i:Int) (s:Sp) (rest:DO):XR d i s rest=cond (KZ d i s) rest (some (.bool false,[])):=by
 unfold XR KZ;rw [B2];cases decide (i≥d) <;> cases ((s.lo==0)&&(s.hi==0)) <;> cases s.emp <;> cases E2 s.lo <;> cases E2 s.hi <;> rfl
theorem zgD (b:Bx) (d:Int):DZ (Rm 6) xY [.tmp 4] [[.bool]] [b.V,.int .i64 d]=XR d 0 b.s0 (XR d 1 b.s1 (XR d 2 b.s2 (XR d 3 b.s3 (XR d 4 b.s4 (some (.bool true,[])))))):=by kernel_rfl
theorem zhV:DX PR B0 107 c7:=by
 refine D6 [(93,R9),(155,WI)] [(2,⟨[1,4,7,8],[],[]⟩)] c7 [[.bool]] Tryz.func107 zbt ⟨sN,Jv,trivial⟩ ?_;intro vs r hwf h;unfold c7 at h;split at h
 ·rename_i b d;replace h:=JS h;obtain ⟨b,rfl,h⟩:=h;rw [R.get_ok] at h;refine ⟨6,?_⟩;rw [← h];refine (zgD b d).trans ?_;rw [f5,f5,f5,f5,f5];unfold P9;cases KZ d 0 b.s0 <;> cases KZ d 1 b.s1 <;> cases KZ d 2 b.s2 <;> cases KZ d 3 b.s3 <;> cases KZ d 4 b.s4 <;> rfl
 ·simp [R.get] at h
theorem zhU:DX PR B0 108 cZ:=by
 refine D6 [] [] cZ [[.bool]] Tryz.func108 zbr trivial ?_;intro vs r hwf h;unfold cZ at h;split at h
 ·rename_i m q;replace h:=J7 h;obtain ⟨m,rfl,h⟩:=h;replace h:=KK h;obtain ⟨q,rfl,h⟩:=h;rw [R.get_ok] at h;refine ⟨0,?_⟩;rw [← h];refine (zeg 0 m q).trans ?_;unfold RA;cases (q.k==1) <;> cases (q.k==2) <;> cases (q.k==3) <;> cases decide (q.lo≤q.hi) <;> cases (q.ft==0) <;> cases decide (m.c≥2) <;> cases (q.lo==0) <;> cases (q.hi==0) <;> cases decide (q.ft≥0) <;> cases decide (q.ft < m.d) <;> rfl
 ·simp [R.get] at h
theorem gF:DX PR B0 65 NV:=by
 refine D6 [(53,MH),(108,cZ),(107,c7)] [] NV [[.bool]] Tryz.func65 zbo ⟨Z6,zhU,zhV,trivial⟩ ?_;intro vs r hwf h;unfold NV at h;split at h
 ·rename_i m q;replace h:=J7 h;obtain ⟨m,rfl,h⟩:=h;replace h:=KK h;obtain ⟨q,rfl,h⟩:=h;rw [R.get_ok] at h;refine ⟨0,?_⟩;rw [← h];refine (zed 0 m q).trans ?_;unfold FG Qy.bx;generalize P9 _ _=rg;cases EW m <;> cases decide (q.c≥0) <;> cases decide (q.c < m.c) <;> cases decide (q.bu≥0) <;> cases decide (q.bu≤65536) <;> cases rg <;> rfl
 ·simp [R.get] at h
theorem p7 {w:Int} (hb:GC w=true) (hl:(DL w).lf=false):(0≤(DL w).f∧(DL w).f < 4)∧(1≤(DL w).l∧(DL w).l < 31)∧(1≤(DL w).r∧(DL w).r < 31)∧E2 (DL w).a=true:=by
 have h:=(kK hb).2;unfold MW at h;rw [hl,DJ] at h;unfold Q4 at h;simp only [AI,AQ] at h;exact ⟨⟨h.2.1,h.2.2.1⟩,h.2.2.2.2.1,h.2.2.2.2.2,h.2.2.2.1⟩
theorem Dw (w:Int):E2 (DL w).v=true:=by
 cases hb:GC w with
 | false=>
  have e:DL w=Nd.zero:=by unfold DL; rw [hb]; rfl
  rw [e];rfl
 | true=>
  have h:=(kK hb).2;unfold MW at h;cases hl:(DL w).lf with
  | true=>
   rw [hl,DI,AI] at h;exact h.2
  | false=>
   rw [hl,DJ,AI,B8] at h;rw [h.1];rfl
abbrev uL (l:LI) (p:Pt) (a j:Int):St:=
 ⟨[(0,(.list false [(.int .u64)] l)),(3,(.ptr 3 0 0)),(4,(.int .i64 0)),(5,(.ptr 5 0 0)),(6,(.int .i64 a)),(9,(.int .i64 j))],[(3,(some (.box (Pt.cs p)))),(5,(some (.box [(.bool false),(.int .i64 0),(.int .i64 0),(.int .i64 0),(.int .i64 0),(.int .i64 0)])))]⟩
theorem oA (N:Nat) (l:LI) (p:Pt):∀ (m j n:Nat) (a:Int),0≤a→j+m=31→m < n →
  DY (KL N) (DK N0 [1,1,0,1,0,0]) ⟨[0,3,4,5,6,9],[3,5],[]⟩ n (uL l p a (j:Int)) (DQ 0 (DS (KL N) (DK N0 [1,1,1]) (DT (KL N) none [(CF 4),(va7 5 111)] [[.z],[.bool,.z,.z,.z,.z,.z]]))) =
   some (.tup [.int .i64 (IR l p m a).1,(IR l p m a).2.V],[])
 | m,j,0,a,_,_,h=>absurd h (by omega)
 | 0,j,n+1,a,ha,hd,_=>by
  have hj:j=31:=by omega
  subst hj;rw [D4,Mo,AL (show ¬ ((31:Nat):Int) < 31 by omega),DJ];exact Ag N p l _ _ _ _ _ _ _ _ _
 | m+1,j,n+1,a,ha,hd,hn=>by
  have ej:AA AB ((j:Int)+1)=((j+1:Nat):Int):=HC (by omega);rw [D4,Mo,AD (show (j:Int) < 31 by omega),DI,IR,ej];cases hge:decide (a≥ic l.length) with
  | true=>
   rw [DI,DI];exact Ag N p l _ _ _ _ _ _ _ _ _
  | false=>
   have hge:=BH hge;rw [DJ,DJ,AD ha,AD (show a < ic l.length by omega),B4,DI];generalize (l.getD a.toNat default).toInt=w;cases hb:GC w with
   | false=>
    rw [A7,DI,DI];exact Yv N p l _ _ _ _ _ _ _ _ _
   | true=>
    rw [A3,DJ,DJ];cases hl:(DL w).lf with
    | true=>
     rw [DI,DI];rfl
    | false=>
     obtain ⟨⟨f0,f4⟩,⟨l1,l31⟩,⟨r1,r31⟩,_⟩:=p7 hb hl;rw [DJ,DJ];have step:∀ c:Bool,(cond c (DY (KL N) (DK N0 [1,1,0,1,0,0]) ⟨[0,3,4,5,6,9],[3,5],[]⟩ n (uL l p (DL w).l ((j+1:Nat):Int)) (DQ 0 (DS (KL N) (DK N0 [1,1,1]) (DT (KL N) none [(CF 4),(va7 5 111)] [[.z],[.bool,.z,.z,.z,.z,.z]]))))
       (DY (KL N) (DK N0 [1,1,0,1,0,0]) ⟨[0,3,4,5,6,9],[3,5],[]⟩ n (uL l p (DL w).r ((j+1:Nat):Int)) (DQ 0 (DS (KL N) (DK N0 [1,1,1]) (DT (KL N) none [(CF 4),(va7 5 111)] [[.z],[.bool,.z,.z,.z,.z,.z]]))))) =
       some (.tup [.int .i64 (cond c (IR l p m (DL w).l) (IR l p m (DL w).r)).1,(cond c (IR l p m (DL w).l) (IR l p m (DL w).r)).2.V],[]):=fun c=>by
      cases c with
      | true=>exact oA N l p m (j+1) n (DL w).l (by omega) (by omega) (by omega)
      | false=>exact oA N l p m (j+1) n (DL w).r (by omega) (by omega) (by omega)
     obtain e | e | e | e:(DL w).f=0∨(DL w).f=1∨(DL w).f=2∨(DL w).f=3:=by omega
     all_goals
      rw [e];exact step _
theorem zie:DX PR B0 217 dL:=by
 refine D6 [(55,MI)] [(3,⟨[0,3,4,5,6,9],[3,5],[]⟩)] dL [[.z],[.bool,.z,.z,.z,.z,.z]] Tryz.func217 zbR ⟨Z7,trivial⟩ ?_;intro vs r hwf h;unfold dL at h;split at h
 ·rename_i l p;replace h:=YE h;obtain ⟨p,rfl,h⟩:=h;rw [R.get_ok] at h;refine ⟨32,?_⟩;rw [← h];exact (zeJ 32 l p).trans (oA 32 l p 31 0 32 0 (by omega) rfl (by omega))
 ·simp [R.get] at h
theorem zid:DX PR B0 195 dK:=by
 refine D6 [(217,dL)] [] dK [[.z]] Tryz.func195 zbQ ⟨zie,trivial⟩ ?_;intro vs r hwf h;unfold dK at h;split at h
 ·rename_i l p;replace h:=YE h;obtain ⟨p,rfl,h⟩:=h;rw [R.get_ok] at h;exact ⟨0,(zeI 0 l p).trans h⟩
 ·simp [R.get] at h
theorem NB {n:Int} (h:E2 n=true) : -2147483648≤n∧n≤2147483647:=by
 unfold E2 at h;simpa only [AI,AQ] using h
theorem n9 (l:LI) (p:Pt):∀ (n:Nat) (a:Int),E2 (IR l p n a).2.v=true
 | 0,_=>rfl
 | n+1,a=>by
  rw [IR];cases decide (a≥ic l.length) with
  | true=>rfl
  | false=>
   rw [DJ];generalize (l.getD a.toNat default).toInt=w;cases GC w with
   | false=>rfl
   | true=>
    rw [A3,DJ];cases (DL w).lf with
    | true=>exact Dw w
    | false=>
     rw [DJ];cases decide (p.g (DL w).f.toNat≤(DL w).a) with
     | true=>exact n9 l p n _
     | false=>exact n9 l p n _
theorem zjd (l:LI) (p:Pt) : -2147483648≤HD l p∧HD l p≤2147483647:=NB (n9 l p 31 0)
theorem L5 {m:Md} (h:EW m=true):(1≤m.d∧m.d≤4)∧(1≤m.c∧m.c≤3)∧m.ts.length≤8∧(E2 m.b0=true∧E2 m.b1=true∧E2 m.b2=true)∧m.ts.all (HM m.d m.c)=true:=by
 unfold EW HV at h;simp only [AI,B3,BW] at h;obtain ⟨⟨h1,h2,h3,h4,h5⟩,⟨h6,h7,h8⟩,h9⟩:=h;exact ⟨⟨by omega,by omega⟩,⟨by omega,by omega⟩,AN h5,⟨h6.1,h7.1,h8.1⟩,h9⟩
theorem yY {m:Md} {k:Int} (h:ID m k=true):0≤k∧k < m.c:=by
 unfold ID at h;simpa only [AI,AQ] using h
theorem nK {m:Md} {k:Int} (hm:EW m=true) (h:ID m k=true):k=0∨k=1∨k=2:=by
 have:=yY h
 have:=(L5 hm).2.1
 omega
theorem iL {m:Md} (hm:EW m=true) (k:Int) : -2147483648≤LQ m k∧LQ m k≤2147483647:=by
 obtain ⟨h0,h1,h2⟩:=(L5 hm).2.2.2.1;unfold LQ;cases (k==0) with
 | true=>exact NB h0
 | false=>
  cases (k==1) with
  | true=>exact NB h1
  | false=>exact NB h2
abbrev zjF (ts:LI) (p:Pt) (k s i:Int):St:=
 ⟨[(1,(.int .i64 k)),(5,(.ptr 5 0 0)),(6,(.int .i64 0)),(7,(.int .i64 s)),(15,(.list true [.z,(.list false [(.int .u64)])] ts)),(16,(.int .i64 (ic (AF ts)))),(17,(.int .i64 i))],[(5,(some (.box (Pt.cs p))))]⟩
theorem oG (N:Nat) (ts:LI) (p:Pt) (k:Int) (hts:ts.length≤8):∀ (m i n:Nat) (s:Int),i+m=ts.length→m < n → -2147483648*(i+1)≤s∧s≤2147483648*(i+1) →
  DY (LN N) (DK OU [1,1,0,1,0,0]) ⟨[1,5,6,7,15,16,17],[5],[]⟩ n (zjF ts p k s (i:Int)) (DQ 0 (DS (LN N) (DK OU [1,1,1]) (DT (LN N) none [(CF 6)] [[.z]]))) =
   some (.int .i64 (P2 k p (ts.drop i) s),[])
 | m,i,0,s,_,h,_=>absurd h (by omega)
 | 0,i,n+1,s,hd,_,_=>by
  have hi:i=ts.length:=by omega
  subst hi;rw [D4,Mc,I2 (AZ _),DJ,vaD];exact Ya N p _ _ _ _ _ _
 | m+1,i,n+1,s,hd,hn,hs=>by
  have hi:i < ts.length:=by omega
  have ei:AA AB ((i:Int)+1)=((i+1:Nat):Int):=HC (by omega);rw [D4,Mc,ei,G8 hi,DI,H7,B4,DI,H6 hi,BE hi,P2];have hv:=zjd (FE ts[i]) p;cases hc:((ts[i].cell 0).toInt==k) with
  | true=>
   rw [DI,DI];have ew:AA AB (s+HD (FE ts[i]) p)=s+HD (FE ts[i]) p:=EH (by omega) (by omega);have ih:=oG N ts p k hts m (i+1) n (s+HD (FE ts[i]) p) (by omega) (by omega) (by omega);rw [← ew] at ih;refine Eq.trans ih ?_;rw [ew]
  | false=>
   rw [DJ,DJ];exact oG N ts p k hts m (i+1) n s (by omega) (by omega) (by omega)
theorem zhL:DX PR B0 159 cQ:=by
 refine D6 [(195,dK)] [(3,⟨[1,5,6,7,15,16,17],[5],[]⟩)] cQ [[.z]] Tryz.func159 zbd ⟨zid,trivial⟩ ?_;intro vs r hwf h;unfold cQ at h;split at h
 ·rename_i m k p;replace h:=J7 h;obtain ⟨m,rfl,h⟩:=h;replace h:=YE h;obtain ⟨p,rfl,h⟩:=h;cases hg:(EW m&&ID m k) with
  | false=>rw [hg] at h; simp [R.get] at h
  | true=>
  rw [hg,R.get_br,DI,R.get_ok] at h;rw [AI] at hg;have hb:=iL hg.1 k;have run:=oG 10 m.ts p k (L5 hg.1).2.2.1 m.ts.length 0 10 (LQ m k) (by omega) (by have:=(L5 hg.1).2.2.1; omega) (by omega);refine ⟨10,?_⟩;rw [← h];refine (zd2 10 m k p).trans ?_;rcases nK hg.1 hg.2 with rfl | rfl | rfl <;> exact run
 ·simp [R.get] at h
theorem zhJ:DX PR B0 115 cO:=by
 refine D6 [(53,MH),(159,cQ)] [] cO [[.z]] Tryz.func115 za9 ⟨Z6,zhL,trivial⟩ ?_;intro vs r hwf h;unfold cO at h;split at h
 ·rename_i m k p;replace h:=J7 h;obtain ⟨m,rfl,h⟩:=h;replace h:=YE h;obtain ⟨p,rfl,h⟩:=h;rw [R.get_ok] at h;refine ⟨0,?_⟩;rw [← h];refine (zdY 0 m k p).trans ?_;unfold ER ID;cases EW m with
  | false=>rfl
  | true=>
   cases h0:decide (k < 0) with
   | true=>rw [AL (show ¬ 0≤k by have:=A1 h0; omega)]; rfl
   | false=>
    rw [AD (show 0≤k by have:=BH h0; omega)];cases h1:decide (k≥m.c) with
    | true=>rw [AL (show ¬ k < m.c by have:=A1 h1; omega)]; rfl
    | false=>rw [AD (show k < m.c by have:=BH h1; omega)]; rfl
 ·simp [R.get] at h
abbrev zjy (m:Md) (q:Qy) (p:Pt) (own i:Int):St:=
 ⟨[(4,(.ptr 4 0 0)),(5,(.ptr 5 0 0)),(6,(.ptr 6 0 0)),(8,(.bool false)),(9,(.int .i64 own)),(36,(.int .i64 (Md.c m))),(37,(.int .i64 i))],[(4,(some (.box (Md.cs m)))),(5,(some (.box (Qy.cs q)))),(6,(some (.box (Pt.cs p))))]⟩
def dP (m:Md) (q:Qy) (p:Pt) (own:Int):Nat→Nat→Bool
 | 0,_=>false
 | d+1,i=>(!((i:Int)==q.c)&&decide (ER m (i:Int) p≥own))||dP m q p own d (i+1)
theorem uZ (m:Md) (q:Qy) (p:Pt) (own:Int):∀ d i,dP m q p own d i=(List.range' i d).any fun c=>!((c:Int)==q.c)&&decide (ER m (c:Int) p≥own)
 | 0,_=>rfl
 | d+1,i=>by rw [dP,uZ m q p own d (i+1),List.range'_succ,List.any_cons]
theorem vV (N:Nat) (m:Md) (q:Qy) (p:Pt) (own:Int) (hc:0≤m.c∧m.c≤3):∀ (d i n:Nat),((i+d:Nat):Int)=m.c→d < n →
  DY (LO N) (DK NZ [1,1,1,0,1,0,1,1,1,0,0,1,0,0]) ⟨[4,5,6,8,9,36,37],[4,5,6],[]⟩ n (zjy m q p own (i:Int)) (DQ 1 (DS (LO N) (DK NZ [1,1,1,0,1,0,1,1,1,0,1]) (DQ 0 (DS (LO N) (DK NZ [1,1,1,1]) (DT (LO N) none [(CF 8)] [[.bool]]))))) =
   some (.bool (dP m q p own d i),[])
 | d,i,0,_,h=>absurd h (by omega)
 | 0,i,n+1,hd,_=>by
  rw [D4,Mg,AL (show ¬ (i:Int) < m.c by omega),DJ];exact Ye N m q p _ _ _ _
 | d+1,i,n+1,hd,hn=>by
  have ei:AA AB ((i:Int)+1)=((i+1:Nat):Int):=HC (by omega);rw [D4,Mg,ei,AD (show (i:Int) < m.c by omega),DI,dP];have ih:=vV N m q p own hc d (i+1) n (by omega) (by omega);have en:((i:Int) != q.c)=!((i:Int)==q.c):=rfl;rw [en];cases ((i:Int)==q.c) with
  | true=>exact ih
  | false=>
   rw [A7,DI,BC];cases decide (ER m (i:Int) p≥own) with
   | true=>exact Yf N m q p _ _ _ _
   | false=>exact ih
theorem XU {m:Md} {q:Qy} (h:FG m q=true):EW m=true∧(0≤q.c∧q.c < m.c)∧(0≤q.bu∧q.bu≤65536)∧P9 q.bx m.d=true∧RA m q=true:=by
 unfold FG at h;simp only [AI,AQ] at h;exact ⟨h.1,⟨h.2.1,h.2.2.1⟩,⟨h.2.2.2.1,h.2.2.2.2.1⟩,h.2.2.2.2.2.1,h.2.2.2.2.2.2⟩
theorem j4 {m:Md} {q:Qy} (h:RA m q=true):(q.k=1∧q.lo≤q.hi∧q.ft=0∧q.fl=false)∨(q.k=2∧2≤m.c∧q.lo=0∧q.hi=0∧q.ft=0∧q.fl=false)∨(q.k=3∧(0≤q.ft∧q.ft < m.d)∧q.lo=0∧q.hi=0):=by
 unfold RA at h;cases h1:(q.k==1) with
 | true=>
  rw [h1,DI] at h;simp only [AI,AQ,B8,B3] at h;exact .inl ⟨B8.1 h1,h⟩
 | false=>
  rw [h1,DJ] at h;cases h2:(q.k==2) with
  | true=>
   rw [h2,DI] at h;simp only [AI,AQ,B8,B3,ge_iff_le] at h;exact .inr (.inl ⟨B8.1 h2,h⟩)
  | false=>
   rw [h2,DJ] at h;cases h3:(q.k==3) with
   | true=>
    rw [h3,DI] at h;simp only [AI,AQ,B8,ge_iff_le] at h;exact .inr (.inr ⟨B8.1 h3,⟨h.1,h.2.1⟩,h.2.2⟩)
   | false=>rw [h3,DJ] at h; cases h
theorem Jr:DX PR B0 70 WE:=by
 refine D6 [(115,cO),(65,NV),(116,cY),(114,WJ)] [(9,⟨[4,5,6,8,9,36,37],[4,5,6],[]⟩)] WE [[.bool]] Tryz.func70 zbn ⟨zhJ,gF,zhT,Jw,trivial⟩ ?_;intro vs r hwf h;unfold WE at h;split at h
 ·rename_i m q p t;replace h:=J7 h;obtain ⟨m,rfl,h⟩:=h;replace h:=KK h;obtain ⟨q,rfl,h⟩:=h;replace h:=YE h;obtain ⟨p,rfl,h⟩:=h;rw [R.get_ok] at h;refine ⟨10,?_⟩;rw [← h];refine (zec 10 m q p t).trans ?_;unfold HJ;cases hr:FG m q with
  | false=>rfl
  | true=>
   obtain ⟨hm,_,_,_,hk⟩:=XU hr;have hmp:=L5 hm;rw [A3,DJ,BC];cases h1:(q.k==1) with
   | true=>rfl
   | false=>
    rw [DJ,DJ];cases h2:(q.k==2) with
    | true=>
     rw [DI,DI];refine (vV 10 m q p _ (by omega) m.c.toNat 0 10 (by omega) (by omega)).trans ?_;rw [uZ,← List.range_eq_range'];rfl
    | false=>
     rw [DJ,DJ];rcases j4 hk with ⟨e,_⟩ | ⟨e,_⟩ | ⟨_,⟨f0,fd⟩,_⟩
     ·rw [e] at h1; cases h1
     ·rw [e] at h2; cases h2
     ·have step:∀ x:Int,cond (decide (x≥t)) (some (V.bool false,[])) (cond q.fl (some (V.bool (decide (ER m q.c (JE q p t) > ER m q.c p)),[])) (some (V.bool (decide (ER m q.c (JE q p t) < ER m q.c p)),[]))) =
        some (V.bool (cond (decide (x≥t)) false (cond q.fl (decide (ER m q.c (JE q p t) > ER m q.c p)) (decide (ER m q.c (JE q p t) < ER m q.c p)))),([]:List (List V))):=fun x=>by
       cases decide (x≥t) with
       | true=>rfl
       | false=>cases q.fl <;> rfl
      obtain e | e | e | e:q.ft=0∨q.ft=1∨q.ft=2∨q.ft=3:=by omega
      all_goals
       rw [e];exact step _
 ·simp [R.get] at h
open Go Go.Proofs Go.RowKit Go.Sort
theorem oZ (x:Int):∀ l,(W9 x l).Perm (x :: l)
 | []=>vbM _
 | y :: r=>by
  rw [W9];cases decide (x≤y) with
  | true=>exact vbM _
  | false=>exact ((oZ x r).cons y).trans (List.Perm.swap x y r)
theorem TA:∀ l,(KY l).Perm l
 | []=>vbM _
 | x :: r=>(oZ x (KY r)).trans ((TA r).cons x)
theorem Bk (x:Int):∀ {l:List Int},l.Pairwise (·≤·)→(W9 x l).Pairwise (·≤·)
 | [],_=>by simp [W9]
 | y :: r,h=>by
  rw [W9];cases hd:decide (x≤y) with
  | true=>
   have hd:=A1 hd;rw [DI];rw [vbF] at h ⊢;refine ⟨fun z hz=>?_,by rw [vbF]; exact h⟩;rcases AP.1 hz with rfl | hz
   ·exact hd
   ·exact Int.le_trans hd (h.1 z hz)
  | false=>
   have hd:=BH hd;rw [DJ];rw [vbF] at h ⊢;refine ⟨fun z hz=>?_,Bk x h.2⟩;rcases AP.1 ((oZ x r).mem_iff.1 hz) with rfl | hz
   ·omega
   ·exact h.1 z hz
theorem Ki:∀ l,(KY l).Pairwise (·≤·)
 | []=>List.Pairwise.nil
 | x :: r=>Bk x (Ki r)
theorem zcK (l:List Int):(l.mergeSort fun x y=>decide (x≤y))=KY l:=by
 refine List.Perm.eq_of_pairwise (le:=(·≤·)) (fun a b _ _ h1 h2=>Int.le_antisymm h1 h2) ?_ (Ki l) ((List.mergeSort_perm l _).trans (TA l).symm)
 have:=List.pairwise_mergeSort (le:=fun (x y:Int)=>decide (x≤y)) (fun a b c h1 h2=>AD (Int.le_trans (A1 h1) (A1 h2))) (fun a b=>by
  rcases Int.le_total a b with h | h
  ·rw [AD h]; rfl
  ·rw [AD h,Bool.or_true]) l
 exact this.imp fun h=>by simpa using h
theorem y0 (x:Int):∀ (l:List Int) (p:Int),ML p (l++[x])=ML p l++cond ((l.getLast?.getD p)==x) [] [x]
 | [],p=>by
  show cond (x==p) (ML x []) (x :: ML x [])=_;rw [show ((([]:List Int).getLast?.getD p)==x)=(x==p) by show (p==x)=(x==p); rw [va2,B8,B8]; exact eq_comm];cases (x==p) <;> rfl
 | y :: r,p=>by
  rw [CT,ML,ML,y0 x r y];have e:((y :: r).getLast?.getD p)=r.getLast?.getD y:=by
   cases r with
   | nil=>rfl
   | cons z r=>rw [List.getLast?_cons_cons,List.getLast?_eq_some_getLast (List.cons_ne_nil z r)]; rfl
  rw [e];cases (y==p) <;> rfl
theorem Uv (x:Int) (l:List Int):KA (l++[x])=KA l++cond (l.getLast?==some x) [] [x]:=by
 cases l with
 | nil=>rfl
 | cons y r=>
  rw [CT,KA,KA,y0,CT];congr 2
  have:((y :: r).getLast?==some x)=(r.getLast?.getD y==x):=by
   cases r with
   | nil=>show (some y==some x)=(y==x); rw [va2]; simp
   | cons z r=>rw [List.getLast?_cons_cons,List.getLast?_eq_some_getLast (List.cons_ne_nil z r)]; rw [va2]; simp
  rw [this]
theorem Uw (l:List Int):Lib.compact l=KA l:=by
 have key:∀ m,m≤l.length→vbt l.toArray m=KA (l.take m):=by
  intro m
  induction m with
  | zero=>intro _; rfl
  | succ m ih=>
   intro hm;have e1:vbt l.toArray (m+1)=vbt l.toArray m++cond (Lib.keeps l.toArray m) [l.toArray[m]!] []:=by
    unfold vbt;rw [List.range_succ,List.filter_append,List.map_append];congr 1;cases hk:Lib.keeps l.toArray m <;> simp [hk]
   have hml:m < l.length:=by omega
   have e2:l.toArray[m]! = l[m]:=by simp [hml]
   rw [e1,ih (by omega),List.take_succ_eq_append_getElem hml,Uv,e2];congr 1;cases m with
   | zero=>simp [Lib.keeps]
   | succ k=>
    have hk:k < l.length:=by omega
    have e3:(l.take (k+1)).getLast?=some l[k]:=by rw [List.getLast?_take]; simp [hk]
    rw [e3];have e4:l.toArray[k]! = l[k]:=by simp [hk]
    cases hq:Lib.keeps l.toArray (k+1) with
    | true=>
     have:¬ (l[k+1]=l[k]):=fun he=>by
      rw [Lib.keeps_neg (Nat.succ_pos k) (by show l.toArray[k+1]! = l.toArray[k]!; rw [e2,e4]; exact he)] at hq;cases hq
     rw [DI];rw [show (some l[k]==some l[k+1])=false by simp; exact fun h=>this h.symm];rfl
    | false=>
     have:l[k+1]=l[k]:=by
      by_cases he:l[k+1]=l[k]
      ·exact he
      ·rw [Lib.keeps_pos (by show l.toArray[k+1]!≠l.toArray[k]!; rw [e2,e4]; exact he)] at hq;cases hq
     rw [DJ,this];rw [show (some l[k]==some l[k])=true by simp];rfl
 unfold Lib.compact;rw [key _ (AZ _),BO]
theorem yZ:∀ (l:List Int) (p:Int),(ML p l).length≤l.length
 | [],_=>AZ _
 | x :: r,p=>by
  have:=yZ r x
  rw [ML];cases (x==p)
  ·rw [DJ,AM,AM]; omega
  ·rw [DI,AM]; omega
theorem iV (l:List Int):(KA l).length≤l.length:=by
 cases l with
 | nil=>exact AZ _
 | cons x r=>rw [KA,AM,AM]; have:=yZ r x; omega
theorem nL {p x:Int}:∀ {l:List Int},x∈ML p l→x∈l
 | [],h=>by cases h
 | y :: r,h=>by
  rw [ML] at h;cases hb:(y==p)
  ·rw [hb,DJ] at h;rcases AP.1 h with h | h
   ·exact h ▸ AO ..
   ·exact AY _ (nL h)
  ·rw [hb,DI] at h;exact AY _ (nL h)
theorem y3 {x:Int} {l:List Int} (h:x∈KA l):x∈l:=by
 cases l with
 | nil=>cases h
 | cons y r=>
  rcases AP.1 h with h | h
  ·exact h ▸ AO ..
  ·exact AY _ (nL h)
theorem P3 (l:List Int):(iZ l).length=l.length:=BG ..
theorem oS (l:List Int):(iZ l).map IV.toInt=l:=by
 unfold iZ;rw [vaJ];exact List.map_id l
theorem nF (l:List Int):MK (iZ l)=l.map (Value.int .i64):=by
 unfold MK iZ;rw [vaJ];rfl
theorem Un (l:LI):MK l=(l.map IV.toInt).map (Value.int .i64):=by
 unfold MK;rw [vaJ];rfl
abbrev JL:Int→Value:=Value.int .i64
theorem kQ {w:World} {e g n cap:Nat} {zs:List Int} (h:w.ownsRow 0 e 1 (.slice (some ⟨g,0,none⟩) n cap) zs.length (zs.map JL)):n=zs.length∧n≤cap∧cap≤maxLen∧g < w.heap.size∧Holds JL w g 0 zs.toArray:=by
 rcases h.2 with ⟨h1,_⟩ | ⟨g',cap',cur,h1,_,h2,h3,h4,h5,h6⟩
 ·cases h1
 ·simp only [CJ,AC,DH,B7] at h1;obtain ⟨rfl,rfl,rfl⟩:=h1;refine ⟨rfl,h3,h4,(DF.1 h2).1,fun j hj=>?_⟩;have hj':j < zs.length:=by simpa using hj
  rw [BI];constructor
  ·have hc:cur[j]?=some (JL zs[j]):=by
    have:(cur.toList.take (zs.length*1))[j]?=some (JL zs[j]):=by rw [h6]; simp [hj']
    rw [CM,BP (by omega)] at this;simpa using this
   simp only [vaN,h2];simp [hc,hj']
  ·simp [World.frozen?,h2]
theorem zbX {w:World} {g:Nat} {cur:Array Value} {e:TypeId} {fr:Nat × Nat} (h:w.heap[g]?=some (.cells cur e fr)) (q:Nat) (os:Array Obj) (zs:List Int) :
  (grow (putRow JL (vbH w q) g 0 zs.toArray) os).heap[g]?=some (.cells (putCells JL 0 zs.toArray cur) e fr):=by
 have hg:g < w.heap.size:=(DF.1 h).1;have h0:(putRow JL (vbH w q) g 0 zs.toArray).heap[g]?=some (.cells (putCells JL 0 zs.toArray cur) e fr):=by
  unfold putRow mapBlock;simp [va6,onCells,h]
 unfold grow;simp only;rw [Array.getElem?_append_left (by rw [size_putRow]; exact hg)];exact h0
theorem zfW {cur:Array Value} {zs:List Int} (h:zs.length≤cur.size):(putCells JL 0 zs.toArray cur).size=cur.size∧(putCells JL 0 zs.toArray cur).toList.take zs.length=zs.map JL:=by
 refine ⟨by simp [putCells],?_⟩;apply List.ext_getElem?;intro k;rw [CM];by_cases hk:k < zs.length
 ·rw [BP hk];have hc:k < cur.size:=by omega
  simp [putCells,hk,hc]
 ·rw [BD hk];simp [hk]
theorem qO {w:World} {e g n cap:Nat} {zs:List Int} (h:w.ownsRow 0 e 1 (.slice (some ⟨g,0,none⟩) n cap) zs.length (zs.map JL)) (q:Nat) (os:Array Obj) (ys rest:List Int) (hl:(ys++rest).length=zs.length) :
  w.grownBy (grow (putRow JL (vbH w q) g 0 (ys++rest).toArray) os) (some g) ∧
   (grow (putRow JL (vbH w q) g 0 (ys++rest).toArray) os).ownsRow 0 e 1 (.slice (some ⟨g,0,none⟩) ys.length cap) ys.length (ys.map JL):=by
 have hh:=kQ h;rcases h.2 with ⟨h1,_⟩ | ⟨g',cap',cur,h1,_,h2,h3,h4,h5,h6⟩
 ·cases h1
 ·simp only [CJ,AC,DH,B7] at h1;obtain ⟨rfl,rfl,rfl⟩:=h1;rw [AT] at hl;have hcur:(ys++rest).length≤cur.size:=by rw [AT]; omega
  obtain ⟨p1,p2⟩:=zfW (zs:=ys++rest) hcur;refine ⟨⟨rfl,rfl,rfl,?_,fun k hk hne=>?_⟩,by simp,.inr ⟨g,cap,_,rfl,B5 _,zbX h2 q os _,by omega,h4,by rw [p1,h5],?_⟩⟩
  ·show w.heap.size≤((putRow JL (vbH w q) g 0 (ys++rest).toArray).heap++os).size;rw [Array.size_append,size_putRow];exact Nat.le_add_right _ _
  ·have hne':g≠k:=fun e=>hne (by rw [e])
   unfold grow;simp only;rw [Array.getElem?_append_left (by rw [size_putRow]; exact hk)];unfold putRow mapBlock;simp [va6,hne']
  ·rw [Nat.mul_one]
   have:=congrArg (AK ys.length) p2
   rw [List.take_take,vaB (by rw [AT]; omega),List.map_append,List.take_left' (by simp)] at this;exact this
theorem Ay (w:World) (r:Option Nat):w.grownBy w r:=⟨rfl,rfl,rfl,AZ _,fun _ _ _=>rfl⟩
theorem rY {l:LI} (h:∀ x∈l,AB.min≤x.toInt∧x.toInt≤AB.max) {ys:List Int} (hs:∀ y∈ys,y∈l.map IV.toInt):∀ x∈iZ ys,AB.min≤x.toInt∧x.toInt≤AB.max:=by
 intro x hx;obtain ⟨y,hy,rfl⟩:=CI.1 hx;obtain ⟨z,hz,hzy⟩:=CI.1 (hs y hy);show AB.min≤y∧y≤AB.max;rw [← hzy];exact h z hz
theorem qM {w:World} {e:Nat} {v:Value} {l:LI} (h:w.ownsRow 0 e 1 v l.length (MK l)):(v = .slice none 0 0∧l=[])∨∃ g cap,v = .slice (some ⟨g,0,none⟩) (l.map IV.toInt).length cap∧w.ownsRow 0 e 1 (.slice (some ⟨g,0,none⟩) (l.map IV.toInt).length cap) (l.map IV.toInt).length ((l.map IV.toInt).map JL):=by
 rcases h.2 with ⟨h1,h2⟩ | ⟨g,cap,cur,h1,_⟩
 ·exact .inl ⟨h1,List.length_eq_zero_iff.1 h2⟩
 ·rw [h1] at h;refine .inr ⟨g,cap,by rw [h1,BG],?_⟩;rw [BG,← Un];exact h
theorem zhH:R7 PR 201 jS:=by
 intro w v l l' rs ys hown hrng hlen hr hg;unfold jS at hg;simp only at hg;split at hg
 ·simp only [AC] at hg;subst hg;obtain rfl:ys=[]:=by
   cases ys with
   | nil=>rfl
   | cons y ys=>simp [U6] at hr
  refine Does.of_calls Tryz.func201 (by kernel_rfl) (by kernel_rfl) ?_;have hmem:∀ y∈KY (l.map IV.toInt),y∈l.map IV.toInt:=fun y hy=>(TA _).mem_iff.1 hy
  rcases qM hown with ⟨rfl,rfl⟩ | ⟨g,cap,rfl,ho⟩
  ·refine (Tryz.slices_Sort_int_none none 0 w).mono ?_;rintro e w' ⟨rfl,rfl⟩;exact ⟨_,rfl,Ay _ _,fun x hx=>(by cases hx),fun h=>(by cases h),fun _=>hown⟩
  ·obtain ⟨_,_,hcm,hgs,hH⟩:=kQ ho;refine (Tryz.slices_Sort_int g 0 cap (l.map IV.toInt) w hH hgs (by rw [BG]; unfold strMax at hlen; omega)).mono ?_;rintro e w' ⟨rfl,q,os,rfl⟩;rw [zcK];have hl:(KY (l.map IV.toInt)++[]).length=(l.map IV.toInt).length:=by rw [DB]; exact (TA _).length_eq
   have hp:=qO ho q os (KY (l.map IV.toInt)) [] hl;rw [DB] at hp hl;refine ⟨_,rfl,hp.1,rY hrng hmem,fun h=>(by cases h),fun _=>?_⟩;rw [nF,P3,← hl];exact hp.2
 ·cases hg
theorem zhF:R7 PR 202 jQ:=by
 intro w v l l' rs ys hown hrng hlen hr hg;unfold jQ at hg;simp only at hg;split at hg
 ·simp only [AC] at hg;subst hg;obtain rfl:ys=[]:=by
   cases ys with
   | nil=>rfl
   | cons y ys=>simp [U6] at hr
  refine Does.of_calls Tryz.func202 (by kernel_rfl) (by kernel_rfl) ?_;rcases qM hown with ⟨rfl,rfl⟩ | ⟨g,cap,rfl,ho⟩
  ·refine (Tryz.slices_Compact_int_empty none 0 w).mono ?_;rintro e w' ⟨rfl,rfl⟩;exact ⟨_,rfl,Ay _ _,fun x hx=>(by cases hx),fun _=>⟨hown,fun b hb=>(by simp [CC] at hb)⟩,fun h=>by cases h⟩
  ·obtain ⟨_,hnc,hcm,hgs,hH⟩:=kQ ho;refine (Tryz.slices_Compact_int g 0 cap (l.map IV.toInt) w hH (by rw [BG]; unfold strMax at hlen; omega) hnc).mono ?_;rintro e w' ⟨rfl,q,rfl⟩;rw [Uw];have hlc:=iV (l.map IV.toInt);have hp:=qO ho q #[] (KA (l.map IV.toInt)) (BN ((l.map IV.toInt).length - (KA (l.map IV.toInt)).length) 0) (by rw [AT,List.length_replicate]; omega);rw [grow_empty] at hp;refine ⟨_,rfl,hp.1,rY hrng fun y hy=>y3 hy,fun _=>⟨?_,fun b hb=>.inl hb⟩,fun h=>by cases h⟩;rw [nF,P3];exact hp.2
 ·cases hg
set_option maxHeartbeats 1000000 in
theorem zI (a b x:Int) (B:Nat) (W:World) (ha:W.cell? ⟨B,0,none⟩=some (.int .i64 a)) (hb:W.cell? ⟨B,1,none⟩=some (.int .i64 b)) :
  FnGives Tryz.prog 169 #[.pointer (some ⟨B,0,none⟩)] #[.int .i64 x] (.bool (decide (x < a)||decide (x≥b))) W:=by
 show Calls Tryz.prog 169 #[.int .i64 x,.pointer (some ⟨B,0,none⟩)] W _
 go_enter Tryz.func169,Tryz.ntmps169
 go_wp2
 all_goals (go_ret; exact ⟨by simp_all,0,rfl⟩)
set_option maxHeartbeats 1000000 in
theorem Vt (fv:Value) (w:World):Calls Tryz.prog 167 #[.slice none 0 0,fv] w fun e w'=>e = .returned (.slice none 0 0)∧∃ q,w'=w.drewN q:=by
 go_enter Tryz.func167,Tryz.ntmps167
 go_wp2_with (go_at_call 200; refine (Tryz.slices_IndexFunc_empty (α:=Int) none 0 fv _).mono ?_; rintro e w' ⟨rfl,rfl⟩)
 go_ret
 exact ⟨rfl,0,rfl⟩
theorem zfF {w:World} {v:Value} {f:Nat} {a b:Int} {ys:List Value} (h:U6 w v [.clo f [.bor [.int .i64 a,.int .i64 b]]] ys):∃ B,ys=[.func (.func f) #[] #[.pointer (some ⟨B,0,none⟩)]]∧B < w.heap.size∧w.cell? ⟨B,0,none⟩=some (.int .i64 a)∧w.cell? ⟨B,1,none⟩=some (.int .i64 b)∧v.ownBlock≠some B:=by
 cases ys with
 | nil=>simp [U6] at h
 | cons y r=>
  cases r with
  | cons _ _=>simp [U6] at h
  | nil=>
   simp only [U6] at h;obtain ⟨B,c,T,rfl,hh,hc,hne⟩:=h;refine ⟨B,rfl,(DF.1 hh).1,?_,?_,hne⟩
   ·simp only [vaN,hh];rw [← vax,hc];rfl
   ·simp only [vaN,hh];rw [← vax,hc];rfl
theorem zhG:R7 PR 167 jR:=by
 intro w v l l' rs ys hown hrng hlen hr hg;unfold jR at hg;simp only at hg;split at hg
 ·rename_i f a b;cases hf:BQ f 169 with
  | false=>rw [hf,DJ] at hg; cases hg
  | true=>
   rw [hf,DI,AC] at hg;subst hg;obtain rfl:=F1.1 hf;obtain ⟨B,rfl,hBs,ha,hb,hne⟩:=zfF hr;have pe:K6 a b (l.map IV.toInt)=(l.map IV.toInt).filter fun x=>!(decide (x < a)||decide (x≥b)):=rfl
   have eg:∀ args w,(callFunc 169 args).run Tryz.prog w = .ok (.enter 169 args) w:=enters_of Tryz.func169 (by kernel_rfl) rfl;have hp:PredAt Tryz.prog 169 #[.pointer (some ⟨B,0,none⟩)] JL (fun x=>decide (x < a)||decide (x≥b)) w:=
    fun W x hbw=>zI a b x B W ((hbw.cell (p:=⟨B,0,none⟩) hBs).trans ha) ((hbw.cell (p:=⟨B,1,none⟩) hBs).trans hb)
   rcases qM hown with ⟨rfl,rfl⟩ | ⟨g,cap,rfl,ho⟩
   ·refine Does.of_calls Tryz.func167 (by kernel_rfl) (by kernel_rfl) ((Vt _ w).mono ?_);rintro e w' ⟨rfl,q,rfl⟩;exact ⟨_,rfl,⟨rfl,rfl,rfl,AZ _,fun _ _ _=>rfl⟩,fun x hx=>(by cases hx),fun _=>⟨World.ownsRow_nil _ 0 _ _,fun b hb=>(by simp [CC] at hb)⟩,fun h=>by cases h⟩
   ·obtain ⟨_,hnc,hcm,hgs,hH⟩:=kQ ho;have hBg:B≠g:=fun e=>hne (by rw [e]; rfl)
    have hpo:PredOver Tryz.prog 169 #[.pointer (some ⟨B,0,none⟩)] JL (fun x=>decide (x < a)||decide (x≥b)) g 0 (l.map IV.toInt).toArray.size w:=
     fun n os dk x _=>by
      have hcell:∀ o u,w.cell? ⟨B,o,none⟩=some u→(sortWorld JL w g 0 n dk os).cell? ⟨B,o,none⟩=some u:=fun o u hu=>by
       unfold sortWorld;rw [cell?_grow _ _ _ (by show B < (putRow _ _ _ _ _).heap.size; rw [size_putRow]; exact hBs),cell?_putRow_other _ _ g 0 _ _ (Or.inl hBg)];exact hu
      exact zI a b x B _ (hcell 0 _ ha) (hcell 1 _ hb)
    refine Does.of_calls Tryz.func167 (by kernel_rfl) (by kernel_rfl) ?_;have hcall:=Tryz.slices_DeleteFunc JL (fun _=>rfl) (fun x=>decide (x < a)||decide (x≥b)) 169 #[.pointer (some ⟨B,0,none⟩)] eg 0 Tryz.zeroValue3 g 0 cap (l.map IV.toInt).toArray w hp hpo hH (by simp; unfold strMax at hlen; omega) (by simp; rw [BG] at hnc; exact hnc);have es:(l.map IV.toInt).toArray.size=(l.map IV.toInt).length:=by simp
    rw [es] at hcall;refine hcall.mono ?_;rintro e w' ⟨rfl,q,rfl⟩;have ef:(l.map IV.toInt).toArray.toList.filter (fun x=>!(decide (x < a)||decide (x≥b)))=K6 a b (l.map IV.toInt):=rfl;rw [ef];have hlc:(K6 a b (l.map IV.toInt)).length≤(l.map IV.toInt).length:=List.length_filter_le ..
    have hp2:=qO ho q #[] (K6 a b (l.map IV.toInt)) (BN ((l.map IV.toInt).length - (K6 a b (l.map IV.toInt)).length) 0) (by rw [AT,List.length_replicate]; omega);rw [grow_empty] at hp2;refine ⟨_,rfl,hp2.1,rY hrng fun y hy=>(List.mem_filter.1 hy).1,fun _=>⟨?_,fun b hb=>.inl hb⟩,fun h=>by cases h⟩;rw [nF,P3];exact hp2.2
 ·cases hg
open Go Go.Proofs
set_option maxRecDepth 100000
theorem Dx {dim n:Int}:∀ {l:LI} {i k:Nat} (hk:k < l.length),KF dim n i l=true→GC (l[k]).toInt=true∧N4 dim n (i+k) (DL (l[k]).toInt)=true
 | [],i,k,hk,_=>absurd hk (Nat.not_lt_zero k)
 | w :: r,i,0,hk,h=>by
  rw [KF] at h;simp only [AI] at h;exact h.1
 | w :: r,i,k+1,hk,h=>by
  rw [KF,AI] at h
  have:=Dx (k:=k) (by simpa using hk) h.2
  rw [show i+1+k=i+(k+1) by omega] at this;exact this
theorem lU {l:LI} {dim:Int} (h:GV l dim=true):(1≤l.length∧l.length≤31)∧(∀ k (hk:k < l.length),GC (l[k]).toInt=true∧N4 dim (ic l.length) k (DL (l[k]).toInt)=true)∧ZR l=true:=by
 unfold GV at h;simp only [AI] at h;refine ⟨⟨AN h.1.1,AN h.1.2⟩,fun k hk=>?_,h.2.2⟩
 have:=Dx hk h.2.1
 rwa [BI] at this
theorem Zj {dim n:Int} {i:Nat} {x:Nd} (h:N4 dim n i x=true) (hl:x.lf=false):x.f < dim∧x.l≠x.r∧((i:Int) < x.l∧(i:Int) < x.r)∧(x.l < n∧x.r < n):=by
 unfold N4 at h;rw [hl,DJ] at h;simp only [AI,B3,BW,A4] at h;obtain ⟨h1,h2,h3,h4⟩:=h;exact ⟨by omega,h2,by omega,by omega⟩
theorem ziZ {l:LI} {d e:Int} (h:GV l d=true) (hde:d≤e):GV l e=true:=by
 have key:∀ (l:LI) (n:Int) (i:Nat),KF d n i l=true→KF e n i l=true:=by
  intro l n
  induction l with
  | nil=>intro _ _; rfl
  | cons w r ih=>
   intro i h;rw [KF] at h ⊢;simp only [AI] at h ⊢;refine ⟨⟨h.1.1,?_⟩,ih _ h.2⟩;have h2:=h.1.2;unfold N4 at h2 ⊢;cases hl:(DL w.toInt).lf with
   | true=>rfl
   | false=>
    rw [hl,DJ] at h2;rw [DJ];simp only [AI,B3,BW] at h2 ⊢;exact ⟨by omega,h2.2⟩
 unfold GV at h ⊢;simp only [AI] at h ⊢;exact ⟨h.1,key _ _ _ h.2.1,h.2.2⟩
abbrev kpL:KP:=⟨[4,5,6,24,25,26],[20,500],[⟨(.tmp 6),500,275,true,MN⟩]⟩
abbrev Oy (l:LI) (i:Int) (own out:LI):St:=
 ⟨[(4,.zs),(5,(.row 20 0 l.length)),(6,(.row 500 0 out.length)),(24,(.list false [(.int .u64)] l)),(25,(.int .i64 (ic (AF l)))),(26,(.int .i64 i))],[(20,(some (.row true 36 true E6 own))),(500,(some (.row true 275 true MN out)))]⟩
theorem j8 (N:Nat) (l:LI) (ht:GV l 4=true):∀ (m i n:Nat) (own out:LI),i+m=l.length→m < n→own.length=l.length→out.length≤i →
  DY (QX N) (DK UI [1,1,1,1,1,0,1,0,0]) kpL n (Oy l (i:Int) own out) (DQ 0 (DS (QX N) (DK UI [1,1,1,1,1,1]) (DT (QX N) none [(CF 4)] [[(.list true MN)]]))) =
   some (.list true MN (N8 (l.drop i) i own out),[])
 | m,i,0,_,_,_,h,_,_=>absurd h (by omega)
 | 0,i,n+1,own,out,hd,_,_,_=>by
  have hi:i=l.length:=by omega
  subst hi;rw [D4,Ly,I2 (AZ _),DJ,Xv,vaD,N8,BY,BO]
 | m+1,i,n+1,own,out,hd,hn,ho,hu=>by
  obtain ⟨⟨l1,l31⟩,hat,_⟩:=lU ht;have hi:i < l.length:=by omega
  have ei:AA AB ((i:Int)+1)=((i+1:Nat):Int):=HC (by omega);obtain ⟨hb,hf⟩:=hat i hi;have io:decide ((i:Int) < ic (l.length - 0))=true:=G8 hi;rw [D4,Ly,ei,G8 hi,DI,H7,B4,DI,H6 hi,io,B4,BF,BE hi,N8];simp only [BI];cases hl:(DL (l[i]).toInt).lf with
  | true=>
   rw [A3,DJ,DI,DI,BC];have e1:O3 (DL (l[i]).toInt) i own=own:=by unfold O3; rw [hl,DI]
   rw [e1];cases (D7 (own.getD i default)).emp with
   | true=>exact j8 N l ht m (i+1) n own out (by omega) (by omega) ho (by omega)
   | false=>
    have ih:=j8 N l ht m (i+1) n own (out++[fQ (D7 (own.getD i default)) (DL (l[i]).toInt).v]) (by omega) (by omega) ho (by rw [AT]; simp; omega);unfold Oy at ih;rw [AT,C2] at ih;rw [A7,DI,DI,AD (show (out.length+1)*88≤EE by unfold EE; omega),DI,BO];exact ih
  | false=>
   obtain ⟨f4,_,_,⟨ln,rn⟩⟩:=Zj hf hl;obtain ⟨⟨f0,_⟩,⟨a1,_⟩,⟨b1,_⟩,_⟩:=p7 hb hl;have hp:H8 (DL (l[i]).toInt).f=true:=by unfold H8; rw [AD f0,AD (by omega)]; rfl
   have el:(decide (0≤(DL (l[i]).toInt).l)&&decide ((DL (l[i]).toInt).l < ic (l.length - 0)))=true:=by rw [AD (by omega),AD (show (DL (l[i]).toInt).l < ic (l.length - 0) from ln)]; rfl
   have er:(decide (0≤(DL (l[i]).toInt).r)&&decide ((DL (l[i]).toInt).r < ic (l.length - 0)))=true:=by rw [AD (by omega),AD (show (DL (l[i]).toInt).r < ic (l.length - 0) from rn)]; rfl
   rw [A7,DI,DI,hp,DI,el,DI,er,DI,BL,DJ];have e1:O3 (DL (l[i]).toInt) i own=(own.set (DL (l[i]).toInt).l.toNat ((D7 (own.getD i default)).cutL (DL (l[i]).toInt).f (DL (l[i]).toInt).a).I).set (DL (l[i]).toInt).r.toNat ((D7 (own.getD i default)).cutH (DL (l[i]).toInt).f (DL (l[i]).toInt).a).I:=by unfold O3; rw [hl,DJ]
   rw [e1];exact j8 N l ht m (i+1) n _ out (by omega) (by omega) (by rw [vaG,vaG]; exact ho) (by omega)
theorem zhI:DX PR B0 218 cN:=by
 refine D6 [(111,PO),(112,K2),(55,MI),(96,WP)] [(7,⟨[4,5,6,24,25,26],[20,500],[⟨.tmp 6,500,275,true,[.z,.z,.z,.z,.z,.z,.z,.z,.z,.z,.z]⟩]⟩)] cN [[.list true [.z,.z,.z,.z,.z,.z,.z,.z,.z,.z,.z]]] Tryz.func218 za8 ⟨lD,XY,Z7,Kh,trivial⟩ ?_;intro vs r hwf h;unfold cN at h;split at h
 ·rename_i l b;replace h:=JS h;obtain ⟨b,rfl,h⟩:=h;rw [R.get_ok] at h;refine ⟨40,?_⟩;rw [← h];refine (zdX 40 l b).trans ?_;unfold IT;cases ht:GV l 4 with
  | false=>rfl
  | true=>
   rw [A3,DJ,BC];cases b.emp with
   | true=>rfl
   | false=>
    obtain ⟨⟨l1,l31⟩,_,_⟩:=lU ht;have run:=j8 40 l ht l.length 0 40 ((BN l.length YX.I).set 0 b.I) [] (by omega) (by omega) (by simp) (B5 _);rw [DJ,AD (show (0:Int)≤ic l.length by simp only [ic]; omega),AD (show ic l.length=ic l.length from rfl),AD (show ic l.length*ic 80≤ic EE by unfold EE; simp only [ic]; omega),B4,B4,DI,
     AD (show 0≤0 from AZ 0),AD (show (0:Int) < ic (AE (ic l.length) - 0) by simp only [ic]; omega),B4,DI]
    exact run
 ·simp [R.get] at h
abbrev zjD (l:LI) (lo hi i:Int):St:=⟨[(4,(.int .i64 0)),(5,(.int .i64 0)),(6,(.bool false)),(8,(.int .i64 lo)),(9,(.int .i64 hi)),(26,(.list true MN l)),(27,(.int .i64 (ic (AF l)))),(28,(.int .i64 i))],[]⟩
theorem vU (N:Nat) (l:LI) (hl:l.length≤strMax):∀ (m i n:Nat) (lo hi:Int),i+m=l.length→m < n →
  DY (QT N) (DK UD [1,1,1,1,0,1,0,0]) ⟨[4,5,6,8,9,26,27,28],[],[]⟩ n (zjD l lo hi (i:Int)) (DQ 0 (DS (QT N) (DK UD [1,1,1,1,1]) (DT (QT N) none [(CF 4),(CF 5),(CF 6)] [[.z],[.z],[.bool]]))) =
   some (.tup [.int .i64 (O5 (l.drop i) lo),.int .i64 (O4 (l.drop i) hi),.bool true],[])
 | m,i,0,_,_,_,h=>absurd h (by omega)
 | 0,i,n+1,lo,hi,hd,_=>by
  have hi:i=l.length:=by omega
  subst hi;rw [D4,Lf,I2 (AZ _),DJ,vaD];exact Wr N _ _ _ _ _ l _ _
 | m+1,i,n+1,lo,hi,hd,hn=>by
  have hi:i < l.length:=by omega
  have mx:strMax=140737488355327:=rfl;have ei:AA AB ((i:Int)+1)=((i+1:Nat):Int):=HC (by omega);rw [D4,Lf,ei,G8 hi,DI,H7,B4,DI,H6 hi,BE hi,O5,O4];exact vU N l hl m (i+1) n _ _ (by omega) (by omega)
theorem Cu:∀ (l:LI) (i:Nat) (own out:LI),(N8 l i own out).length≤out.length+l.length
 | [],_,_,out=>AZ _
 | w :: r,i,own,out=>by
  rw [N8]
  have:=Cu r (i+1) (O3 (DL w.toInt) i own) (cond ((DL w.toInt).lf&&!(D7 (own.getD i default)).emp) (out++[fQ (D7 (own.getD i default)) (DL w.toInt).v]) out)
  refine C1 this ?_;cases ((DL w.toInt).lf&&!(D7 (own.getD i default)).emp) with
  | true=>rw [DI,AT,C2,AM]; omega
  | false=>rw [DJ,AM]; omega
theorem zco (l:LI) (b:Bx):(IT l b).length≤31:=by
 unfold IT;cases ht:GV l 4 with
 | false=>exact B5 _
 | true=>
  cases b.emp with
  | true=>exact B5 _
  | false=>
   have:=Cu l 0 ((BN l.length YX.I).set 0 b.I) []
   have h2:=(lU ht).1.2;simp only [A6,BI] at this;exact C1 this h2
theorem zg3:DX PR B0 196 bD:=by
 refine D6 [(218,cN)] [(6,⟨[4,5,6,8,9,26,27,28],[],[]⟩)] bD [[.z],[.z],[.bool]] Tryz.func196 zah ⟨zhI,trivial⟩ ?_;intro vs r hwf h;unfold bD at h;split at h
 ·rename_i l b;replace h:=JS h;obtain ⟨b,rfl,h⟩:=h;rw [R.get_ok] at h;refine ⟨40,?_⟩;rw [← h];refine (zdb 40 l b).trans ?_;have h31:=zco l b;unfold IB IA X1 fU fT;generalize IT l b=ps at h31 ⊢;cases ps with
  | nil=>rfl
  | cons x r=>
   have run:=vU 40 (x :: r) (C1 h31 (by decide)) (x :: r).length 0 40 (HR x) (HR x) (by omega) (by omega);have e0:(ic (x :: r).length==0)=false:=by
    simp only [ic,AM,A4];omega
   have e1:(decide (0≤0)&&decide (0 < ic (x :: r).length))=true:=by
    rw [AD (show 0≤0 from AZ 0),AD (show 0 < ic (x :: r).length by simp only [ic,AM]; omega)];rfl
   rw [e0,DJ,e1,DI,DI];exact run
 ·simp [R.get] at h
theorem zcL {l:LI}:∀ {a:Int},E2 a=true→(∀ x∈l,E2 (HR x)=true)→E2 (O5 l a)=true:=by
 induction l with
 | nil=>intro a h _; exact h
 | cons x r ih=>
  intro a h hx;rw [O5];refine ih ?_ fun y hy=>hx y (AY _ hy)
  have:=NB h
  have:=NB (hx x (AO ..))
  unfold E2;rw [AD (by omega),AD (by omega)];rfl
theorem zcH {l:LI}:∀ {a:Int},E2 a=true→(∀ x∈l,E2 (HR x)=true)→E2 (O4 l a)=true:=by
 induction l with
 | nil=>intro a h _; exact h
 | cons x r ih=>
  intro a h hx;rw [O4];refine ih ?_ fun y hy=>hx y (AY _ hy)
  have:=NB h
  have:=NB (hx x (AO ..))
  unfold E2;rw [AD (by omega),AD (by omega)];rfl
theorem Ct:∀ (l:LI) (i:Nat) (own out:LI),(∀ x∈out,E2 (HR x)=true)→∀ x∈N8 l i own out,E2 (HR x)=true
 | [],_,_,_,h=>h
 | w :: r,i,own,out,h=>by
  rw [N8];refine Ct r (i+1) _ _ ?_;cases ((DL w.toInt).lf&&!(D7 (own.getD i default)).emp) with
  | true=>
   intro x hx;rcases AX.1 hx with hx | hx
   ·exact h x hx
   ·obtain rfl:=BM.1 hx;exact Dw _
  | false=>exact h
theorem zcn (l:LI) (b:Bx):∀ x∈IT l b,E2 (HR x)=true:=by
 unfold IT;cases (GV l 4&&!b.emp) with
 | true=>exact Ct _ _ _ _ (fun x hx=>by cases hx)
 | false=>intro x hx; cases hx
theorem lP (l:LI) (b:Bx):E2 (IB l b)=true∧E2 (IA l b)=true:=by
 unfold IB IA X1;have hf:=zcn l b;generalize IT l b=ps at hf ⊢;cases ps with
 | nil=>exact ⟨rfl,rfl⟩
 | cons x r=>exact ⟨zcL (hf x (AO ..)) hf,zcH (hf x (AO ..)) hf⟩
abbrev zjC (ts:LI) (b:Bx) (k lo hi i:Int):St:=⟨[(1,(.int .i64 k)),(5,(.ptr 5 0 0)),(6,(.int .i64 0)),(7,(.int .i64 0)),(8,(.bool false)),(9,(.int .i64 lo)),(10,(.int .i64 hi)),(42,(.list true MO ts)),(43,(.int .i64 (ic (AF ts)))),(44,(.int .i64 i))],[(5,(some (.box (Bx.cs b))))]⟩
theorem tM (N:Nat) (ts:LI) (b:Bx) (k:Int) (hts:ts.length≤8):∀ (m i n:Nat) (lo hi:Int),i+m=ts.length→m < n→(-2147483648*(i+1)≤lo∧lo≤2147483648*(i+1))→(-2147483648*(i+1)≤hi∧hi≤2147483648*(i+1)) →
  DY (GW N) (DK IP [1,1,1,0,1,0,0]) ⟨[1,5,6,7,8,9,10,42,43,44],[5],[]⟩ n (zjC ts b k lo hi (i:Int)) (DQ 0 (DS (GW N) (DK IP [1,1,1,1]) (DT (GW N) none [(CF 6),(CF 7),(CF 8)] [[.z],[.z],[.bool]]))) =
   some (.tup [.int .i64 (I5 (fun l=>IB l b) k (ts.drop i) lo),.int .i64 (I5 (fun l=>IA l b) k (ts.drop i) hi),.bool true],[])
 | m,i,0,_,_,_,h,_,_=>absurd h (by omega)
 | 0,i,n+1,lo,hi,hd,_,_,_=>by
  have hlt:i=ts.length:=by omega
  subst hlt;rw [D4,Le,I2 (AZ _),DJ,vaD];exact Wq N b _ _ _ _ _ _ _ _ _
 | m+1,i,n+1,lo,hi,hd,hn,h1,h2=>by
  have hlt:i < ts.length:=by omega
  have ei:AA AB ((i:Int)+1)=((i+1:Nat):Int):=HC (by omega);rw [D4,Le,ei,G8 hlt,DI,H7,B4,DI,H6 hlt,BE hlt,I5,I5];obtain ⟨q1,q2⟩:=lP (FE ts[i]) b;have q1:=NB q1;have q2:=NB q2;have en:((ts[i].cell 0).toInt != k)=!((ts[i].cell 0).toInt==k):=rfl;rw [en];cases ((ts[i].cell 0).toInt==k) with
  | true=>
   rw [A3,DJ,DI,DI];have ew:AA AB (lo+IB (FE ts[i]) b)=lo+IB (FE ts[i]) b:=EH (by omega) (by omega);have ew2:AA AB (hi+IA (FE ts[i]) b)=hi+IA (FE ts[i]) b:=EH (by omega) (by omega);have ih:=tM N ts b k hts m (i+1) n (lo+IB (FE ts[i]) b) (hi+IA (FE ts[i]) b) (by omega) (by omega) (by omega) (by omega);rw [← ew,← ew2] at ih;refine Eq.trans ih ?_;rw [ew,ew2]
  | false=>
   rw [A7,DI,DJ,DJ];exact tM N ts b k hts m (i+1) n lo hi (by omega) (by omega) (by omega) (by omega)
theorem sQ:DX PR B0 162 SB:=by
 refine D6 [(196,bD),(112,K2),(53,MH)] [(5,⟨[1,5,6,7,8,9,10,42,43,44],[5],[]⟩)] SB [[.z],[.z],[.bool]] Tryz.func162 zag ⟨zg3,XY,Z6,trivial⟩ ?_;intro vs r hwf h;unfold SB at h;split at h
 ·rename_i m k b;replace h:=J7 h;obtain ⟨m,rfl,h⟩:=h;replace h:=JS h;obtain ⟨b,rfl,h⟩:=h;rw [R.get_ok] at h;refine ⟨10,?_⟩;rw [← h];refine (zda 10 m k b).trans ?_;unfold EA D8 G4;cases hm:EW m with
  | false=>rfl
  | true=>
   rw [A3,DJ];cases h0:decide (k < 0) with
   | true=>
    have:ID m k=false:=by unfold ID; rw [AL (show ¬ 0≤k by have:=A1 h0; omega)]; rfl
    rw [this];rfl
   | false=>
    rw [DJ];cases h1:decide (k≥m.c) with
    | true=>
     have:ID m k=false:=by unfold ID; rw [AL (show ¬ k < m.c by have:=A1 h1; omega),vaf]
     rw [this];rfl
    | false=>
     have hc:ID m k=true:=by unfold ID; rw [AD (show 0≤k by have:=BH h0; omega),AD (show k < m.c by have:=BH h1; omega)]; rfl
     rw [DJ,hc];cases b.emp with
     | true=>rfl
     | false=>
      have hb:=iL hm k;have run:=tM 10 m.ts b k (L5 hm).2.2.1 m.ts.length 0 10 (LQ m k) (LQ m k) (by omega) (by have:=(L5 hm).2.2.1; omega) (by omega) (by omega);rw [DJ];rcases nK hm hc with rfl | rfl | rfl <;> exact run
 ·simp [R.get] at h
theorem tK (g:LI→Int) (hg:∀ l,-2147483648≤g l∧g l≤2147483648) (k:Int):∀ (ts:LI) (s:Int) (n:Nat),(-2147483648*(n:Int)≤s∧s≤2147483648*(n:Int)) → -2147483648*((n+ts.length:Nat):Int)≤I5 g k ts s∧I5 g k ts s≤2147483648*((n+ts.length:Nat):Int)
 | [],s,n,h=>by
  rw [I5];simpa using h
 | t :: r,s,n,h=>by
  rw [I5];have h1:=hg (FE t)
  have:=tK g hg k r (cond (VD t==k) (s+g (FE t)) s) (n+1) (by cases (VD t==k) <;> simp only [BJ,A9] <;> omega)
  rw [AM];rw [show n+1+r.length=n+(r.length+1) by omega] at this;exact this
theorem k8 {m:Md} (k:Int) (b:Bx):(-34359738368≤EA m k b∧EA m k b≤34359738368)∧(-34359738368≤D8 m k b∧D8 m k b≤34359738368):=by
 unfold EA D8;cases hs:G4 m k b with
 | false=>simp only [A9]; omega
 | true=>
  unfold G4 at hs;simp only [AI] at hs;have hb:=iL hs.1 k;have h8:=(L5 hs.1).2.2.1;have h1:=tK (fun l=>IB l b) (fun l=>by have:=NB (lP l b).1; omega) k m.ts (LQ m k) 1 (by omega);have h2:=tK (fun l=>IA l b) (fun l=>by have:=NB (lP l b).2; omega) k m.ts (LQ m k) 1 (by omega);rw [DI,DI];omega
abbrev zjA (m:Md) (b:Bx) (k lo a:Int) (z:Bool) (i:Int):St:=⟨[(1,(.int .i64 k)),(3,(.ptr 3 0 0)),(5,(.ptr 5 0 0)),(6,(.int .i64 0)),(7,(.bool false)),(8,(.int .i64 lo)),(11,(.int .i64 a)),(12,(.bool z)),(33,(.int .i64 (Md.c m))),(34,(.int .i64 i))],[(3,(some (.box (Md.cs m)))),(5,(some (.box (Bx.cs b))))]⟩
theorem Cy (N:Nat) (m:Md) (b:Bx) (k:Int) (hc:0≤m.c∧m.c≤3) (lo:Int) (hlo : -34359738368≤lo∧lo≤34359738368):∀ (d i n:Nat) (a:Int) (z:Bool),((i+d:Nat):Int)=m.c→d < n →
  DY (QS N) (DK UC [1,1,1,1,0,1,0,0]) ⟨[1,3,5,6,7,8,11,12,33,34],[3,5],[]⟩ n (zjA m b k lo a z (i:Int)) (DQ 0 (DS (QS N) (DK UC [1,1,1,1,1]) (DT (QS N) none [(CF 6),(CF 7)] [[.z],[.bool]]))) =
   some (.tup [.int .i64 (RF m k lo b d (i:Int) a z),.bool true],[])
 | d,i,0,_,_,_,h=>absurd h (by omega)
 | 0,i,n+1,a,z,hd,_=>by
  rw [D4,Ld,AL (show ¬ (i:Int) < m.c by omega),DJ];exact Wp N m b _ _ _ _ _ _ _ _
 | d+1,i,n+1,a,z,hd,hn=>by
  have ei:AA AB ((i:Int)+1)=((i+1:Nat):Int):=HC (by omega);have hs:=(k8 (m:=m) (i:Int) b).2;have ew:AA AB (lo - D8 m (i:Int) b)=lo - D8 m (i:Int) b:=EH (by omega) (by omega);have ec:(i:Int)+1=((i+1:Nat):Int):=by omega
  rw [D4,Ld,ei,ew,AD (show (i:Int) < m.c by omega),DI,RF,ec];have ih:=fun a z=>Cy N m b k hc lo hlo d (i+1) n a z (by omega) (by omega)
  cases ((i:Int)==k) with
  | true=>exact ih a z
  | false=>
   rw [DJ,DJ];cases z with
   | false=>exact ih _ true
   | true=>
    rw [A3,DJ,vaz];cases decide (lo - D8 m (i:Int) b < a) with
    | true=>exact ih _ true
    | false=>exact ih a true
theorem zg2:DX PR B0 163 bC:=by
 refine D6 [(162,SB)] [(6,⟨[1,3,5,6,7,8,11,12,33,34],[3,5],[]⟩)] bC [[.z],[.bool]] Tryz.func163 zaf ⟨sQ,trivial⟩ ?_;intro vs r hwf h;unfold bC at h;split at h
 ·rename_i m k b;replace h:=J7 h;obtain ⟨m,rfl,h⟩:=h;replace h:=JS h;obtain ⟨b,rfl,h⟩:=h;rw [R.get_ok] at h;refine ⟨10,?_⟩;rw [← h];refine (zc9 10 m k b).trans ?_;unfold UU NG;cases hs:G4 m k b with
  | false=>rfl
  | true=>
   have hm:EW m=true:=by unfold G4 at hs; simp only [AI] at hs; exact hs.1
   have hc:=(L5 hm).2.1;rw [A3,DJ];cases h2:decide (m.c < 2) with
   | true=>rw [AL (show ¬ m.c≥2 by have:=A1 h2; omega)]; rfl
   | false=>
    rw [AD (show m.c≥2 by have:=BH h2; omega),DJ];exact Cy 10 m b k (by omega) (EA m k b) (k8 k b).1 m.c.toNat 0 10 0 false (by omega) (by omega)
 ·simp [R.get] at h
theorem zht:DX PR B0 165 cA:=by
 refine D6 [(162,SB),(198,cB),(199,cD),(197,PP)] [] cA [[.z],[.z],[.bool]] Tryz.func165 zaP ⟨sQ,zhu,zhw,lE,trivial⟩ ?_;intro vs r hwf h;unfold cA at h;split at h
 ·rename_i m q b;replace h:=J7 h;obtain ⟨m,rfl,h⟩:=h;replace h:=KK h;obtain ⟨q,rfl,h⟩:=h;replace h:=JS h;obtain ⟨b,rfl,h⟩:=h;rw [R.get_ok] at h;refine ⟨0,?_⟩;rw [← h];refine (zdE 0 m q b).trans ?_;have h1:=k8 (m:=m) q.c (JY q b);have h2:=k8 (m:=m) q.c (J4 q b);rw [EH (n:=EA m q.c (J4 q b) - D8 m q.c (JY q b)) (by omega) (by omega),EH (n:=D8 m q.c (J4 q b) - EA m q.c (JY q b)) (by omega) (by omega)];unfold SP SO K4;cases HA q <;> cases G4 m q.c (JY q b) <;> cases G4 m q.c (J4 q b) <;> rfl
 ·simp [R.get] at h
theorem zhy:DX PR B0 122 cF:=by
 refine D6 [(163,bC),(162,SB),(112,K2),(165,cA),(164,cC),(65,NV)] [] cF [[.bool]] Tryz.func122 za1 ⟨zg2,sQ,XY,zht,zhv,gF,trivial⟩ ?_;intro vs r hwf h;unfold cF at h;split at h
 ·rename_i m q b;replace h:=J7 h;obtain ⟨m,rfl,h⟩:=h;replace h:=KK h;obtain ⟨q,rfl,h⟩:=h;replace h:=JS h;obtain ⟨b,rfl,h⟩:=h;rw [R.get_ok] at h;refine ⟨0,?_⟩;rw [← h];refine (zdQ 0 m q b).trans ?_;unfold GQ;cases FG m q <;> cases b.emp <;> cases (q.k==1) <;> cases (q.k==2) <;> cases G4 m q.c b <;> cases decide (q.lo≤EA m q.c b) <;> cases NG m q.c b <;> cases P7 q b <;> cases q.fl <;> cases K4 m q b <;> rfl
 ·simp [R.get] at h
theorem zhz:DX PR B0 123 cG:=by
 refine D6 [(81,bG)] [] cG [[.z,.z,.z,.z],[.z]] Tryz.func123 za2 ⟨zg5,trivial⟩ ?_;intro vs r hwf h;unfold cG at h;split at h
 ·rename_i b;replace h:=JS h;obtain ⟨b,rfl,h⟩:=h;rw [R.get_ok] at h;exact ⟨0,(zdR 0 b).trans h⟩
 ·simp [R.get] at h
theorem zhC:DX PR B0 166 cK:=by
 refine D6 [] [] cK [[.z]] Tryz.func166 za5 trivial ?_;intro vs r hwf h;unfold cK at h;split at h
 ·rename_i q i;replace h:=KK h;obtain ⟨q,rfl,h⟩:=h;rw [R.get_ok] at h;refine ⟨0,?_⟩;rw [← h];refine (zdT 0 q i).trans ?_;unfold IS;cases decide (i≥0) <;> cases decide (i < 4) <;> cases (i==4) <;> cases (q.k==3) <;> rfl
 ·simp [R.get] at h
def nS (m:Md) (f:Int) (s:Sp):DO:=
 cond (decide (f < 0)) (some (.list false [.z] [],[]))
  (cond (EW m)
   (cond (BQ (iZ (JO m.ts f)).length (iZ (JO m.ts f)).length)
    (cond (B6 (iZ (K6 s.lo s.hi ((iZ (JO m.ts f)).map IV.toInt))).length (iZ (JO m.ts f)).length)
     (some (.list false [.z] (AS 0 (AK (iZ (K6 s.lo s.hi ((iZ (JO m.ts f)).map IV.toInt))).length (iZ (K6 s.lo s.hi ((iZ (JO m.ts f)).map IV.toInt))))),[])) none) none) none)
theorem Vf {m:Md} (hm:EW m=true) (f:Int) (s:Sp):nS m f s=some (.list false [.z] (iZ (cond (decide (f < 0)) [] (K6 s.lo s.hi (JO m.ts f)))),[]):=by
 unfold nS;cases decide (f < 0) with
 | true=>rfl
 | false=>
  rw [DJ,hm,DI,vbn,DI,oS,DJ];have hle:(iZ (K6 s.lo s.hi (JO m.ts f))).length≤(iZ (JO m.ts f)).length:=by
   rw [P3,P3];exact List.length_filter_le ..
  rw [C6 hle,DI,BY,BO]
theorem zgC (m:Md) (q:Qy) (b:Bx):∀ i:Nat,i < 5→DZ (uP 0) m9 [.tmp 8] [[.list false [.z]]] [m.V,q.V,b.V,.int .i64 (i:Int)]=nS m (IS q (i:Int)) (b.g i)
 | 0,_=>by kernel_rfl
 | 1,_=>by kernel_rfl
 | 2,_=>by kernel_rfl
 | 3,_=>by kernel_rfl
 | 4,_=>by kernel_rfl
 | i+5,h=>absurd h (by omega)
abbrev Bz:KP:=⟨[1,4,5,16,17,18],[500],[⟨(.tmp 5),500,3,false,[.z]⟩]⟩
abbrev Ca:KP:=⟨[1,4,5,16,17,18,23,24,25],[500],[⟨(.tmp 5),500,3,false,[.z]⟩]⟩
abbrev mG (f:Int) (ts:LI) (i:Int) (W:LI) (j:Int) (O:LI):St:=
 ⟨[(1,(.int .i64 f)),(4,.zs),(5,(.row 500 0 O.length)),(16,(.list true MO ts)),(17,(.int .i64 (ic ts.length))),(18,(.int .i64 i)),(23,(.list false [(.int .u64)] W)),(24,(.int .i64 (ic W.length))),(25,(.int .i64 j))],[(500,(some (.row true 3 false [.z] O)))]⟩
theorem lR (N:Nat) (f:Int) (ts:LI) (i:Int) (W:LI) (hW:W.length≤31) (K:Out→St→DO):∀ (m j n:Nat) (O:LI),j+m=W.length→m < n→O.length+m≤1000 →
  DY (NU N) (DK OT [1,1,1,0,1,0,0,1,1,0,0,1,1,0,0]) Ca n (mG f ts i W (j:Int) O) K=K (.exit 2) (mG f ts i W (ic W.length) (O++iZ ((W.drop j).flatMap (I6 f))))
 | m,j,0,_,_,h,_=>absurd h (by omega)
 | 0,j,n+1,O,hd,_,_=>by
  have hj:j=W.length:=by omega
  subst hj;rw [D4,Mb,I2 (AZ _),DJ,vaD];show K (.exit 2) _=K (.exit 2) (mG f ts i W (ic W.length) (O++[]));rw [DB]
 | m+1,j,n+1,O,hd,hn,hO=>by
  have hj:j < W.length:=by omega
  have ej:AA AB ((j:Int)+1)=((j+1:Nat):Int):=HC (by omega);rw [D4,Mb,ej,G8 hj,DI,H7,B4,DI,H6 hj,BE hj,vaq];unfold I6;cases (DL (W[j]).toInt).lf with
  | true=>
   rw [A3,DJ,BL,DJ,C4];exact lR N f ts i W hW K m (j+1) n O (by omega) (by omega) (by omega)
  | false=>
   rw [A7,DI,BC];cases ((DL (W[j]).toInt).f==f) with
   | false=>
    rw [DJ,DJ,C4];exact lR N f ts i W hW K m (j+1) n O (by omega) (by omega) (by omega)
   | true=>
    rw [DI,DI,AD (show (O.length+1)*8≤EE by unfold EE; omega),DI,BO];have ih:=lR N f ts i W hW K m (j+1) n (O++[IV.int (DL (W[j]).toInt).a]) (by omega) (by omega) (by rw [AT,C2]; omega);rw [vaI] at ih;unfold mG at ih ⊢;rw [AT,C2] at ih;exact ih
abbrev uM (f:Int) (ts:LI) (i:Int) (O:LI):St:=
 ⟨[(1,(.int .i64 f)),(4,.zs),(5,(.row 500 0 O.length)),(16,(.list true MO ts)),(17,(.int .i64 (ic ts.length))),(18,(.int .i64 i))],[(500,(some (.row true 3 false [.z] O)))]⟩
theorem tR (f:Int):∀ W:LI,(W.flatMap (I6 f)).length≤W.length
 | []=>AZ _
 | w :: r=>by
  rw [vaq,AT,AM]
  have:=tR f r
  unfold I6 at this ⊢;cases (!(DL w.toInt).lf&&(DL w.toInt).f==f) <;> simp only [BJ,A9,A6,C2] <;> omega
theorem Nl {d c:Int} {t:IV} (h:HM d c t=true):(0≤VD t∧VD t < c)∧GV (FE t) d=true:=by
 unfold HM at h;simp only [AI,B3,BW] at h;exact ⟨⟨by show 0≤(t.cell 0).toInt; omega,by show (t.cell 0).toInt < c; omega⟩,h.2.2⟩
theorem No {d c:Int} {ts:LI} (h:ts.all (HM d c)=true) {t:IV} (ht:t∈ts):(FE t).length≤31:=by
 have:=(Nl (CR.1 h t ht)).2
 exact (lU this).1.2
theorem Nf (N:Nat) (hN:40≤N) (f:Int) (ts:LI) (hts:ts.length≤8) (hW:∀ t∈ts,(FE t).length≤31) (K:Out→St→DO):∀ (m i n:Nat) (O:LI),i+m=ts.length→m < n→O.length≤31*i →
  DY (NU N) (DK OT [1,1,1,0,1,0,0]) Bz n (uM f ts (i:Int) O) K=K (.exit 0) (uM f ts (ic ts.length) (O++iZ (IM (ts.drop i) f)))
 | m,i,0,_,_,h,_=>absurd h (by omega)
 | 0,i,n+1,O,hd,_,_=>by
  have hi:i=ts.length:=by omega
  subst hi;rw [D4,Ma,I2 (AZ _),DJ,vaD];show K (.exit 0) _=K (.exit 0) (uM f ts (ic ts.length) (O++[]));rw [DB]
 | m+1,i,n+1,O,hd,hn,hO=>by
  have hi:i < ts.length:=by omega
  have ei:AA AB ((i:Int)+1)=((i+1:Nat):Int):=HC (by omega);have hw:=hW ts[i] (CX hi);have hl:=tR f (FE ts[i]);rw [D4,Ma,G8 hi,DI,H7,B4,DI,H6 hi,BE hi];refine (lR N f ts (i:Int) (FE ts[i]) hw _ (FE ts[i]).length 0 N O (by omega) (by omega) (by omega)).trans ?_;rw [Xz,ei,BY];have ih:=Nf N hN f ts hts hW K m (i+1) n (O++iZ ((FE ts[i]).flatMap (I6 f))) (by omega) (by omega) (by rw [AT,P3]; omega);have e:IM (ts[i] :: ts.drop (i+1)) f=(FE ts[i]).flatMap (I6 f)++IM (ts.drop (i+1)) f:=by unfold IM; rw [vaq]
  rw [e];have e2:iZ ((FE ts[i]).flatMap (I6 f)++IM (ts.drop (i+1)) f)=iZ ((FE ts[i]).flatMap (I6 f))++iZ (IM (ts.drop (i+1)) f):=by unfold iZ; rw [List.map_append]
  rw [e2,← vaI];exact ih
theorem zhK:DX PR B0 168 cP:=by
 refine Jo [(53,MH),(55,MI)] [(202,jQ),(201,jS)] [(5,Bz),(8,Ca)] cP [] Tryz.func168 zbc ⟨Z6,Z7,trivial⟩ ⟨zhF,zhH,trivial⟩ ?_;intro vs r hwf h;unfold cP at h;split at h
 ·rename_i m f;replace h:=J7 h;obtain ⟨m,rfl,h⟩:=h;cases hm:EW m with
  | false=>rw [hm] at h; simp [R.get] at h
  | true=>
   rw [hm,R.get_br,DI,R.get_ok] at h;refine ⟨40,?_⟩;rw [← h];refine (zd1 40 m f).trans ?_;have hmp:=L5 hm;rw [hm,A3,DJ];refine (Nf 40 (by omega) f m.ts hmp.2.2.1 (fun t ht=>No hmp.2.2.2.2 ht) _ m.ts.length 0 40 [] (by omega) (by have:=hmp.2.2.1; omega) (B5 _)).trans ?_;rw [BY,C4,Xy,vbn,DI,oS];have e1:(iZ (KY (IM m.ts f))).length=(iZ (IM m.ts f)).length:=by rw [P3,P3]; exact (TA _).length_eq
   have e2:(iZ (KA (KY (IM m.ts f)))).length≤(iZ (IM m.ts f)).length:=by rw [← e1,P3,P3]; exact iV _
   rw [e1,vbn,DI,DI,oS,C6 e2,DI,BO];rfl
 ·simp [R.get] at h
theorem zhB:DX PR B0 126 cJ:=by
 refine Jo [(166,cK),(168,cP)] [(167,jR)] [] cJ [[.list false [.z]]] Tryz.func126 za4 ⟨zhC,zhK,trivial⟩ ⟨zhG,trivial⟩ ?_;intro vs r hwf h;unfold cJ at h;split at h
 ·rename_i m q b i;replace h:=J7 h;obtain ⟨m,rfl,h⟩:=h;replace h:=KK h;obtain ⟨q,rfl,h⟩:=h;replace h:=JS h;obtain ⟨b,rfl,h⟩:=h;cases hg:(EW m&&H8 i) with
  | false=>rw [hg] at h; simp [R.get] at h
  | true=>
  rw [hg,R.get_br,DI,R.get_ok] at h;rw [AI] at hg;refine ⟨0,?_⟩;rw [← h];have key:∀ k:Nat,k < 5→DZ (uP 0) m9 [.tmp 8] [[.list false [.z]]] [m.V,q.V,b.V,.int .i64 (k:Int)]=some (.list false [.z] (iZ (FD m q b k)),[]):=fun k hk=>by
   rw [zgC m q b k hk,Vf hg.1];rfl
  rcases Bg hg.2 with rfl | rfl | rfl | rfl | rfl
  ·exact key 0 (by omega)
  ·exact key 1 (by omega)
  ·exact key 2 (by omega)
  ·exact key 3 (by omega)
  ·exact key 4 (by omega)
 ·simp [R.get] at h
abbrev zjB (m:Md) (q:Qy) (b:Bx) (i:Int):St:=⟨[(3,(.ptr 3 0 0)),(4,(.ptr 4 0 0)),(5,(.ptr 5 0 0)),(6,(.int .i64 0)),(7,(.int .i64 0)),(8,(.bool false)),(11,(.int .i64 i))],[(3,(some (.box (Md.cs m)))),(4,(some (.box (Qy.cs q)))),(5,(some (.box (Bx.cs b))))]⟩
theorem Vm {m:Md} (hm:EW m=true) (q:Qy) (b:Bx) (i:Nat):(FD m q b i).length≤248:=by
 have key:∀ (ts:LI) (f:Int),(∀ t∈ts,(FE t).length≤31)→(IM ts f).length≤31*ts.length:=by
  intro ts f
  induction ts with
  | nil=>intro _; exact AZ _
  | cons t r ih=>
   intro ht;have h1:=ih fun u hu=>ht u (AY _ hu)
   have h2:=tR f (FE t);have h3:=ht t (AO ..);unfold IM at h1 ⊢;rw [vaq,AT,AM];omega
 have hmp:=L5 hm;have h1:=key m.ts (IS q (i:Int)) fun t ht=>No hmp.2.2.2.2 ht
 unfold FD;cases decide (IS q (i:Int) < 0) with
 | true=>exact B5 _
 | false=>
  rw [DJ];have h2:(K6 (b.g i).lo (b.g i).hi (JO m.ts (IS q (i:Int)))).length≤(JO m.ts (IS q (i:Int))).length:=List.length_filter_le ..
  have h3:(JO m.ts (IS q (i:Int))).length≤(IM m.ts (IS q (i:Int))).length:=by
   unfold JO;exact C1 (iV _) (Nat.le_of_eq (TA _).length_eq)
  have:=hmp.2.2.1
  omega
theorem Ky (N:Nat) (m:Md) (hm:EW m=true) (q:Qy) (b:Bx):∀ (d i n:Nat),i+d=5→d < n →
  DY (OM N) (DK SL [1,0,1,0,0]) ⟨[3,4,5,6,7,8,11],[3,4,5],[]⟩ n (zjB m q b (i:Int)) (DQ 0 (DS (OM N) (DK SL [1,1]) (DT (OM N) none [(CF 6),(CF 7),(CF 8)] [[.z],[.z],[.bool]]))) =
   some (.tup [.int .i64 (J6 (LK m q b d i)),.int .i64 (I4 (LK m q b d i)),.bool (LK m q b d i).isSome],[])
 | d,i,0,_,h=>absurd h (by omega)
 | 0,i,n+1,hd,_=>by
  have hi:i=5:=by omega
  subst hi;rw [D4,Lx,AL (show ¬ ((5:Nat):Int) < 5 by omega),DJ];exact Xt N m q b _ _ _ _
 | d+1,i,n+1,hd,hn=>by
  have hp:H8 (i:Int)=true:=by unfold H8; rw [AD (show (0:Int)≤(i:Int) by omega),AD (show (i:Int) < 5 by omega)]; rfl
  have ei:AA AB ((i:Int)+1)=((i+1:Nat):Int):=HC (by omega);have hc:=Vm hm q b i;rw [D4,Lx,ei,AD (show (i:Int) < 5 by omega),DI,hm,hp,B4,DI,BF,LK,P3];generalize FD m q b i=cs at hc ⊢;have ed:decide (ic cs.length > 0)=decide (cs.length > 0):=by rw [va2]; simp
  rw [ed];cases hpos:decide (cs.length > 0) with
  | true=>
   have hpos:=A1 hpos;have ew:AA AB (Int.tdiv (AA AB (ic cs.length - 1)) 2)=(((cs.length - 1) / 2:Nat):Int):=by
    have e1:AA AB (ic cs.length - 1)=((cs.length - 1:Nat):Int):=by rw [EH (by simp only [ic]; omega) (by simp only [ic]; omega)]; simp only [ic]; omega
    have e2:Int.tdiv ((cs.length - 1:Nat):Int) 2=(((cs.length - 1) / 2:Nat):Int):=by
     rw [Int.tdiv_eq_ediv_of_nonneg (by omega)];omega
    rw [e1,e2,EH (by omega) (by omega)]
   have hlt:(cs.length - 1) / 2 < cs.length:=by omega
   rw [DI,ew,H7,AD (show (((cs.length - 1) / 2:Nat):Int) < ic cs.length by simp only [ic]; omega),B4,DI,DI,BF];have eg:IV.toInt (AH (iZ cs) ((cs.length - 1) / 2) default)=cs.getD ((cs.length - 1) / 2) 0:=by
    unfold iZ;rw [BV,BV,B9,A8 hlt];rfl
   rw [eg];exact Xu N m q b _ _ _ _
  | false=>
   rw [DJ,DJ];exact Ky N m hm q b d (i+1) n (by omega) (by omega)
theorem zhA:DX PR B0 124 cH:=by
 refine D6 [(126,cJ)] [(2,⟨[3,4,5,6,7,8,11],[3,4,5],[]⟩)] cH [[.z],[.z],[.bool]] Tryz.func124 za3 ⟨zhB,trivial⟩ ?_;intro vs r hwf h;unfold cH at h;split at h
 ·rename_i m q b;replace h:=J7 h;obtain ⟨m,rfl,h⟩:=h;replace h:=KK h;obtain ⟨q,rfl,h⟩:=h;replace h:=JS h;obtain ⟨b,rfl,h⟩:=h;cases hg:(EW m) with
  | false=>rw [hg] at h; simp [R.get] at h
  | true=>
  rw [hg,R.get_br,DI,R.get_ok] at h;refine ⟨10,?_⟩;rw [← h];exact (zdS 10 m q b).trans (Ky 10 m hg q b 5 0 10 rfl (by omega))
 ·simp [R.get] at h
open Go Go.Proofs
def Rn (N:Nat):Env:=D5 [(65,NV),(66,WF)] [] 26 N
theorem zei (N:Nat) (m:Md) (q:Qy):DZ (Rn N) xZ [.tmp 4] [[.list false []]] [(Md.V m),(Qy.V q)]=(cond (!FG m q) (some ((.bor (FZ m q [.zs,.zs,.i 4,.zs,.i 0,.i 0,.i 0,.i 0,.i 0,.i 0,.i 0])),[])) (some ((.bor (FZ m q [.vec 36 true E6 [(Bx.I (GJ q))],.zs,.i 0,.zs,.i 0,.i 0,.i 0,.i 0,.i 0,.i 0,.i 0])),[]))):=by kernel_rfl
def gY (N:Nat):Env:=D5 [(125,g9)] [] 22 N
theorem zem (N:Nat) (m:Md) (q:Qy) (left u00:LI) (k w0 w1 w2 w3 tw vs sp:Int):DZ (gY N) dV [.cell 2 55] [[.z,.list true [.bool,.z,.z],.z,.z,.z,.z,.z,.z]] [.bor (FZ m q [.vec 36 true E6 left,.vec 127 true EC u00,.i k,.zs,.i w0,.i w1,.i w2,.i w3,.i tw,.i vs,.i sp])]=(cond (k==0) (some ((.agg [.i 3,.list true EC [],.i w0,.i w1,.i w2,.i w3,.i tw,.i sp]),[(FZ m q [.vec 36 true E6 (AK (AF left) left),.vec 127 true EC (AK (AF u00) u00),.i k,.zs,.i w0,.i w1,.i w2,.i w3,.i tw,.i vs,.i sp])])) (some ((.agg [.i k,.list true EC [],.i w0,.i w1,.i w2,.i w3,.i tw,.i sp]),[(FZ m q [.vec 36 true E6 (AK (AF left) left),.vec 127 true EC (AK (AF u00) u00),.i k,.zs,.i w0,.i w1,.i w2,.i w3,.i tw,.i vs,.i sp])]))):=by kernel_rfl
theorem zen (N:Nat) (m:Md) (q:Qy) (left:LI) (k w0 w1 w2 w3 tw vs sp:Int):DZ (gY N) dV [.cell 2 55] [[.z,.list true [.bool,.z,.z],.z,.z,.z,.z,.z,.z]] [.bor (FZ m q [.vec 36 true E6 left,.zs,.i k,.zs,.i w0,.i w1,.i w2,.i w3,.i tw,.i vs,.i sp])]=(cond (k==0) (some ((.agg [.i 3,.list true EC [],.i w0,.i w1,.i w2,.i w3,.i tw,.i sp]),[(FZ m q [.vec 36 true E6 (AK (AF left) left),.zs,.i k,.zs,.i w0,.i w1,.i w2,.i w3,.i tw,.i vs,.i sp])])) (some ((.agg [.i k,.list true EC [],.i w0,.i w1,.i w2,.i w3,.i tw,.i sp]),[(FZ m q [.vec 36 true E6 (AK (AF left) left),.zs,.i k,.zs,.i w0,.i w1,.i w2,.i w3,.i tw,.i vs,.i sp])]))):=by kernel_rfl
theorem zeo (N:Nat) (m:Md) (q:Qy) (left u00 vp:LI) (k w0 w1 w2 w3 tw vs sp:Int):DZ (gY N) dV [.cell 2 55] [[.z,.list true [.bool,.z,.z],.z,.z,.z,.z,.z,.z]] [.bor (FZ m q [.vec 36 true E6 left,.list true EC u00,.i k,.list true EC vp,.i w0,.i w1,.i w2,.i w3,.i tw,.i vs,.i sp])]=(cond (k==0) (cond (B6 (AF vp) 100000) (some ((.agg [.i 3,.list true EC (AS 0 (AK (AF vp) vp)),.i w0,.i w1,.i w2,.i w3,.i tw,.i sp]),[(FZ m q [.vec 36 true E6 (AK (AF left) left),.list true EC u00,.i k,.list true EC vp,.i w0,.i w1,.i w2,.i w3,.i tw,.i vs,.i sp])])) none) (cond (B6 (AF vp) 100000) (some ((.agg [.i k,.list true EC (AS 0 (AK (AF vp) vp)),.i w0,.i w1,.i w2,.i w3,.i tw,.i sp]),[(FZ m q [.vec 36 true E6 (AK (AF left) left),.list true EC u00,.i k,.list true EC vp,.i w0,.i w1,.i w2,.i w3,.i tw,.i vs,.i sp])])) none)):=by kernel_rfl
theorem zep (N:Nat) (m:Md) (q:Qy) (k w0 w1 w2 w3 tw vs sp:Int):DZ (gY N) dV [.cell 2 55] [[.z,.list true [.bool,.z,.z],.z,.z,.z,.z,.z,.z]] [.bor (FZ m q [.zs,.zs,.i k,.zs,.i w0,.i w1,.i w2,.i w3,.i tw,.i vs,.i sp])]=(cond (k==0) (some ((.agg [.i 3,.list true EC [],.i w0,.i w1,.i w2,.i w3,.i tw,.i sp]),[(FZ m q [.zs,.zs,.i k,.zs,.i w0,.i w1,.i w2,.i w3,.i tw,.i vs,.i sp])])) (some ((.agg [.i k,.list true EC [],.i w0,.i w1,.i w2,.i w3,.i tw,.i sp]),[(FZ m q [.zs,.zs,.i k,.zs,.i w0,.i w1,.i w2,.i w3,.i tw,.i vs,.i sp])]))):=by kernel_rfl
def gX (N:Nat):Env:=D5 [(111,PO),(122,cF),(123,cG),(124,cH),(70,WE)] [] 165 N
theorem Dm (N:Nat) (m:Md) (q:Qy) (left u00:LI) (k w0 w1 w2 w3 tw vs sp:Int):DZ (gX N) dU [.tmp 2] [[.bool]] [.bor (FZ m q [.vec 36 true E6 left,.vec 127 true EC u00,.i k,.zs,.i w0,.i w1,.i w2,.i w3,.i tw,.i vs,.i sp])]=(cond (k != 0) (some ((.bool false),[(FZ m q [.vec 36 true E6 (AK (AF left) left),.vec 127 true EC (AK (AF u00) u00),.i k,.zs,.i w0,.i w1,.i w2,.i w3,.i tw,.i vs,.i sp])])) (cond (decide (sp≥Qy.bu q)) (some ((.bool false),[(FZ m q [.vec 36 true E6 (AK (AF left) left),.vec 127 true EC (AK (AF u00) u00),.i k,.zs,.i w0,.i w1,.i w2,.i w3,.i tw,.i vs,.i sp])])) (cond (decide (0≤AA AB (ic (AF left - 0) - 1))&&decide (AA AB (ic (AF left - 0) - 1) < ic (AF left - 0))) (cond (decide (0≤AA AB (ic (AF left - 0) - 1))&&decide (AA AB (ic (AF left - 0) - 1)≤ic (AF left - 0))) (cond (GQ m q (D7 (AH left (0+AE (AA AB (ic (AF left - 0) - 1))) default))) (cond (decide ((AF u00+1)*24≤EE)) (cond (ic (0+AE (AA AB (ic (AF left - 0) - 1)) - 0)==0) (some ((.bool true),[(FZ m q [.vec 36 true E6 (AK (0+AE (AA AB (ic (AF left - 0) - 1))) left),.list true EC (AS 0 (AK (AF u00+1) (AK (AF u00) u00++[IV.agg [IV.bool true,IV.int 0,IV.int 0]]))),.i 1,.list true EC (AS 0 (AK (AF u00+1) (AK (AF u00) u00++[IV.agg [IV.bool true,IV.int 0,IV.int 0]]))),.i 0,.i 0,.i 0,.i 0,.i 0,.i 0,.i (AA AB (sp+1))])])) (some ((.bool true),[(FZ m q [.vec 36 true E6 (AK (0+AE (AA AB (ic (AF left - 0) - 1))) left),.vec 127 true EC (AK (AF u00+1) (AK (AF u00) u00++[IV.agg [IV.bool true,IV.int 0,IV.int 0]])),.i k,.zs,.i w0,.i w1,.i w2,.i w3,.i tw,.i vs,.i (AA AB (sp+1))])]))) none) (cond (HJ m q (Bx.low (D7 (AH left (0+AE (AA AB (ic (AF left - 0) - 1))) default))) (Sp.hi (Bx.s4 (D7 (AH left (0+AE (AA AB (ic (AF left - 0) - 1))) default))))) (some ((.bool true),[(FZ m q [.vec 36 true E6 (AK (0+AE (AA AB (ic (AF left - 0) - 1))) left),.vec 127 true EC (AK (AF u00) u00),.i 2,.zs,.i (Pt.p0 (Bx.low (D7 (AH left (0+AE (AA AB (ic (AF left - 0) - 1))) default)))),.i (Pt.p1 (Bx.low (D7 (AH left (0+AE (AA AB (ic (AF left - 0) - 1))) default)))),.i (Pt.p2 (Bx.low (D7 (AH left (0+AE (AA AB (ic (AF left - 0) - 1))) default)))),.i (Pt.p3 (Bx.low (D7 (AH left (0+AE (AA AB (ic (AF left - 0) - 1))) default)))),.i (Sp.hi (Bx.s4 (D7 (AH left (0+AE (AA AB (ic (AF left - 0) - 1))) default)))),.i 0,.i (AA AB (sp+1))])])) (cond (EW m) (cond (!Option.isSome (EY m q (D7 (AH left (0+AE (AA AB (ic (AF left - 0) - 1))) default)))) (some ((.bool true),[(FZ m q [.vec 36 true E6 (AK (0+AE (AA AB (ic (AF left - 0) - 1))) left),.vec 127 true EC (AK (AF u00) u00),.i 3,.zs,.i 0,.i 0,.i 0,.i 0,.i 0,.i 0,.i (AA AB (sp+1))])])) (cond (H8 (J6 (EY m q (D7 (AH left (0+AE (AA AB (ic (AF left - 0) - 1))) default))))) (cond (decide ((0+AE (AA AB (ic (AF left - 0) - 1))+2)*80≤EE)) (cond (decide ((AF u00+1)*24≤EE)) (some ((.bool true),[(FZ m q [.vec 36 true E6 (AK (0+AE (AA AB (ic (AF left - 0) - 1))+2) (AK (0+AE (AA AB (ic (AF left - 0) - 1))) left++[(Bx.I (Bx.cutH (D7 (AH left (0+AE (AA AB (ic (AF left - 0) - 1))) default)) (J6 (EY m q (D7 (AH left (0+AE (AA AB (ic (AF left - 0) - 1))) default)))) (I4 (EY m q (D7 (AH left (0+AE (AA AB (ic (AF left - 0) - 1))) default)))))),(Bx.I (Bx.cutL (D7 (AH left (0+AE (AA AB (ic (AF left - 0) - 1))) default)) (J6 (EY m q (D7 (AH left (0+AE (AA AB (ic (AF left - 0) - 1))) default)))) (I4 (EY m q (D7 (AH left (0+AE (AA AB (ic (AF left - 0) - 1))) default))))))])),.vec 127 true EC (AK (AF u00+1) (AK (AF u00) u00++[IV.agg [IV.bool false,IV.int (J6 (EY m q (D7 (AH left (0+AE (AA AB (ic (AF left - 0) - 1))) default)))),IV.int (I4 (EY m q (D7 (AH left (0+AE (AA AB (ic (AF left - 0) - 1))) default))))]])),.i k,.zs,.i w0,.i w1,.i w2,.i w3,.i tw,.i vs,.i (AA AB (sp+1))])])) none) none) none)) none))) none) none))):=by kernel_rfl
theorem Dp (N:Nat) (m:Md) (q:Qy) (left:LI) (k w0 w1 w2 w3 tw vs sp:Int):DZ (gX N) dU [.tmp 2] [[.bool]] [.bor (FZ m q [.vec 36 true E6 left,.zs,.i k,.zs,.i w0,.i w1,.i w2,.i w3,.i tw,.i vs,.i sp])]=(cond (k != 0) (some ((.bool false),[(FZ m q [.vec 36 true E6 (AK (AF left) left),.zs,.i k,.zs,.i w0,.i w1,.i w2,.i w3,.i tw,.i vs,.i sp])])) (cond (decide (sp≥Qy.bu q)) (some ((.bool false),[(FZ m q [.vec 36 true E6 (AK (AF left) left),.zs,.i k,.zs,.i w0,.i w1,.i w2,.i w3,.i tw,.i vs,.i sp])])) (cond (decide (0≤AA AB (ic (AF left - 0) - 1))&&decide (AA AB (ic (AF left - 0) - 1) < ic (AF left - 0))) (cond (decide (0≤AA AB (ic (AF left - 0) - 1))&&decide (AA AB (ic (AF left - 0) - 1)≤ic (AF left - 0))) (cond (GQ m q (D7 (AH left (0+AE (AA AB (ic (AF left - 0) - 1))) default))) (cond (ic (0+AE (AA AB (ic (AF left - 0) - 1)) - 0)==0) (some ((.bool true),[(FZ m q [.vec 36 true E6 (AK (0+AE (AA AB (ic (AF left - 0) - 1))) left),.list true EC [(IV.agg [IV.bool true,IV.int 0,IV.int 0])],.i 1,.list true EC [(IV.agg [IV.bool true,IV.int 0,IV.int 0])],.i 0,.i 0,.i 0,.i 0,.i 0,.i 0,.i (AA AB (sp+1))])])) (some ((.bool true),[(FZ m q [.vec 36 true E6 (AK (0+AE (AA AB (ic (AF left - 0) - 1))) left),.vec 127 true EC [(IV.agg [IV.bool true,IV.int 0,IV.int 0])],.i k,.zs,.i w0,.i w1,.i w2,.i w3,.i tw,.i vs,.i (AA AB (sp+1))])]))) (cond (HJ m q (Bx.low (D7 (AH left (0+AE (AA AB (ic (AF left - 0) - 1))) default))) (Sp.hi (Bx.s4 (D7 (AH left (0+AE (AA AB (ic (AF left - 0) - 1))) default))))) (some ((.bool true),[(FZ m q [.vec 36 true E6 (AK (0+AE (AA AB (ic (AF left - 0) - 1))) left),.zs,.i 2,.zs,.i (Pt.p0 (Bx.low (D7 (AH left (0+AE (AA AB (ic (AF left - 0) - 1))) default)))),.i (Pt.p1 (Bx.low (D7 (AH left (0+AE (AA AB (ic (AF left - 0) - 1))) default)))),.i (Pt.p2 (Bx.low (D7 (AH left (0+AE (AA AB (ic (AF left - 0) - 1))) default)))),.i (Pt.p3 (Bx.low (D7 (AH left (0+AE (AA AB (ic (AF left - 0) - 1))) default)))),.i (Sp.hi (Bx.s4 (D7 (AH left (0+AE (AA AB (ic (AF left - 0) - 1))) default)))),.i 0,.i (AA AB (sp+1))])])) (cond (EW m) (cond (!Option.isSome (EY m q (D7 (AH left (0+AE (AA AB (ic (AF left - 0) - 1))) default)))) (some ((.bool true),[(FZ m q [.vec 36 true E6 (AK (0+AE (AA AB (ic (AF left - 0) - 1))) left),.zs,.i 3,.zs,.i 0,.i 0,.i 0,.i 0,.i 0,.i 0,.i (AA AB (sp+1))])])) (cond (H8 (J6 (EY m q (D7 (AH left (0+AE (AA AB (ic (AF left - 0) - 1))) default))))) (cond (decide ((0+AE (AA AB (ic (AF left - 0) - 1))+2)*80≤EE)) (some ((.bool true),[(FZ m q [.vec 36 true E6 (AK (0+AE (AA AB (ic (AF left - 0) - 1))+2) (AK (0+AE (AA AB (ic (AF left - 0) - 1))) left++[(Bx.I (Bx.cutH (D7 (AH left (0+AE (AA AB (ic (AF left - 0) - 1))) default)) (J6 (EY m q (D7 (AH left (0+AE (AA AB (ic (AF left - 0) - 1))) default)))) (I4 (EY m q (D7 (AH left (0+AE (AA AB (ic (AF left - 0) - 1))) default)))))),(Bx.I (Bx.cutL (D7 (AH left (0+AE (AA AB (ic (AF left - 0) - 1))) default)) (J6 (EY m q (D7 (AH left (0+AE (AA AB (ic (AF left - 0) - 1))) default)))) (I4 (EY m q (D7 (AH left (0+AE (AA AB (ic (AF left - 0) - 1))) default))))))])),.vec 127 true EC [(IV.agg [IV.bool false,IV.int (J6 (EY m q (D7 (AH left (0+AE (AA AB (ic (AF left - 0) - 1))) default)))),IV.int (I4 (EY m q (D7 (AH left (0+AE (AA AB (ic (AF left - 0) - 1))) default))))])],.i k,.zs,.i w0,.i w1,.i w2,.i w3,.i tw,.i vs,.i (AA AB (sp+1))])])) none) none)) none))) none) none))):=by kernel_rfl
theorem zek (N:Nat) (m:Md) (q:Qy) (left u00 vp:LI) (k w0 w1 w2 w3 tw vs sp:Int):DZ (gX N) dU [.tmp 2] [[.bool]] [.bor (FZ m q [.vec 36 true E6 left,.list true EC u00,.i k,.list true EC vp,.i w0,.i w1,.i w2,.i w3,.i tw,.i vs,.i sp])]=(cond (k != 0) (some ((.bool false),[(FZ m q [.vec 36 true E6 (AK (AF left) left),.list true EC u00,.i k,.list true EC vp,.i w0,.i w1,.i w2,.i w3,.i tw,.i vs,.i sp])])) (cond (decide (sp≥Qy.bu q)) (some ((.bool false),[(FZ m q [.vec 36 true E6 (AK (AF left) left),.list true EC u00,.i k,.list true EC vp,.i w0,.i w1,.i w2,.i w3,.i tw,.i vs,.i sp])])) (cond (decide (0≤AA AB (ic (AF left - 0) - 1))&&decide (AA AB (ic (AF left - 0) - 1) < ic (AF left - 0))) (cond (decide (0≤AA AB (ic (AF left - 0) - 1))&&decide (AA AB (ic (AF left - 0) - 1)≤ic (AF left - 0))) (cond (GQ m q (D7 (AH left (0+AE (AA AB (ic (AF left - 0) - 1))) default))) none (cond (HJ m q (Bx.low (D7 (AH left (0+AE (AA AB (ic (AF left - 0) - 1))) default))) (Sp.hi (Bx.s4 (D7 (AH left (0+AE (AA AB (ic (AF left - 0) - 1))) default))))) (some ((.bool true),[(FZ m q [.vec 36 true E6 (AK (0+AE (AA AB (ic (AF left - 0) - 1))) left),.list true EC u00,.i 2,.zs,.i (Pt.p0 (Bx.low (D7 (AH left (0+AE (AA AB (ic (AF left - 0) - 1))) default)))),.i (Pt.p1 (Bx.low (D7 (AH left (0+AE (AA AB (ic (AF left - 0) - 1))) default)))),.i (Pt.p2 (Bx.low (D7 (AH left (0+AE (AA AB (ic (AF left - 0) - 1))) default)))),.i (Pt.p3 (Bx.low (D7 (AH left (0+AE (AA AB (ic (AF left - 0) - 1))) default)))),.i (Sp.hi (Bx.s4 (D7 (AH left (0+AE (AA AB (ic (AF left - 0) - 1))) default)))),.i 0,.i (AA AB (sp+1))])])) (cond (EW m) (cond (!Option.isSome (EY m q (D7 (AH left (0+AE (AA AB (ic (AF left - 0) - 1))) default)))) (some ((.bool true),[(FZ m q [.vec 36 true E6 (AK (0+AE (AA AB (ic (AF left - 0) - 1))) left),.list true EC u00,.i 3,.zs,.i 0,.i 0,.i 0,.i 0,.i 0,.i 0,.i (AA AB (sp+1))])])) (cond (H8 (J6 (EY m q (D7 (AH left (0+AE (AA AB (ic (AF left - 0) - 1))) default))))) (cond (decide ((0+AE (AA AB (ic (AF left - 0) - 1))+2)*80≤EE)) none none) none)) none))) none) none))):=by kernel_rfl
theorem zel (N:Nat) (m:Md) (q:Qy) (k w0 w1 w2 w3 tw vs sp:Int):DZ (gX N) dU [.tmp 2] [[.bool]] [.bor (FZ m q [.zs,.zs,.i k,.zs,.i w0,.i w1,.i w2,.i w3,.i tw,.i vs,.i sp])]=(cond (k != 0) (some ((.bool false),[(FZ m q [.zs,.zs,.i k,.zs,.i w0,.i w1,.i w2,.i w3,.i tw,.i vs,.i sp])])) (cond (decide (sp≥Qy.bu q)) (some ((.bool false),[(FZ m q [.zs,.zs,.i k,.zs,.i w0,.i w1,.i w2,.i w3,.i tw,.i vs,.i sp])])) none)):=by kernel_rfl
open Go Go.Proofs Go.RowKit Go.Sort Go.Lib
theorem ziy:(PR.info? 127).map (fun i=>(i.zero,i.size,i.bytes))=some (some (.agg #[.bool false,.int .i64 0,.int .i64 0]),3,24):=by kernel_rfl
set_option maxHeartbeats 4000000 in
theorem Ur (b:Addr) (n c:Nat) (news:List Value) (w:World) (hl:news.length=n*3) (hn:n≤maxLen) (hbig:n*24≤140737488355328)
  (hc:∀ j u,news[j]?=some u→w.cell? (b.add j)=some u) (h1:∀ u∈news,u.oneCell'=true) :
  Calls Tryz.prog 125 #[.slice (some b) n c] w fun e w'=>∃ v',e = .returned v'∧w'.ownsRow w.heap.size 127 3 v' n news∧Below w.heap.size w w':=by
 obtain ⟨i0,hi,hz0,hz1,hz2⟩:∃ i,PR.info? 127=some i∧i.zero=some (.agg #[.bool false,.int .i64 0,.int .i64 0])∧i.size=3∧i.bytes=24:=by
  have h:=ziy;rw [Option.map_eq_some_iff] at h;obtain ⟨i,hi,he⟩:=h;simp only [Prod.mk.injEq] at he;exact ⟨i,hi,he⟩
 have qS:∀ (w:World) (a:Option Addr) (n c n' c':Nat),(binOp .eql 51 (.slice a n c) (.slice none n' c')).run Tryz.prog w = .ok (.bool a.isNone) w:=fun w a n c n' c'=>Lib.run_eql_slice_nil w _ _ a n c n' c' Tryz.underlying51
 have A:Aside (∀ j u,news[j]?=some u→w.cell? (b.add j)=some u):=hc;clear hc
 go_enter Tryz.func125,Tryz.ntmps125
 go_wp2_with (at_builtin; refine wpList_append_own _ rfl _ _ 51 rfl w.heap.size 127 i0 (.agg #[.bool false,.int .i64 0,.int .i64 0]) 3 24 Tryz.underlying51 hi hz0 hz1 hz2 rfl (by decide) _ _ _ rfl (World.ownsRow_made w #[] 0 (Nat.le_refl _) (Nat.zero_le _) (by simp)) b n c news rfl ?qc1 ?qc2 ?qc3 ?qc4 ?qc5 ?qc6 ?_)
 case qc1=>exact hl
 case qc2=>
  intro j u hj;exact Lib.cell?_alloc_some _ (A.out j u hj)
 case qc3=>exact h1
 case qc4=>rw [Nat.zero_add]; exact hn
 case qc5=>rw [Nat.zero_add]; exact hbig
 case qc6=>simp
 intro v' w1 hown hgrow hnil
 go_wp2
 go_ret
 refine ⟨v',rfl,by simpa using hown,?_⟩;exact ((Below.refl _ w).alloc (Nat.le_refl _) _).grown hgrow (by simp) (by intro k hk; simp [Value.ownBlock] at hk; omega)
set_option maxHeartbeats 1000000 in
theorem Us (n c:Nat) (w:World):Calls Tryz.prog 125 #[.slice none n c] w fun e w'=>e = .returned (.slice none 0 0)∧w'=w:=by
 have qS:∀ (w:World) (a:Option Addr) (n c n' c':Nat),(binOp .eql 51 (.slice a n c) (.slice none n' c')).run Tryz.prog w = .ok (.bool a.isNone) w:=fun w a n c n' c'=>Lib.run_eql_slice_nil w _ _ a n c n' c' Tryz.underlying51
 go_enter Tryz.func125,Tryz.ntmps125
 go_wp2
 go_ret
 exact ⟨rfl,rfl⟩
def PE (y:IV):Nat→Value
 | 0=>.bool (GS y)
 | 1=>.int .i64 (E9 y)
 | _=>.int .i64 (FP y)
def QF (l:LI):List Value:=l.flatMap fun y=>[PE y 0,PE y 1,PE y 2]
theorem tB:∀ l:LI,(QF l).length=l.length*3
 | []=>rfl
 | y :: r=>by
  have:=tB r
  unfold QF at this ⊢;rw [vaq,AT,this,AM];simp;omega
theorem lI:∀ (l:LI) (j:Nat) (u:Value),(QF l)[j]?=some u→∃ i y k,j=i*3+k∧k < 3∧l[i]?=some y∧u=PE y k
 | [],j,u,h=>by simp [QF] at h
 | y :: r,j,u,h=>by
  have e:QF (y :: r)=[PE y 0,PE y 1,PE y 2]++QF r:=by unfold QF; rw [vaq]
  rw [e] at h
  match j,h with
  | 0,h=>exact ⟨0,y,0,rfl,by omega,rfl,by simpa using h.symm⟩
  | 1,h=>exact ⟨0,y,1,rfl,by omega,rfl,by simpa using h.symm⟩
  | 2,h=>exact ⟨0,y,2,rfl,by omega,rfl,by simpa using h.symm⟩
  | j+3,h=>
   obtain ⟨i,z,k,rfl,hk,hi,hu⟩:=lI r j u (by simpa using h);exact ⟨i+1,z,k,by omega,hk,by simpa using hi,hu⟩
theorem zin (l:LI) (i:Nat) (y:IV) (hy:l[i]?=some y) (k:Nat) (hk:k < 3):(QF l)[i*3+k]?=some (PE y k):=by
 have hi:i < l.length:=(BR.1 hy).1;have hlt:i*3+k < (QF l).length:=by rw [tB]; omega
 obtain ⟨i',y',k',h1,h2,h3,h4⟩:=lI l (i*3+k) _ (A8 hlt);obtain rfl:i'=i:=by omega
 obtain rfl:k'=k:=by omega
 rw [hy] at h3;simp only [AC] at h3;subst h3;rw [A8 hlt,h4]
theorem zhZ:DX PR B0 125 g9:=by
 intro w X γ vs xs r out hsp hg hx hR hV;unfold g9 at hsp;simp only at hsp;split at hsp
 ·rename_i l;cases hc:B6 l.length 100000 with
  | false=>rw [hc] at hsp; simp [R.get] at hsp
  | true=>
   rw [hc] at hsp;have hc:=AN hc;simp only [R.get,AC,AV] at hsp;obtain ⟨rfl,rfl⟩:=hsp;obtain ⟨x0,rfl⟩:∃ x0,xs=[x0]:=by
    have:=hV.length
    simp at this
    match xs,this with
    | [a],_=>exact ⟨a,rfl⟩
   simp only [A0,CA,EQ,VRels,VRel,B7] at hV;simp only [Kd.Rel,IV.toList] at hV;obtain ⟨p,c,rfl,hc1,hc2,hc3,hcell⟩:=hV;have key:∀ i y,l[i]?=some y→∃ b o,p=some ⟨b,o,none⟩∧(∀ k,k < 3→w.cell? ⟨b,o+i*3+k,none⟩=some (PE y k))∧(AB.min≤E9 y∧E9 y≤AB.max)∧(AB.min≤FP y∧FP y≤AB.max):=fun i y hy=>by
    obtain ⟨b,o,rfl,_,_,hr⟩:=hcell i y hy;simp only [Kd.RelAll,B7,AM,A6,BI,C9] at hr;obtain ⟨⟨u0,a0,b0⟩,⟨u1,a1,b1⟩,⟨u2,a2,b2⟩⟩:=hr;simp only [Kd.Rel,F6] at b0 b1 b2;refine ⟨b,o,rfl,fun k hk=>?_,b1.2,b2.2⟩
    match k,hk with
    | 0,_=>rw [b0] at a0; exact a0
    | 1,_=>rw [b1.1] at a1; exact a1
    | 2,_=>rw [b2.1] at a2; exact a2
   have hel:∀ (w':World) (O:Nat→Prop) i y,l[i]?=some y→Kd.RelAll w' O EC (F6 true y) 0 (fun j u=>(QF l)[i*EC.length+j]?=some u):=fun w' O i y hy=>by
    obtain ⟨_,_,_,_,k1,k2⟩:=key i y hy;simp only [Kd.RelAll,AM,A6,BI,C9,B7];have g:=zin l i y hy;refine ⟨⟨_,g 0 (by omega),?_⟩,⟨_,g 1 (by omega),?_⟩,⟨_,g 2 (by omega),?_⟩⟩
    ·simp only [Kd.Rel,F6,PE,GS]
    ·simp only [Kd.Rel,F6,PE,E9]; exact ⟨trivial,k1⟩
    ·simp only [Kd.Rel,F6,PE,FP]; exact ⟨trivial,k2⟩
   refine Jm hR rfl (by decide) (by decide) hc3 (Does.of_calls Tryz.func125 (by kernel_rfl) (by kernel_rfl) ?_);cases p with
   | none=>
    have h0:l=[]:=by
     cases l with
     | nil=>rfl
     | cons y r=>
      obtain ⟨b,o,hp,_⟩:=key 0 y rfl;cases hp
    subst h0;refine (Us _ c w).mono ?_;rintro e w' ⟨rfl,rfl⟩;exact ⟨_,[],rfl,Keep.refl _ _,⟨rfl,.inl ⟨rfl,rfl⟩⟩,hel _⟩
   | some a=>
    refine (Ur a l.length c (QF l) w (tB l) (by unfold maxLen; omega) (by omega) (fun j u hj=>?_) (fun u hu=>?_)).mono ?_
    ·obtain ⟨i,y,k,rfl,hk,hi,rfl⟩:=lI l j u hj;obtain ⟨b,o,hp,hu,_⟩:=key i y hi;simp only [AC] at hp;subst hp;rw [Addr.add_lit,← vaV];exact hu k hk
    ·obtain ⟨j,hj⟩:=List.getElem?_of_mem hu;obtain ⟨i,y,k,_,hk,_,rfl⟩:=lI l j u hj
     match k,hk with
     | 0,_=>rfl
     | 1,_=>rfl
     | 2,_=>rfl
    ·rintro e w' ⟨v',rfl,hown,hw⟩;exact ⟨v',_,rfl,Keep.below hw,hown,hel _⟩
 ·simp [R.get] at hsp
open Go Go.Proofs
set_option maxRecDepth 100000
theorem zcI {l:List V} {m:Md} (h:mdOf? l=some m):l=m.cs:=by
 unfold mdOf? at h;split at h
 ·simp only [AC] at h;subst h;rfl
 ·cases h
theorem zfZ {l:List V} {q:Qy} (h:qyOf? l=some q):l=q.cs:=by
 unfold qyOf? at h;split at h
 ·simp only [AC] at h;subst h;rfl
 ·cases h
theorem zgK {l r:List V} {m:Md} {q:Qy} (h:seOf? l=some (m,q,r)):l=FZ m q r:=by
 unfold seOf? at h;split at h
 ·rename_i m' q' h1 h2;simp only [AC,AV] at h;obtain ⟨rfl,rfl,rfl⟩:=h;unfold FZ;rw [← zcI h1,← zfZ h2,List.take_append_drop,List.take_append_drop]
 ·cases h
def Kz (t:Nat) (s:Sr):Prop:=t≤3∧(t=3→s.left=[])∧(t=1∨t=3→s.proof=[])∧(t≠2→s.v.proof=[])
theorem zim {r:List V} {t:Nat} {s:Sr} (h:srT? r=some (t,s)) (m:Md) (q:Qy):FZ m q r=PD t m q s∧Kz t s:=by
 unfold srT? at h;split at h
 case h_5=>cases h
 all_goals
  simp only [AC,AV] at h;obtain ⟨rfl,rfl⟩:=h;refine ⟨rfl,by omega,?_,?_,?_⟩ <;> intro h <;> first | rfl | (exfalso; omega)
theorem Ou {v:V} {k:Nat→Md→Qy→Sr→R} {z:V × List (List V)} (h:(mB v k).get=some z):∃ t m q s,v = .bor (PD t m q s)∧Kz t s∧(k t m q s).get=some z:=by
 unfold mB at h;split at h
 ·rename_i l;split at h
  ·rename_i m q r hl;split at h
   ·rename_i t s hr;obtain ⟨e,hw⟩:=zim hr m q;exact ⟨t,m,q,s,by rw [zgK hl,e],hw,h⟩
   ·simp [R.get] at h
  ·simp [R.get] at h
 ·simp [R.get] at h
theorem zhW:DX PR B0 74 c8:=by
 refine D6 [(65,NV),(66,WF)] [] c8 [[.list false []]] Tryz.func74 zbu ⟨gF,Js,trivial⟩ ?_;intro vs r hwf h;unfold c8 at h;split at h
 ·rename_i m q;replace h:=J7 h;obtain ⟨m,rfl,h⟩:=h;replace h:=KK h;obtain ⟨q,rfl,h⟩:=h;refine ⟨0,(zei 0 m q).trans ?_⟩;cases hr:FG m q with
  | true=>rw [hr,R.get_br,DI,R.get_ok] at h; exact h
  | false=>rw [hr,R.get_br,DJ,R.get_ok] at h; exact h
 ·simp [R.get] at h
theorem zhY:DX PR B0 76 dC:=by
 refine D6 [(125,g9)] [] dC [[.z,.list true [.bool,.z,.z],.z,.z,.z,.z,.z,.z]] Tryz.func76 zbx ⟨zhZ,trivial⟩ ?_;intro vs r hwf h;unfold dC at h;split at h
 ·replace h:=Ou h;obtain ⟨t,m,q,s,rfl,hw,h⟩:=h;cases hg:B6 s.v.proof.length 100000 with
  | false=>rw [hg] at h; simp [R.get] at h
  | true=>
   rw [hg,R.get_br,DI,R.get_ok] at h;refine ⟨0,?_⟩;rw [← h];obtain ⟨left,proof,⟨k,vp,a,b,c,d,tw,vs⟩,sp⟩:=s;replace hg:B6 vp.length 100000=true:=hg
   match t,hw with
   | 0,hw=>
    obtain rfl:vp=[]:=hw.2.2.2 (by omega);refine (zem 0 m q left proof k a b c d tw vs sp).trans ?_;rw [BO,BO];unfold GK;cases (k==0) <;> rfl
   | 1,hw=>
    obtain rfl:vp=[]:=hw.2.2.2 (by omega);refine (zen 0 m q left k a b c d tw vs sp).trans ?_;rw [BO];unfold GK;cases (k==0) <;> rfl
   | 2,_=>
    refine (zeo 0 m q left proof vp k a b c d tw vs sp).trans ?_;rw [BO,hg,DI,DI,BY,BO];unfold GK;cases (k==0) <;> rfl
   | 3,hw=>
    obtain rfl:vp=[]:=hw.2.2.2 (by omega);refine (zep 0 m q k a b c d tw vs sp).trans ?_;unfold GK;cases (k==0) <;> rfl
   | t+4,hw=>exact absurd hw.1 (by omega)
 ·simp [R.get] at h
theorem Kn (m:Md) (q:Qy) (b:Bx):∀ (d i:Nat),i+d=5→(LK m q b d i).isSome=true→H8 (J6 (LK m q b d i))=true
 | 0,i,_,h=>by rw [LK] at h; cases h
 | d+1,i,hd,h=>by
  rw [LK] at h ⊢;cases hc:decide ((FD m q b i).length > 0) with
  | true=>
   rw [DI];show H8 (i:Int)=true;unfold H8;rw [AD (show (0:Int)≤(i:Int) by omega),AD (show (i:Int) < 5 by omega)];rfl
  | false=>
   rw [hc,DJ] at h;rw [DJ];exact Kn m q b d (i+1) (by omega) h
theorem zhX:DX PR B0 75 dA:=by
 refine D6 [(111,PO),(122,cF),(123,cG),(124,cH),(70,WE)] [] dA [[.bool]] Tryz.func75 zbw ⟨lD,zhy,zhz,zhA,Jr,trivial⟩ ?_;intro vs r hwf h;unfold dA at h;split at h
 ·replace h:=Ou h;obtain ⟨t,m,q,s,rfl,hw,h⟩:=h;refine ⟨0,?_⟩;obtain ⟨left,proof,⟨k,vp,a,b,c,d,tw,vs⟩,sp⟩:=s;cases ho:JN q ⟨left,proof,⟨k,vp,a,b,c,d,tw,vs⟩,sp⟩ with
  | true=>
   rw [ho,R.get_br,DI,R.get_ok] at h;rw [← h];have hk:(k != 0)=true∨(k != 0)=false∧decide (sp≥q.bu)=true:=by
    unfold JN at ho;have e:(k != 0)=!(k==0):=rfl;rw [e];cases hk:(k==0) with
    | false=>exact .inl rfl
    | true=>
     replace ho:(!(k==0)||decide (sp≥q.bu))=true:=ho;rw [hk,A3,vaz] at ho;exact .inr ⟨rfl,ho⟩
   match t,hw with
   | 0,hw=>
    refine (Dm 0 m q left proof k a b c d tw vs sp).trans ?_;rcases hk with hk | ⟨hk,hs⟩
    ·rw [hk,DI,BO,BO]; rfl
    ·rw [hk,DJ,hs,DI,BO,BO]; rfl
   | 1,hw=>
    refine (Dp 0 m q left k a b c d tw vs sp).trans ?_;rcases hk with hk | ⟨hk,hs⟩
    ·rw [hk,DI,BO]; rfl
    ·rw [hk,DJ,hs,DI,BO]; rfl
   | 2,hw=>
    refine (zek 0 m q left proof vp k a b c d tw vs sp).trans ?_;rcases hk with hk | ⟨hk,hs⟩
    ·rw [hk,DI,BO]; rfl
    ·rw [hk,DJ,hs,DI,BO]; rfl
   | 3,hw=>
    refine (zel 0 m q k a b c d tw vs sp).trans ?_;rcases hk with hk | ⟨hk,hs⟩
    ·rw [hk,DI]; rfl
    ·rw [hk,DJ,hs,DI]; rfl
   | t+4,hw=>exact absurd hw.1 (by omega)
  | false=>
   rw [ho,R.get_br,DJ] at h;unfold JN at ho;replace ho:(!(k==0)||decide (sp≥q.bu))=false:=ho;rw [vas] at ho;have hk:(k != 0)=false:=ho.1;have hsp:decide (sp≥q.bu)=false:=ho.2;cases hg:(B6 t 1&&(FG m q&&(decide (0≤sp)&&(BS 0 left.length&&(B6 left.length 100000&&B6 proof.length 100000))))) with
   | false=>
    replace h:(R.br (B6 t 1&&(FG m q&&(decide (0≤sp)&&(BS 0 left.length&&(B6 left.length 100000&&B6 proof.length 100000))))) _ R.no).get=some r:=h;rw [hg] at h;simp [R.get] at h
   | true=>
    replace h:(R.br (B6 t 1&&(FG m q&&(decide (0≤sp)&&(BS 0 left.length&&(B6 left.length 100000&&B6 proof.length 100000))))) _ R.no).get=some r:=h;rw [hg,R.get_br,DI] at h;have hst:some (.bool true,[PD (lN m q t ⟨left,proof,⟨k,vp,a,b,c,d,tw,vs⟩,sp⟩) m q (GE m q ⟨left,proof,⟨k,vp,a,b,c,d,tw,vs⟩,sp⟩)])=some r:=by
     rw [← h];unfold lN;simp only [R.get_br,R.get_ok];cases GQ m q (D0 left) with
     | true=>cases (ic (left.length - 1)==0) <;> rfl
     | false=>
      cases HJ m q (D0 left).low (D0 left).s4.hi with
      | true=>rfl
      | false=>cases (EY m q (D0 left)).isSome <;> rfl
    rw [← hst];simp only [AI] at hg;obtain ⟨ht,hr,h0,hl,hl5,hp5⟩:=hg;obtain ⟨hm,_,⟨_,hbu⟩,_,_⟩:=XU hr;have h0:=A1 h0;have hs1:=BH hsp;have hl:0 < left.length:=AN hl;have hl5:=AN hl5;have hp5:=AN hp5;have esp:AA AB (sp+1)=sp+1:=EH (by omega) (by omega);have etop:AA AB (ic (left.length - 0) - 1)=((left.length - 1:Nat):Int):=by
     rw [EH (by simp only [ic]; omega) (by simp only [ic]; omega)];simp only [ic];omega
    have ed:(decide (0≤((left.length - 1:Nat):Int))&&decide (((left.length - 1:Nat):Int) < ic (left.length - 0)))=true:=by
     rw [AD (by omega),AD (by simp only [ic]; omega)];rfl
    have ee:(decide (0≤((left.length - 1:Nat):Int))&&decide (((left.length - 1:Nat):Int)≤ic (left.length - 0)))=true:=by
     rw [AD (by omega),AD (by simp only [ic]; omega)];rfl
    have epop:left.take (left.length - 1+2)=left.take (left.length - 1+2):=rfl;have hlen:(F3 left).length=left.length - 1:=by unfold F3; rw [BB]; omega
    have htk:∀ (x y:IV),AK (left.length - 1+2) (AK (left.length - 1) left++[x,y])=F3 left++[x,y]:=fun x y=>CV (by rw [AT]; unfold F3 at hlen; rw [hlen]; simp)
    have hb80:decide ((left.length - 1+2)*80≤EE)=true:=AD (by unfold EE; omega);have hin:=Kn m q (D0 left) 5 0 rfl;replace hin:(EY m q (D0 left)).isSome=true→H8 (J6 (EY m q (D0 left)))=true:=hin
    match t,ht,hw with
    | 0,_,_=>
     have hb24:decide ((proof.length+1)*24≤EE)=true:=AD (by unfold EE; omega);have htp:∀ x:IV,AK (proof.length+1) (proof++[x])=proof++[x]:=fun x=>CV (by rw [AT]; simp)
     refine (Dm 0 m q left proof k a b c d tw vs sp).trans ?_;rw [hk,DJ,hsp,DJ,etop,ed,DI,ee,DI,esp,BF];simp only [BI,va5,BO];rw [hb24,hb80,hm];unfold GE lN;show cond (GQ m q (D0 left)) _ (cond (HJ m q (D0 left).low (D0 left).s4.hi) _ _)=_;cases GQ m q (D0 left) with
     | true=>
      simp only [htp,BY];rw [DI,DI];show cond (ic (left.length - 1)==0) _ _=_;cases (ic (left.length - 1)==0) <;> rfl
     | false=>
      rw [DJ];cases HJ m q (D0 left).low (D0 left).s4.hi with
      | true=>rfl
      | false=>
       rw [DJ,DI];show cond (!(EY m q (D0 left)).isSome) _ (cond (H8 (J6 (EY m q (D0 left)))) _ _)=_;cases hs:(EY m q (D0 left)).isSome with
       | false=>rfl
       | true=>
        rw [A3,DJ,hin hs,DI,DI,DI];simp only [htp,htk];rfl
    | 1,_,hw=>
     obtain rfl:proof=[]:=hw.2.2.1 (.inl rfl);refine (Dp 0 m q left k a b c d tw vs sp).trans ?_;rw [hk,DJ,hsp,DJ,etop,ed,DI,ee,DI,esp,BF];simp only [BI,va5];rw [hb80,hm];unfold GE lN;show cond (GQ m q (D0 left)) _ (cond (HJ m q (D0 left).low (D0 left).s4.hi) _ _)=_;cases GQ m q (D0 left) with
     | true=>
      rw [DI];show cond (ic (left.length - 1)==0) _ _=_;cases (ic (left.length - 1)==0) <;> rfl
     | false=>
      rw [DJ];cases HJ m q (D0 left).low (D0 left).s4.hi with
      | true=>rfl
      | false=>
       rw [DJ,DI];show cond (!(EY m q (D0 left)).isSome) _ (cond (H8 (J6 (EY m q (D0 left)))) _ _)=_;cases hs:(EY m q (D0 left)).isSome with
       | false=>rfl
       | true=>
        rw [A3,DJ,hin hs,DI,DI];simp only [htk];rfl
    | t+2,ht,_=>exact absurd (AN ht) (by omega)
 ·simp [R.get] at h
open Go Go.Proofs
def TZ (N:Nat):Env:=D5 [(74,c8),(75,dA),(76,dC)] [(2,⟨[4,5],[4,8,500,501],[⟨.cell 8 23,500,36,true,E6⟩,⟨.cell 8 24,501,127,true,EC⟩]⟩)] 13 N
open Go Go.Proofs
set_option maxRecDepth 100000
abbrev eU:KP:=⟨[4,5],[4,8,500,501],[⟨.cell 8 23,500,36,true,E6⟩,⟨.cell 8 24,501,127,true,EC⟩]⟩
def zgx (sh:Bool) (s:Sr):List V:=match sh with
 | false=>.row 500 0 s.left.length :: .row 501 0 s.proof.length :: aE s.v .zs s.spent
 | true=>.row 500 0 s.left.length :: jJ s.proof :: aE s.v (jJ s.v.proof) s.spent
def zgy (sh:Bool) (s:Sr):Option Ob:=match sh with
 | false=>some (.row true 127 true EC s.proof)
 | true=>none
def MX (m:Md) (q:Qy) (sh:Bool) (s:Sr):St:=
 ⟨[(4,.ptr 4 0 0),(5,.ptr 8 0 0)],[(4,some (.box [.int .i64 0,.zs,.int .i64 0,.int .i64 0,.int .i64 0,.int .i64 0,.int .i64 0,.int .i64 0])),(8,some (.box (FZ m q (zgx sh s)))),(500,some (.row true 36 true E6 s.left)),(501,zgy sh s)]⟩
def L9 (s:Sr):Sr:=⟨s.left.take s.left.length,s.proof.take s.proof.length,⟨s.v.kind,[],s.v.w0,s.v.w1,s.v.w2,s.v.w3,s.v.twin,s.v.spent⟩,s.spent⟩
def gN (s:Sr):Sr:=⟨s.left.take s.left.length,s.proof,s.v,s.spent⟩
theorem gO {s:Sr} (h:s.v.proof=[]):L9 s=s:=by
 obtain ⟨left,proof,⟨k,vp,a,b,c,d,tw,vs⟩,sp⟩:=s;obtain rfl:vp=[]:=h;unfold L9;simp only [BO]
theorem Ni (s:Sr):gN s=s:=by
 obtain ⟨left,proof,v,sp⟩:=s;unfold gN;simp only [BO]
def qD (m:Md) (q:Qy) (s:Sr):Bool:=FG m q&&(decide (0≤s.spent)&&(BS 0 s.left.length&&(B6 s.left.length 100000&&B6 s.proof.length 100000)))
noncomputable abbrev eQ (N:Nat):Out→St→DO:=DQ 0 (DS (TZ N) (DK UK [1,1,1]) (DT (TZ N) none [.cell 4 55] [[.z,.list true EC,.z,.z,.z,.z,.z,.z]]))
theorem zej (N:Nat) (m:Md) (q:Qy):DZ (TZ N) UK [.cell 4 55] [[.z,.list true [.bool,.z,.z],.z,.z,.z,.z,.z,.z]] [m.V,q.V] =
 cond (FG m q) (DY (TZ N) (DK UK [1,1,0,0,0]) eU N (MX m q false ⟨[(GJ q).I],[],Vd.none,0⟩) (eQ N))
 (DY (TZ N) (DK UK [1,1,0,0,0]) eU N (MX m q false ⟨[],[],⟨4,[],0,0,0,0,0,0⟩,0⟩) (eQ N)):=by kernel_rfl
theorem tE (N:Nat) (m:Md) (q:Qy) (s:Sr) (again:St→DO) (k:Out→St→DO):EZ (TZ N) (DK UK [1,1,0,0,0]) (MX m q false s) (EN again eU k) =
 cond (JN q (L9 s)) (k (.exit 0) (MX m q false (L9 s)))
 (cond (qD m q (L9 s))
 (cond (GQ m q (D0 (L9 s).left)) (cond (ic ((L9 s).left.length - 1)==0) (again (MX m q true (GE m q (L9 s)))) (again (MX m q false (GE m q (L9 s)))))
 (cond (HJ m q (D0 (L9 s).left).low (D0 (L9 s).left).s4.hi) (again (MX m q false (GE m q (L9 s))))
 (cond (EY m q (D0 (L9 s).left)).isSome (again (MX m q false (GE m q (L9 s)))) (again (MX m q false (GE m q (L9 s))))))) none):=by kernel_rfl
theorem ziw (N:Nat) (m:Md) (q:Qy) (s:Sr) (again:St→DO) (k:Out→St→DO):EZ (TZ N) (DK UK [1,1,0,0,0]) (MX m q true s) (EN again eU k) =
 cond (JN q (gN s)) (k (.exit 0) (MX m q true (gN s))) none:=by kernel_rfl
theorem Af (N:Nat) (m:Md) (q:Qy) (s:Sr):eQ N (.exit 0) (MX m q false s)=some ((GK (L9 s)).V,[]):=by kernel_rfl
theorem Yg (N:Nat) (m:Md) (q:Qy) (s:Sr):eQ N (.exit 0) (MX m q true s)=cond (B6 s.v.proof.length 100000) (some ((GK (gN s)).V,[])) none:=by kernel_rfl
structure SrInv (q:Qy) (sh:Bool) (s:Sr):Prop where
 sp0:0≤s.spent
 sp1:s.spent≤max 0 q.bu
 left:(s.left.length:Int)≤s.spent+1
 proof:(s.proof.length:Int)≤s.spent
 vp:(s.v.proof.length:Int)≤s.spent
 own:sh=false→s.v.proof=[]
 open_:s.v.kind=0→0 < s.left.length
 shut:sh=true→s.v.kind≠0
theorem zfB (l:LI):(F3 l).length=l.length - 1:=by
 unfold F3;rw [BB];omega
theorem SrInv.step {m:Md} {q:Qy} {s:Sr} (h:SrInv q false s) (ho:JN q s=false) :
  SrInv q (GQ m q (D0 s.left)&&(ic (s.left.length - 1)==0)) (GE m q s)∧(GE m q s).spent=s.spent+1:=by
 unfold JN at ho;rw [vas] at ho;have hk:s.v.kind=0:=by simpa using ho.1
 have hs:=BH ho.2;have h1:=h.sp0;have h2:=h.left;have h3:=h.proof;have h4:=h.vp;have h5:=h.own rfl;have h6:=h.open_ hk;have hp:=zfB s.left;have h5':s.v.proof.length=0:=by rw [h5]; rfl
 unfold GE;cases GQ m q (D0 s.left) with
 | true=>
  rw [DI];cases he:(ic (s.left.length - 1)==0) with
  | true=>
   refine ⟨⟨?_,?_,?_,?_,?_,fun h=>(by cases h),fun h=>(by cases h),fun _=>(show (1:Int)≠0 by decide)⟩,rfl⟩ <;> simp only [BJ,AT,C2] <;> omega
  | false=>
   have hne:s.left.length - 1≠0:=by simpa [ic] using he
   refine ⟨⟨?_,?_,?_,?_,?_,fun _=>h5,fun _=>?_,fun h=>(by cases h)⟩,rfl⟩ <;> simp only [A9,AT,C2] <;> omega
 | false=>
  rw [DJ,BL];cases HJ m q (D0 s.left).low (D0 s.left).s4.hi with
  | true=>refine ⟨⟨?_,?_,?_,?_,?_,fun _=>rfl,fun h=>(by cases h),fun h=>(by cases h)⟩,rfl⟩ <;> simp only [BJ,A6] <;> omega
  | false=>
   rw [DJ];cases (EY m q (D0 s.left)).isSome with
   | true=>refine ⟨⟨?_,?_,?_,?_,?_,fun _=>h5,fun _=>?_,fun h=>(by cases h)⟩,rfl⟩ <;> simp only [BJ,AT,AM,A6] <;> omega
   | false=>refine ⟨⟨?_,?_,?_,?_,?_,fun _=>rfl,fun h=>(by cases h),fun h=>(by cases h)⟩,rfl⟩ <;> simp only [A9,A6] <;> omega
theorem zeY {m:Md} {q:Qy} {s:Sr} (hr:FG m q=true) (h:SrInv q false s) (hk:s.v.kind=0):qD m q s=true:=by
 have hb:=(XU hr).2.2.1;have h1:=h.sp0;have h2:=h.left;have h3:=h.proof;have h6:=h.open_ hk;have h7:=h.sp1;unfold qD;rw [hr,AD h1,C6 (show s.left.length≤100000 by omega),C6 (show s.proof.length≤100000 by omega)]
 have:BS 0 s.left.length=true:=C6 h6
 rw [this];rfl
theorem Hu (N:Nat) (m:Md) (q:Qy) (hr:FG m q=true) (K:Out→St→DO):∀ (d n:Nat) (sh:Bool) (s:Sr),SrInv q sh s→q.bu < s.spent+d→d < n →
  ∃ sh',SrInv q sh' (LJ m q d s)∧DY (TZ N) (DK UK [1,1,0,0,0]) eU n (MX m q sh s) K=K (.exit 0) (MX m q sh' (LJ m q d s))
 | d,0,sh,s,_,_,h=>absurd h (by omega)
 | 0,n+1,sh,s,hi,hd,_=>by
  have h1:=hi.sp1;have h2:=hi.sp0;have h3:=(XU hr).2.2.1;omega
 | d+1,n+1,sh,s,hi,hd,hn=>by
  rw [LJ];cases ho:JN q s with
  | true=>
   rw [DI];refine ⟨sh,hi,?_⟩;cases sh with
   | false=>rw [D4,tE,gO (hi.own rfl),ho,DI]
   | true=>rw [D4,ziw,Ni,ho,DI]
  | false=>
   rw [DJ];cases sh with
   | true=>
    unfold JN at ho;rw [vas] at ho
    have:=hi.shut rfl
    simp at ho;exact absurd ho.1 this
   | false=>
    obtain ⟨hi',hs'⟩:=hi.step (m:=m) ho;have hk:s.v.kind=0:=by
     unfold JN at ho;rw [vas] at ho;simpa using ho.1
    obtain ⟨sh',hi2,hrun⟩:=Hu N m q hr K d n _ (GE m q s) hi' (by rw [hs']; omega) (by omega);refine ⟨sh',hi2,?_⟩;rw [← hrun,D4,tE,gO (hi.own rfl),ho,DJ,zeY hr hi hk,DI];cases GQ m q (D0 s.left) with
    | true=>
     rw [DI,BC];cases (ic (s.left.length - 1)==0) <;> rfl
    | false=>
     rw [DJ,BL];cases HJ m q (D0 s.left).low (D0 s.left).s4.hi with
     | true=>rfl
     | false=>cases (EY m q (D0 s.left)).isSome <;> rfl
theorem zcQ {m:Md} {q:Qy} (hr:FG m q=true):SrInv q false ⟨[(GJ q).I],[],Vd.none,0⟩:=
 ⟨vac _,by have:=(XU hr).2.2.1; show (0:Int)≤_; omega,by simp,by simp,by simp [Vd.none],fun _=>rfl,fun _=>by simp,fun h=>by cases h⟩
theorem Ju:DX PR B0 35 WH:=by
 refine D6 [(74,c8),(75,dA),(76,dC)] [(2,⟨[4,5],[4,8,500,501],[⟨.cell 8 23,500,36,true,E6⟩,⟨.cell 8 24,501,127,true,EC⟩]⟩)] WH [[.z,.list true [.bool,.z,.z],.z,.z,.z,.z,.z,.z]] Tryz.func35 zbv ⟨zhW,zhX,zhY,trivial⟩ ?_;intro vs r hwf h;unfold WH at h;split at h
 ·rename_i m q;replace h:=J7 h;obtain ⟨m,rfl,h⟩:=h;replace h:=KK h;obtain ⟨q,rfl,h⟩:=h;rw [R.get_ok] at h;refine ⟨70000,?_⟩;rw [← h];refine (zej 70000 m q).trans ?_;unfold E8 RI;cases hr:FG m q with
  | true=>
   have hb:=(XU hr).2.2.1;rw [DI,DI];obtain ⟨sh',hi,hrun⟩:=Hu 70000 m q hr (eQ 70000) (q.bu.toNat+1) 70000 false _ (zcQ hr) (by show q.bu < 0+_; omega) (by omega);rw [hrun];generalize LJ m q (q.bu.toNat+1) _=s at hi ⊢;cases sh' with
   | false=>rw [Af,gO (hi.own rfl)]
   | true=>
    have h1:=hi.vp;have h2:=hi.sp1;rw [Yg,Ni,C6 (show s.v.proof.length≤100000 by omega),DI]
  | false=>
   rw [DJ,DJ];have e:JN q ⟨[],[],⟨4,[],0,0,0,0,0,0⟩,0⟩=true:=rfl;rw [D4,tE,gO rfl,e,DI,Af,gO rfl,LJ,e,DI]
 ·simp [R.get] at h
open Go
def ziQ:Md:=⟨1,1,3,0,0,[.agg [.int 0,.list [.int (IH false 0 0 5 1 2),.int (IH true 10 0 0 0 0),.int (IH true 20 0 0 0 0)]]]⟩
def V6:DV
 | []=>.ok ziQ.V []
 | _=>.no
open Go
def W7 (s:Sp):Bool:=decide (-2147483648≤s.lo)&&(decide (s.lo≤s.hi)&&decide (s.hi≤2147483647))
def F2 (b:Bx):Bool:=W7 b.s0&&(W7 b.s1&&(W7 b.s2&&(W7 b.s3&&W7 b.s4)))
def bO:DV
 | [.list false [.int .u64] l,b]=>JF b fun b=>.br (GV l 4&&F2 b) (.ok (.tup [.int .i64 (IB l b),.int .i64 (IA l b)]) []) .no
 | _=>.no
def bN:DV
 | [m,.int .i64 k,b]=>JT m fun m=>JF b fun b=>.br (b.emp||F2 b) (.ok (.tup [.int .i64 (EA m k b),.int .i64 (D8 m k b)]) []) .no
 | _=>.no
def bP:DV
 | [m,q,b]=>JT m fun m=>J8 q fun q=>JF b fun b=>.br (FG m q&&(b.emp||F2 b)) (.ok (.bool (GQ m q b)) []) .no
 | _=>.no
def KI (x:IV):Bool:=cond (GS x) (E9 x==0&&FP x==0) (decide (0≤E9 x)&&decide (E9 x≤4))
def cX:DV
 | [.agg [.bool s,.int .i64 p,.int .i64 a]]=>.ok (.bool (KI (NN s p a))) []
 | _=>.no
def N3 (st:Int × Int) (x:IV):Option (Int × Int):=
 cond (st.1==0||!(KI x)) none (cond (GS x) (some (st.1 - 1,st.2)) (some (st.1+1,max st.2 (st.1+1))))
def KS:LI→Int × Int→Option (Int × Int)
 | [],st=>some st
 | x :: r,st=>match N3 st x with
  | some st'=>KS r st'
  | none=>none
def LW (l:LI):Int:=cond (decide (ic l.length > 65536)) 0 (match KS l (1,1) with
 | some st=>cond (!(st.1==0)||decide (st.2 > 200)) 0 st.2
 | none=>0)
def cW:DV
 | [.list true [.bool,.z,.z] l]=>.ok (.int .i64 (LW l)) []
 | _=>.no
def cU:DV
 | [.list true [.bool,.z,.z] l]=>.ok (.bool (decide (LW l > 0))) []
 | _=>.no
def OA (st:LI × LI) (x:IV):Option (List IV × LI):=
 cond (GS x) (some (F3 st.1,st.2++[(D0 st.1).I]))
  (cond (decide (FP x < ((D0 st.1).g (E9 x).toNat).lo)||decide (FP x≥((D0 st.1).g (E9 x).toNat).hi)) none
   (some (F3 st.1++[((D0 st.1).cutH (E9 x) (FP x)).I,((D0 st.1).cutL (E9 x) (FP x)).I],st.2)))
def JB:LI→LI × LI→Option (List IV × LI)
 | [],st=>some st
 | x :: r,st=>match OA st x with
  | some st'=>JB r st'
  | none=>none
def LE (b:Bx) (l:LI):Option LI:=cond (decide (LW l > 0)) ((JB l ([b.I],[])).map (·.2)) none
def cV:DV
 | [b,.list true [.bool,.z,.z] l]=>JF b fun b=>.br (LE b l).isSome (.ok (.tup [.list true E6 ((LE b l).getD []),.bool true]) []) (.ok (.tup [.list true E6 [],.bool false]) [])
 | _=>.no
def Vd.p (v:Vd):Pt:=⟨v.w0,v.w1,v.w2,v.w3⟩
def O9 (m:Md) (q:Qy) (v:Vd):Bool:=
 FG m q&&cond (v.kind==1) (match LE (GJ q) v.proof with
   | some l=>l.all fun x=>GQ m q (D7 x)
   | none=>false)
  (cond (v.kind==2) ((GJ q).has v.p v.twin&&HJ m q v.p v.twin) false)
def V5:DV
 | [m,q,v]=>JT m fun m=>J8 q fun q=>Ov v fun v=>.ok (.bool (O9 m q v)) []
 | _=>.no
open Go Go.Proofs
def Rf (N:Nat):Env:=D5 [] [] 16 N
theorem zea (N:Nat) (u01:Bool) (u00 s_At:Int):DZ (Rf N) xS [.tmp 2] [[.bool]] [.agg [.bool u01,.i u00,.i s_At]]=(cond u01 (some ((.bool (u01==true&&(u00==0&&(s_At==0&&true)))),[])) (cond (decide (u00≥0)) (some ((.bool (decide (u00≤4))),[])) (some ((.bool false),[])))):=by kernel_rfl
def Re (N:Nat):Env:=D5 [(156,cW)] [] 6 N
theorem zd8 (N:Nat) (l:LI):DZ (Re N) xR [.tmp 2] [[.bool]] [.list true [.bool,.z,.z] l]=(some ((.bool (decide (LW l > 0))),[])):=by kernel_rfl
def Pq (N:Nat):Env:=D5 [(114,WJ)] [(2,⟨[2,3,6,9,10],[3],[]⟩)] 25 N
open Go Go.Proofs
def QY (N:Nat):Env:=D5 [(192,cX)] [(5,⟨[2,3,4,10,11,12],[],[]⟩)] 40 N
abbrev R5 (x2 x3 x4:Int) (l10:LI) (x11 x12:Int):St:=⟨[(2,(.i x2)),(3,(.i x3)),(4,(.i x4)),(10,(.list true EC l10)),(11,(.i x11)),(12,(.i x12))],[]⟩
theorem zd9 (N:Nat) (l:LI):DZ (QY N) UJ [.tmp 2] [[.z]] [.list true [.bool,.z,.z] l]=(cond (decide (ic (AF l) > 65536)) (some ((.i 0),[])) (DY (QY N) (DK UJ [1,1,1,0,1,0,0]) ⟨[2,3,4,10,11,12],[],[]⟩ N (R5 0 1 1 l (ic (AF l)) 0) (DQ 0 (DS (QY N) (DK UJ [1,1,1,1]) (DT (QY N) none [.tmp 2] [[.z]]))))):=by kernel_rfl
theorem Me (N:Nat) (x2 x3 x4:Int) (l10:LI) (x11 x12:Int) (again:St→DO) (k:Out→St→DO):EZ (QY N) (DK UJ [1,1,1,0,1,0,0]) (R5 x2 x3 x4 l10 x11 x12) (EN again ⟨[2,3,4,10,11,12],[],[]⟩ k)=(cond (decide (x12 < x11)) (cond (decide (0≤x12)&&decide (x12 < ic (AF l10))) (cond (x3==0) (k .ret (R5 0 x3 x4 l10 x11 x12)) (cond (!KI (NN (IV.toBool (IV.cell (AH l10 (AE x12) default) 0)) (IV.toInt (IV.cell (AH l10 (AE x12) default) 1)) (IV.toInt (IV.cell (AH l10 (AE x12) default) 2)))) (k .ret (R5 0 x3 x4 l10 x11 x12)) (cond (IV.toBool (IV.cell (AH l10 (AE x12) default) 0)) (again (R5 x2 (AA AB (x3 - 1)) x4 l10 x11 (AA AB (x12+1)))) (again (R5 x2 (AA AB (x3+1)) (max x4 (AA AB (x3+1))) l10 x11 (AA AB (x12+1))))))) none) (k (.exit 0) (R5 x2 x3 x4 l10 x11 x12))):=by kernel_rfl
theorem Yb (N:Nat) (x2 x3 x4:Int) (l10:LI) (x11 x12:Int):(DQ 0 (DS (QY N) (DK UJ [1,1,1,1]) (DT (QY N) none [.tmp 2] [[.z]]))) (.exit 0) (R5 x2 x3 x4 l10 x11 x12)=(cond (x3 != 0) (some ((.i 0),[])) (cond (decide (x4 > 200)) (some ((.i 0),[])) (some ((.i x4),[])))):=by kernel_rfl
theorem Yc (N:Nat) (x2 x3 x4:Int) (l10:LI) (x11 x12:Int):(DQ 0 (DS (QY N) (DK UJ [1,1,1,1]) (DT (QY N) none [.tmp 2] [[.z]]))) .ret (R5 x2 x3 x4 l10 x11 x12)=(some ((.i x2),[])):=by kernel_rfl
def GY (N:Nat):Env:=D5 [(112,K2),(158,bO),(53,MH)] [(5,⟨[1,5,6,7,8,9,40,41,42],[5],[]⟩)] 66 N
abbrev M4 (a2:Bx) (x1 x6 x7 x8 x9:Int) (l40:LI) (x41 x42:Int):St:=⟨[(1,(.i x1)),(5,(.ptr 5 0 0)),(6,(.i x6)),(7,(.i x7)),(8,(.i x8)),(9,(.i x9)),(40,(.list true MO l40)),(41,(.i x41)),(42,(.i x42))],[(5,(some (.box (Bx.cs a2))))]⟩
theorem zdk (N:Nat) (m:Md) (a1:Int) (a2:Bx):DZ (GY N) IQ [.tmp 6,.tmp 7] [[.z],[.z]] [(Md.V m),.i a1,(Bx.V a2)]=(cond (!EW m) (some ((.tup [.i 0,.i 0]),[])) (cond (decide (a1 < 0)) (some ((.tup [.i 0,.i 0]),[])) (cond (decide (a1≥Md.c m)) (some ((.tup [.i 0,.i 0]),[])) (cond (Bx.emp a2) (some ((.tup [.i 0,.i 0]),[])) (cond (decide (a1=ic 0)) (cond (decide (a1=ic 0)) (DY (GY N) (DK IQ [1,1,1,0,1,0,0]) ⟨[1,5,6,7,8,9,40,41,42],[5],[]⟩ N (M4 a2 a1 0 0 (Md.b0 m) (Md.b0 m) (Md.ts m) (ic (AF (Md.ts m))) 0) (DQ 0 (DS (GY N) (DK IQ [1,1,1,1]) (DT (GY N) none [.tmp 6,.tmp 7] [[.z],[.z]])))) (cond (decide (a1=ic 1)) (DY (GY N) (DK IQ [1,1,1,0,1,0,0]) ⟨[1,5,6,7,8,9,40,41,42],[5],[]⟩ N (M4 a2 a1 0 0 (Md.b0 m) (Md.b1 m) (Md.ts m) (ic (AF (Md.ts m))) 0) (DQ 0 (DS (GY N) (DK IQ [1,1,1,1]) (DT (GY N) none [.tmp 6,.tmp 7] [[.z],[.z]])))) (cond (decide (a1=ic 2)) (DY (GY N) (DK IQ [1,1,1,0,1,0,0]) ⟨[1,5,6,7,8,9,40,41,42],[5],[]⟩ N (M4 a2 a1 0 0 (Md.b0 m) (Md.b2 m) (Md.ts m) (ic (AF (Md.ts m))) 0) (DQ 0 (DS (GY N) (DK IQ [1,1,1,1]) (DT (GY N) none [.tmp 6,.tmp 7] [[.z],[.z]])))) none))) (cond (decide (a1=ic 1)) (cond (decide (a1=ic 0)) (DY (GY N) (DK IQ [1,1,1,0,1,0,0]) ⟨[1,5,6,7,8,9,40,41,42],[5],[]⟩ N (M4 a2 a1 0 0 (Md.b1 m) (Md.b0 m) (Md.ts m) (ic (AF (Md.ts m))) 0) (DQ 0 (DS (GY N) (DK IQ [1,1,1,1]) (DT (GY N) none [.tmp 6,.tmp 7] [[.z],[.z]])))) (cond (decide (a1=ic 1)) (DY (GY N) (DK IQ [1,1,1,0,1,0,0]) ⟨[1,5,6,7,8,9,40,41,42],[5],[]⟩ N (M4 a2 a1 0 0 (Md.b1 m) (Md.b1 m) (Md.ts m) (ic (AF (Md.ts m))) 0) (DQ 0 (DS (GY N) (DK IQ [1,1,1,1]) (DT (GY N) none [.tmp 6,.tmp 7] [[.z],[.z]])))) (cond (decide (a1=ic 2)) (DY (GY N) (DK IQ [1,1,1,0,1,0,0]) ⟨[1,5,6,7,8,9,40,41,42],[5],[]⟩ N (M4 a2 a1 0 0 (Md.b1 m) (Md.b2 m) (Md.ts m) (ic (AF (Md.ts m))) 0) (DQ 0 (DS (GY N) (DK IQ [1,1,1,1]) (DT (GY N) none [.tmp 6,.tmp 7] [[.z],[.z]])))) none))) (cond (decide (a1=ic 2)) (cond (decide (a1=ic 0)) (DY (GY N) (DK IQ [1,1,1,0,1,0,0]) ⟨[1,5,6,7,8,9,40,41,42],[5],[]⟩ N (M4 a2 a1 0 0 (Md.b2 m) (Md.b0 m) (Md.ts m) (ic (AF (Md.ts m))) 0) (DQ 0 (DS (GY N) (DK IQ [1,1,1,1]) (DT (GY N) none [.tmp 6,.tmp 7] [[.z],[.z]])))) (cond (decide (a1=ic 1)) (DY (GY N) (DK IQ [1,1,1,0,1,0,0]) ⟨[1,5,6,7,8,9,40,41,42],[5],[]⟩ N (M4 a2 a1 0 0 (Md.b2 m) (Md.b1 m) (Md.ts m) (ic (AF (Md.ts m))) 0) (DQ 0 (DS (GY N) (DK IQ [1,1,1,1]) (DT (GY N) none [.tmp 6,.tmp 7] [[.z],[.z]])))) (cond (decide (a1=ic 2)) (DY (GY N) (DK IQ [1,1,1,0,1,0,0]) ⟨[1,5,6,7,8,9,40,41,42],[5],[]⟩ N (M4 a2 a1 0 0 (Md.b2 m) (Md.b2 m) (Md.ts m) (ic (AF (Md.ts m))) 0) (DQ 0 (DS (GY N) (DK IQ [1,1,1,1]) (DT (GY N) none [.tmp 6,.tmp 7] [[.z],[.z]])))) none))) none))))))):=by kernel_rfl
theorem Lj (N:Nat) (a2:Bx) (x1 x6 x7 x8 x9:Int) (l40:LI) (x41 x42:Int) (again:St→DO) (k:Out→St→DO):EZ (GY N) (DK IQ [1,1,1,0,1,0,0]) (M4 a2 x1 x6 x7 x8 x9 l40 x41 x42) (EN again ⟨[1,5,6,7,8,9,40,41,42],[5],[]⟩ k)=(cond (decide (x42 < x41)) (cond (decide (0≤x42)&&decide (x42 < ic (AF l40))) (cond (IV.toInt (IV.cell (AH l40 (AE x42) default) 0)==x1) (cond (GV (IV.toList (IV.cell (AH l40 (AE x42) default) 1)) 4&&F2 a2) (again (M4 a2 x1 x6 x7 (AA AB (x8+IB (IV.toList (IV.cell (AH l40 (AE x42) default) 1)) a2)) (AA AB (x9+IA (IV.toList (IV.cell (AH l40 (AE x42) default) 1)) a2)) l40 x41 (AA AB (x42+1)))) none) (again (M4 a2 x1 x6 x7 x8 x9 l40 x41 (AA AB (x42+1))))) none) (k (.exit 0) (M4 a2 x1 x6 x7 x8 x9 l40 x41 x42))):=by kernel_rfl
theorem Wz (N:Nat) (a2:Bx) (x1 x6 x7 x8 x9:Int) (l40:LI) (x41 x42:Int):(DQ 0 (DS (GY N) (DK IQ [1,1,1,1]) (DT (GY N) none [.tmp 6,.tmp 7] [[.z],[.z]]))) (.exit 0) (M4 a2 x1 x6 x7 x8 x9 l40 x41 x42)=(some ((.tup [.i x8,.i x9]),[])):=by kernel_rfl
def LM (N:Nat):Env:=D5 [(112,K2),(113,bN)] [(9,⟨[3,4,5,6,7,42,43],[3,4,5],[]⟩)] 94 N
abbrev TO (m:Md) (a1:Qy) (a2:Bx) (b6:Bool) (x7 x42 x43:Int):St:=⟨[(3,(.ptr 3 0 0)),(4,(.ptr 4 0 0)),(5,(.ptr 5 0 0)),(6,(.bool b6)),(7,(.i x7)),(42,(.i x42)),(43,(.i x43))],[(3,(some (.box (Md.cs m)))),(4,(some (.box (Qy.cs a1)))),(5,(some (.box (Bx.cs a2))))]⟩
theorem zdl (N:Nat) (m:Md) (a1:Qy) (a2:Bx):DZ (LM N) NY [.tmp 6] [[.bool]] [(Md.V m),(Qy.V a1),(Bx.V a2)]=(cond (Bx.emp a2) (some ((.bool true),[])) (cond (Bx.emp a2||F2 a2) (cond (Qy.k a1==1) (cond (decide (Qy.lo a1≤EA m (Qy.c a1) a2)) (some ((.bool (decide (D8 m (Qy.c a1) a2≤Qy.hi a1))),[])) (some ((.bool false),[]))) (cond (Qy.k a1==2) (DY (LM N) (DK NY [1,1,1,0,1,0,1,1,1,0,0,1,0,0]) ⟨[3,4,5,6,7,42,43],[3,4,5],[]⟩ N (TO m a1 a2 false (EA m (Qy.c a1) a2) (Md.c m) 0) (DQ 1 (DS (LM N) (DK NY [1,1,1,0,1,0,1,1,1,0,1]) (DQ 0 (DS (LM N) (DK NY [1,1,1,1]) (DT (LM N) none [.tmp 6] [[.bool]])))))) (cond (decide (Qy.ft a1=ic 0)) (cond (decide (Sp.lo (Bx.s0 a2)≥Sp.hi (Bx.s4 a2))) (some ((.bool true),[])) (cond (decide (Qy.ft a1=ic 0)) (cond (Bx.emp {a2 with s0:=(Bx.s4 a2)}||F2 {a2 with s0:=(Bx.s4 a2)}) (cond (Qy.fl a1) (some ((.bool (decide (D8 m (Qy.c a1) {a2 with s0:=(Bx.s4 a2)}≤EA m (Qy.c a1) a2))),[])) (some ((.bool (decide (EA m (Qy.c a1) {a2 with s0:=(Bx.s4 a2)}≥D8 m (Qy.c a1) a2))),[]))) none) (cond (decide (Qy.ft a1=ic 1)) (cond (Bx.emp {a2 with s1:=(Bx.s4 a2)}||F2 {a2 with s1:=(Bx.s4 a2)}) (cond (Qy.fl a1) (some ((.bool (decide (D8 m (Qy.c a1) {a2 with s1:=(Bx.s4 a2)}≤EA m (Qy.c a1) a2))),[])) (some ((.bool (decide (EA m (Qy.c a1) {a2 with s1:=(Bx.s4 a2)}≥D8 m (Qy.c a1) a2))),[]))) none) (cond (decide (Qy.ft a1=ic 2)) (cond (Bx.emp {a2 with s2:=(Bx.s4 a2)}||F2 {a2 with s2:=(Bx.s4 a2)}) (cond (Qy.fl a1) (some ((.bool (decide (D8 m (Qy.c a1) {a2 with s2:=(Bx.s4 a2)}≤EA m (Qy.c a1) a2))),[])) (some ((.bool (decide (EA m (Qy.c a1) {a2 with s2:=(Bx.s4 a2)}≥D8 m (Qy.c a1) a2))),[]))) none) (cond (decide (Qy.ft a1=ic 3)) (cond (Bx.emp {a2 with s3:=(Bx.s4 a2)}||F2 {a2 with s3:=(Bx.s4 a2)}) (cond (Qy.fl a1) (some ((.bool (decide (D8 m (Qy.c a1) {a2 with s3:=(Bx.s4 a2)}≤EA m (Qy.c a1) a2))),[])) (some ((.bool (decide (EA m (Qy.c a1) {a2 with s3:=(Bx.s4 a2)}≥D8 m (Qy.c a1) a2))),[]))) none) (cond (decide (Qy.ft a1=ic 4)) (cond (Bx.emp a2||F2 a2) (cond (Qy.fl a1) (some ((.bool (decide (D8 m (Qy.c a1) a2≤EA m (Qy.c a1) a2))),[])) (some ((.bool (decide (EA m (Qy.c a1) a2≥D8 m (Qy.c a1) a2))),[]))) none) none)))))) (cond (decide (Qy.ft a1=ic 1)) (cond (decide (Sp.lo (Bx.s1 a2)≥Sp.hi (Bx.s4 a2))) (some ((.bool true),[])) (cond (decide (Qy.ft a1=ic 0)) (cond (Bx.emp {a2 with s0:=(Bx.s4 a2)}||F2 {a2 with s0:=(Bx.s4 a2)}) (cond (Qy.fl a1) (some ((.bool (decide (D8 m (Qy.c a1) {a2 with s0:=(Bx.s4 a2)}≤EA m (Qy.c a1) a2))),[])) (some ((.bool (decide (EA m (Qy.c a1) {a2 with s0:=(Bx.s4 a2)}≥D8 m (Qy.c a1) a2))),[]))) none) (cond (decide (Qy.ft a1=ic 1)) (cond (Bx.emp {a2 with s1:=(Bx.s4 a2)}||F2 {a2 with s1:=(Bx.s4 a2)}) (cond (Qy.fl a1) (some ((.bool (decide (D8 m (Qy.c a1) {a2 with s1:=(Bx.s4 a2)}≤EA m (Qy.c a1) a2))),[])) (some ((.bool (decide (EA m (Qy.c a1) {a2 with s1:=(Bx.s4 a2)}≥D8 m (Qy.c a1) a2))),[]))) none) (cond (decide (Qy.ft a1=ic 2)) (cond (Bx.emp {a2 with s2:=(Bx.s4 a2)}||F2 {a2 with s2:=(Bx.s4 a2)}) (cond (Qy.fl a1) (some ((.bool (decide (D8 m (Qy.c a1) {a2 with s2:=(Bx.s4 a2)}≤EA m (Qy.c a1) a2))),[])) (some ((.bool (decide (EA m (Qy.c a1) {a2 with s2:=(Bx.s4 a2)}≥D8 m (Qy.c a1) a2))),[]))) none) (cond (decide (Qy.ft a1=ic 3)) (cond (Bx.emp {a2 with s3:=(Bx.s4 a2)}||F2 {a2 with s3:=(Bx.s4 a2)}) (cond (Qy.fl a1) (some ((.bool (decide (D8 m (Qy.c a1) {a2 with s3:=(Bx.s4 a2)}≤EA m (Qy.c a1) a2))),[])) (some ((.bool (decide (EA m (Qy.c a1) {a2 with s3:=(Bx.s4 a2)}≥D8 m (Qy.c a1) a2))),[]))) none) (cond (decide (Qy.ft a1=ic 4)) (cond (Bx.emp a2||F2 a2) (cond (Qy.fl a1) (some ((.bool (decide (D8 m (Qy.c a1) a2≤EA m (Qy.c a1) a2))),[])) (some ((.bool (decide (EA m (Qy.c a1) a2≥D8 m (Qy.c a1) a2))),[]))) none) none)))))) (cond (decide (Qy.ft a1=ic 2)) (cond (decide (Sp.lo (Bx.s2 a2)≥Sp.hi (Bx.s4 a2))) (some ((.bool true),[])) (cond (decide (Qy.ft a1=ic 0)) (cond (Bx.emp {a2 with s0:=(Bx.s4 a2)}||F2 {a2 with s0:=(Bx.s4 a2)}) (cond (Qy.fl a1) (some ((.bool (decide (D8 m (Qy.c a1) {a2 with s0:=(Bx.s4 a2)}≤EA m (Qy.c a1) a2))),[])) (some ((.bool (decide (EA m (Qy.c a1) {a2 with s0:=(Bx.s4 a2)}≥D8 m (Qy.c a1) a2))),[]))) none) (cond (decide (Qy.ft a1=ic 1)) (cond (Bx.emp {a2 with s1:=(Bx.s4 a2)}||F2 {a2 with s1:=(Bx.s4 a2)}) (cond (Qy.fl a1) (some ((.bool (decide (D8 m (Qy.c a1) {a2 with s1:=(Bx.s4 a2)}≤EA m (Qy.c a1) a2))),[])) (some ((.bool (decide (EA m (Qy.c a1) {a2 with s1:=(Bx.s4 a2)}≥D8 m (Qy.c a1) a2))),[]))) none) (cond (decide (Qy.ft a1=ic 2)) (cond (Bx.emp {a2 with s2:=(Bx.s4 a2)}||F2 {a2 with s2:=(Bx.s4 a2)}) (cond (Qy.fl a1) (some ((.bool (decide (D8 m (Qy.c a1) {a2 with s2:=(Bx.s4 a2)}≤EA m (Qy.c a1) a2))),[])) (some ((.bool (decide (EA m (Qy.c a1) {a2 with s2:=(Bx.s4 a2)}≥D8 m (Qy.c a1) a2))),[]))) none) (cond (decide (Qy.ft a1=ic 3)) (cond (Bx.emp {a2 with s3:=(Bx.s4 a2)}||F2 {a2 with s3:=(Bx.s4 a2)}) (cond (Qy.fl a1) (some ((.bool (decide (D8 m (Qy.c a1) {a2 with s3:=(Bx.s4 a2)}≤EA m (Qy.c a1) a2))),[])) (some ((.bool (decide (EA m (Qy.c a1) {a2 with s3:=(Bx.s4 a2)}≥D8 m (Qy.c a1) a2))),[]))) none) (cond (decide (Qy.ft a1=ic 4)) (cond (Bx.emp a2||F2 a2) (cond (Qy.fl a1) (some ((.bool (decide (D8 m (Qy.c a1) a2≤EA m (Qy.c a1) a2))),[])) (some ((.bool (decide (EA m (Qy.c a1) a2≥D8 m (Qy.c a1) a2))),[]))) none) none)))))) (cond (decide (Qy.ft a1=ic 3)) (cond (decide (Sp.lo (Bx.s3 a2)≥Sp.hi (Bx.s4 a2))) (some ((.bool true),[])) (cond (decide (Qy.ft a1=ic 0)) (cond (Bx.emp {a2 with s0:=(Bx.s4 a2)}||F2 {a2 with s0:=(Bx.s4 a2)}) (cond (Qy.fl a1) (some ((.bool (decide (D8 m (Qy.c a1) {a2 with s0:=(Bx.s4 a2)}≤EA m (Qy.c a1) a2))),[])) (some ((.bool (decide (EA m (Qy.c a1) {a2 with s0:=(Bx.s4 a2)}≥D8 m (Qy.c a1) a2))),[]))) none) (cond (decide (Qy.ft a1=ic 1)) (cond (Bx.emp {a2 with s1:=(Bx.s4 a2)}||F2 {a2 with s1:=(Bx.s4 a2)}) (cond (Qy.fl a1) (some ((.bool (decide (D8 m (Qy.c a1) {a2 with s1:=(Bx.s4 a2)}≤EA m (Qy.c a1) a2))),[])) (some ((.bool (decide (EA m (Qy.c a1) {a2 with s1:=(Bx.s4 a2)}≥D8 m (Qy.c a1) a2))),[]))) none) (cond (decide (Qy.ft a1=ic 2)) (cond (Bx.emp {a2 with s2:=(Bx.s4 a2)}||F2 {a2 with s2:=(Bx.s4 a2)}) (cond (Qy.fl a1) (some ((.bool (decide (D8 m (Qy.c a1) {a2 with s2:=(Bx.s4 a2)}≤EA m (Qy.c a1) a2))),[])) (some ((.bool (decide (EA m (Qy.c a1) {a2 with s2:=(Bx.s4 a2)}≥D8 m (Qy.c a1) a2))),[]))) none) (cond (decide (Qy.ft a1=ic 3)) (cond (Bx.emp {a2 with s3:=(Bx.s4 a2)}||F2 {a2 with s3:=(Bx.s4 a2)}) (cond (Qy.fl a1) (some ((.bool (decide (D8 m (Qy.c a1) {a2 with s3:=(Bx.s4 a2)}≤EA m (Qy.c a1) a2))),[])) (some ((.bool (decide (EA m (Qy.c a1) {a2 with s3:=(Bx.s4 a2)}≥D8 m (Qy.c a1) a2))),[]))) none) (cond (decide (Qy.ft a1=ic 4)) (cond (Bx.emp a2||F2 a2) (cond (Qy.fl a1) (some ((.bool (decide (D8 m (Qy.c a1) a2≤EA m (Qy.c a1) a2))),[])) (some ((.bool (decide (EA m (Qy.c a1) a2≥D8 m (Qy.c a1) a2))),[]))) none) none)))))) (cond (decide (Qy.ft a1=ic 4)) (cond (decide (Sp.lo (Bx.s4 a2)≥Sp.hi (Bx.s4 a2))) (some ((.bool true),[])) (cond (decide (Qy.ft a1=ic 0)) (cond (Bx.emp {a2 with s0:=(Bx.s4 a2)}||F2 {a2 with s0:=(Bx.s4 a2)}) (cond (Qy.fl a1) (some ((.bool (decide (D8 m (Qy.c a1) {a2 with s0:=(Bx.s4 a2)}≤EA m (Qy.c a1) a2))),[])) (some ((.bool (decide (EA m (Qy.c a1) {a2 with s0:=(Bx.s4 a2)}≥D8 m (Qy.c a1) a2))),[]))) none) (cond (decide (Qy.ft a1=ic 1)) (cond (Bx.emp {a2 with s1:=(Bx.s4 a2)}||F2 {a2 with s1:=(Bx.s4 a2)}) (cond (Qy.fl a1) (some ((.bool (decide (D8 m (Qy.c a1) {a2 with s1:=(Bx.s4 a2)}≤EA m (Qy.c a1) a2))),[])) (some ((.bool (decide (EA m (Qy.c a1) {a2 with s1:=(Bx.s4 a2)}≥D8 m (Qy.c a1) a2))),[]))) none) (cond (decide (Qy.ft a1=ic 2)) (cond (Bx.emp {a2 with s2:=(Bx.s4 a2)}||F2 {a2 with s2:=(Bx.s4 a2)}) (cond (Qy.fl a1) (some ((.bool (decide (D8 m (Qy.c a1) {a2 with s2:=(Bx.s4 a2)}≤EA m (Qy.c a1) a2))),[])) (some ((.bool (decide (EA m (Qy.c a1) {a2 with s2:=(Bx.s4 a2)}≥D8 m (Qy.c a1) a2))),[]))) none) (cond (decide (Qy.ft a1=ic 3)) (cond (Bx.emp {a2 with s3:=(Bx.s4 a2)}||F2 {a2 with s3:=(Bx.s4 a2)}) (cond (Qy.fl a1) (some ((.bool (decide (D8 m (Qy.c a1) {a2 with s3:=(Bx.s4 a2)}≤EA m (Qy.c a1) a2))),[])) (some ((.bool (decide (EA m (Qy.c a1) {a2 with s3:=(Bx.s4 a2)}≥D8 m (Qy.c a1) a2))),[]))) none) (cond (decide (Qy.ft a1=ic 4)) (cond (Bx.emp a2||F2 a2) (cond (Qy.fl a1) (some ((.bool (decide (D8 m (Qy.c a1) a2≤EA m (Qy.c a1) a2))),[])) (some ((.bool (decide (EA m (Qy.c a1) a2≥D8 m (Qy.c a1) a2))),[]))) none) none)))))) none))))))) none)):=by kernel_rfl
theorem Lk (N:Nat) (m:Md) (a1:Qy) (a2:Bx) (b6:Bool) (x7 x42 x43:Int) (again:St→DO) (k:Out→St→DO):EZ (LM N) (DK NY [1,1,1,0,1,0,1,1,1,0,0,1,0,0]) (TO m a1 a2 b6 x7 x42 x43) (EN again ⟨[3,4,5,6,7,42,43],[3,4,5],[]⟩ k)=(cond (decide (x43 < x42)) (cond (Bx.emp a2||F2 a2) (cond (x43 != Qy.c a1) (cond (decide (D8 m x43 a2≥x7)) (k .ret (TO m a1 a2 false x7 x42 x43)) (again (TO m a1 a2 b6 x7 x42 (AA AB (x43+1))))) (again (TO m a1 a2 b6 x7 x42 (AA AB (x43+1))))) none) (k (.exit 1) (TO m a1 a2 b6 x7 x42 x43))):=by kernel_rfl
theorem Xa (N:Nat) (m:Md) (a1:Qy) (a2:Bx) (b6:Bool) (x7 x42 x43:Int):(DQ 1 (DS (LM N) (DK NY [1,1,1,0,1,0,1,1,1,0,1]) (DQ 0 (DS (LM N) (DK NY [1,1,1,1]) (DT (LM N) none [.tmp 6] [[.bool]]))))) (.exit 1) (TO m a1 a2 b6 x7 x42 x43)=(some ((.bool true),[])):=by kernel_rfl
theorem Xb (N:Nat) (m:Md) (a1:Qy) (a2:Bx) (b6:Bool) (x7 x42 x43:Int):(DQ 1 (DS (LM N) (DK NY [1,1,1,0,1,0,1,1,1,0,1]) (DQ 0 (DS (LM N) (DK NY [1,1,1,1]) (DT (LM N) none [.tmp 6] [[.bool]]))))) .ret (TO m a1 a2 b6 x7 x42 x43)=(some ((.bool b6),[])):=by kernel_rfl
def JU (N:Nat):Env:=D5 [(69,bE),(68,bP),(67,cV),(70,WE),(65,NV),(66,WF)] [(8,⟨[3,4,6,9,29,30,31],[3,4],[]⟩)] 59 N
abbrev TN (m:Md) (q:Qy) (b6 b9:Bool) (l29:LI) (x30 x31:Int):St:=⟨[(3,(.ptr 3 0 0)),(4,(.ptr 4 0 0)),(6,(.bool b6)),(9,(.bool b9)),(29,(.list true E6 l29)),(30,(.i x30)),(31,(.i x31))],[(3,(some (.box (Md.cs m)))),(4,(some (.box (Qy.cs q))))]⟩
theorem zdj (N:Nat) (m:Md) (q:Qy) (v:Vd):DZ (JU N) LU [.tmp 6] [[.bool]] [(Md.V m),(Qy.V q),(Vd.V v)]=(cond (!FG m q) (some ((.bool false),[])) (cond (Vd.kind v==1) (cond (Option.isSome (LE (GJ q) (Vd.proof v))) (DY (JU N) (DK LU [1,1,1,0,1,0,1,0,1,0,1,0,0]) ⟨[3,4,6,9,29,30,31],[3,4],[]⟩ N (TN m q false true (Option.getD (LE (GJ q) (Vd.proof v)) []) (ic (AF (Option.getD (LE (GJ q) (Vd.proof v)) []))) 0) (DQ 1 (DS (JU N) (DK LU [1,1,1,0,1,0,1,0,1,1]) (DQ 0 (DS (JU N) (DK LU [1,1,1,1]) (DT (JU N) none [.tmp 6] [[.bool]])))))) (DY (JU N) (DK LU [1,1,1,0,1,0,1,0,1,0,1,0,0]) ⟨[3,4,6,9,29,30,31],[3,4],[]⟩ N (TN m q false false [] (ic 0) 0) (DQ 1 (DS (JU N) (DK LU [1,1,1,0,1,0,1,0,1,1]) (DQ 0 (DS (JU N) (DK LU [1,1,1,1]) (DT (JU N) none [.tmp 6] [[.bool]]))))))) (cond (Vd.kind v==2) (cond (Bx.has (GJ q) {p0:=Vd.w0 v,p1:=Vd.w1 v,p2:=Vd.w2 v,p3:=Vd.w3 v} (Vd.twin v)) (some ((.bool (HJ m q {p0:=Vd.w0 v,p1:=Vd.w1 v,p2:=Vd.w2 v,p3:=Vd.w3 v} (Vd.twin v))),[])) (some ((.bool false),[]))) (some ((.bool false),[]))))):=by kernel_rfl
theorem tD (N:Nat) (m:Md) (q:Qy) (b6 b9:Bool) (l29:LI) (x30 x31:Int) (again:St→DO) (k:Out→St→DO):EZ (JU N) (DK LU [1,1,1,0,1,0,1,0,1,0,1,0,0]) (TN m q b6 b9 l29 x30 x31) (EN again ⟨[3,4,6,9,29,30,31],[3,4],[]⟩ k)=(cond (decide (x31 < x30)) (cond (decide (0≤x31)&&decide (x31 < ic (AF l29))) (cond (FG m q&&(Bx.emp (D7 (AH l29 (AE x31) default))||F2 (D7 (AH l29 (AE x31) default)))) (cond (!GQ m q (D7 (AH l29 (AE x31) default))) (k .ret (TN m q false b9 l29 x30 x31)) (again (TN m q b6 b9 l29 x30 (AA AB (x31+1))))) none) none) (k (.exit 1) (TN m q b6 b9 l29 x30 x31))):=by kernel_rfl
theorem Ad (N:Nat) (m:Md) (q:Qy) (b6 b9:Bool) (l29:LI) (x30 x31:Int):(DQ 1 (DS (JU N) (DK LU [1,1,1,0,1,0,1,0,1,1]) (DQ 0 (DS (JU N) (DK LU [1,1,1,1]) (DT (JU N) none [.tmp 6] [[.bool]]))))) (.exit 1) (TN m q b6 b9 l29 x30 x31)=(some ((.bool b9),[])):=by kernel_rfl
theorem Wy (N:Nat) (m:Md) (q:Qy) (b6 b9:Bool) (l29:LI) (x30 x31:Int):(DQ 1 (DS (JU N) (DK LU [1,1,1,0,1,0,1,0,1,1]) (DQ 0 (DS (JU N) (DK LU [1,1,1,1]) (DT (JU N) none [.tmp 6] [[.bool]]))))) .ret (TN m q b6 b9 l29 x30 x31)=(some ((.bool b6),[])):=by kernel_rfl
open Go Go.Proofs
theorem zhS:DX PR B0 192 cX:=by
 refine D6 [] [] cX [[.bool]] Tryz.func192 zbm trivial ?_;intro vs r hwf h;unfold cX at h;split at h
 ·rename_i s p a;rw [R.get_ok] at h;refine ⟨0,(zea 0 s p a).trans ?_⟩;rw [← h];unfold KI;show _=some (V.bool (cond s (p==0&&a==0) (decide (0≤p)&&decide (p≤4))),[]);cases s with
  | true=>
   simp only [BJ,B2];rfl
  | false=>
   simp only [A9];by_cases hp:0≤p
   ·rw [AD (show p≥0 from hp)]; rfl
   ·rw [AL (show ¬ p≥0 from hp)]; rfl
 ·simp [R.get] at h
def Vs (o:Option (Int × Int)):Int:=match o with
 | some st=>cond (!(st.1==0)||decide (st.2 > 200)) 0 st.2
 | none=>0
theorem nX (N:Nat) (l:LI) (K:Out→St→DO) (hl:l.length≤65536)
  (hx:∀ x2 x3 x4 x11 x12,K (.exit 0) ⟨[(2,(.int .i64 x2)),(3,(.int .i64 x3)),(4,(.int .i64 x4)),(10,(.list true EC l)),(11,(.int .i64 x11)),(12,(.int .i64 x12))],[]⟩=cond (x3 != 0) (some ((.int .i64 0),[])) (cond (decide (x4 > 200)) (some ((.int .i64 0),[])) (some ((.int .i64 x4),[]))))
  (hr:∀ x2 x3 x4 x11 x12,K .ret ⟨[(2,(.int .i64 x2)),(3,(.int .i64 x3)),(4,(.int .i64 x4)),(10,(.list true EC l)),(11,(.int .i64 x11)),(12,(.int .i64 x12))],[]⟩=some (.int .i64 x2,[])) :
  ∀ (d i n:Nat) (left most:Int),i+d=l.length→d < n→0≤left→left≤i+1 →
   DY (QY N) (DK UJ [1,1,1,0,1,0,0]) ⟨[2,3,4,10,11,12],[],[]⟩ n ⟨[(2,(.int .i64 0)),(3,(.int .i64 left)),(4,(.int .i64 most)),(10,(.list true EC l)),(11,(.int .i64 (ic l.length))),(12,(.int .i64 (i:Int)))],[]⟩ K=some (.int .i64 (Vs (KS (l.drop i) (left,most))),[])
 | d,i,0,_,_,_,h,_,_=>absurd h (by omega)
 | 0,i,n+1,left,most,hd,_,_,_=>by
  rw [D4,Me,I2 (by omega),DJ,hx,CD (by omega)];show _=some (V.int .i64 (cond (!(left==0)||decide (most > 200)) 0 most),[])
  have:(left != 0)=!(left==0):=rfl
  rw [this];cases left==0 <;> cases decide (most > 200) <;> rfl
 | d+1,i,n+1,left,most,hd,hn,h0,h1=>by
  have hi:i < l.length:=by omega
  rw [D4,Me,G8 hi,DI,H7,B4,DI,HC (by omega),H6 hi,BE hi,KS];unfold N3;have er:KI (NN (IV.toBool (IV.cell l[i] 0)) (IV.toInt (IV.cell l[i] 1)) (IV.toInt (IV.cell l[i] 2)))=KI l[i]:=rfl;have es:IV.toBool (IV.cell l[i] 0)=GS l[i]:=rfl;rw [er,es];generalize l[i]=x;cases hz:(left==0) with
  | true=>rw [DI,hr]; rfl
  | false=>
   have hne:left≠0:=by simpa using hz
   rw [DJ];cases KI x with
   | false=>rw [A7,DI,hr]; rfl
   | true=>
    rw [A3,DJ,Bool.or_false,DJ];cases GS x with
    | true=>
     rw [DI,DI,show AA AB (left - 1)=left - 1 from EH (by omega) (by omega)];exact nX N l K hl hx hr d (i+1) n (left - 1) most (by omega) (by omega) (by omega) (by omega)
    | false=>
     rw [DJ,DJ,show AA AB (left+1)=left+1 from EH (by omega) (by omega)];exact nX N l K hl hx hr d (i+1) n (left+1) _ (by omega) (by omega) (by omega) (by omega)
theorem zhR:DX PR B0 156 cW:=by
 refine D6 [(192,cX)] [(5,⟨[2,3,4,10,11,12],[],[]⟩)] cW [[.z]] Tryz.func156 zbl ⟨zhS,trivial⟩ ?_;intro vs r hwf h;unfold cW at h;split at h
 ·rename_i l;rw [R.get_ok] at h;refine ⟨l.length+1,(zd9 (l.length+1) l).trans ?_⟩;rw [← h];unfold LW;by_cases hl:l.length≤65536
  ·rw [AL (show ¬ ic l.length > 65536 by simp only [ic]; omega),DJ,DJ]
   have:=nX (l.length+1) l _ hl (fun x2 x3 x4 x11 x12=>Yb (l.length+1) x2 x3 x4 l x11 x12) (fun x2 x3 x4 x11 x12=>Yc (l.length+1) x2 x3 x4 l x11 x12) l.length 0 (l.length+1) 1 1 (by omega) (by omega) (by omega) (by omega)
   rw [BY] at this;exact this
  ·rw [AD (show ic l.length > 65536 by simp only [ic]; omega)];rfl
 ·simp [R.get] at h
theorem zhP:DX PR B0 110 cU:=by
 refine D6 [(156,cW)] [] cU [[.bool]] Tryz.func110 zbj ⟨zhR,trivial⟩ ?_;intro vs r hwf h;unfold cU at h;split at h
 ·rename_i l;rw [R.get_ok] at h;exact ⟨0,(zd8 0 l).trans h⟩
 ·simp [R.get] at h
theorem zdU (b:Bx) (p:Pt) (t:Int):DZ (Pq 6) wH [.tmp 6] [[.bool]] [b.V,p.V,.int .i64 t] =
 cond (!b.s0.has p.p0) (some (.bool false,[])) (cond (!b.s1.has p.p1) (some (.bool false,[])) (cond (!b.s2.has p.p2) (some (.bool false,[])) (cond (!b.s3.has p.p3) (some (.bool false,[])) (some (.bool (b.s4.has t),[]))))):=by kernel_rfl
theorem zg4:DX PR B0 69 bE:=by
 refine D6 [(114,WJ)] [(2,⟨[2,3,6,9,10],[3],[]⟩)] bE [[.bool]] Tryz.func69 zak ⟨Jw,trivial⟩ ?_;intro vs r hwf h;unfold bE at h;split at h
 ·rename_i b p t;replace h:=JS h;obtain ⟨b,rfl,h⟩:=h;replace h:=YE h;obtain ⟨p,rfl,h⟩:=h;rw [R.get_ok] at h;refine ⟨6,(zdU b p t).trans ?_⟩;rw [← h];unfold Bx.has;cases b.s0.has p.p0 <;> cases b.s1.has p.p1 <;> cases b.s2.has p.p2 <;> cases b.s3.has p.p3 <;> rfl
 ·simp [R.get] at h
open Go
theorem PC {s:Sp} {n:Int}:s.has n=true↔s.lo≤n∧n≤s.hi:=by
 unfold Sp.has;rw [AI,AQ,AQ]
theorem zif {s:Sp}:s.emp=false↔s.lo≤s.hi:=by
 unfold Sp.emp;rw [BW];omega
theorem Kl {lo hi n:Int}:(MY lo hi).has n=true↔lo≤n∧n≤hi:=by
 unfold MY;cases hd:decide (lo > hi) with
 | true=>
  have:=A1 hd
  rw [DI,PC];show (1:Int)≤n∧n≤0↔_;omega
 | false=>rw [DJ,PC]
theorem nR {s:Sp} {a n:Int}:(s.cutL a).has n=true↔s.has n=true∧n≤a:=by
 unfold Sp.cutL;rw [Kl,PC];omega
theorem nP {s:Sp} {a n:Int} (ha : -9223372036854775808≤a) (hs:s.hi≤9223372036854775807):(s.cutH a).has n=true↔s.has n=true∧a < n:=by
 unfold Sp.cutH;cases hd:decide (a≥s.hi) with
 | true=>
  have:=A1 hd
  rw [DI,PC,PC];show (1:Int)≤n∧n≤0↔_;omega
 | false=>
  have:=BH hd
  have e:FL (a+1)=a+1:=EH (by omega) (by omega);rw [DJ,Kl,PC,e];omega
def co (p:Pt) (t:Int):Nat→Int
 | 0=>p.p0
 | 1=>p.p1
 | 2=>p.p2
 | 3=>p.p3
 | _=>t
theorem Q2 {b:Bx} {p:Pt} {t:Int}:b.has p t=true↔∀ i,i < 5→(b.g i).has (co p t i)=true:=by
 unfold Bx.has;simp only [AI];constructor
 ·rintro ⟨h0,h1,h2,h3,h4⟩ i hi
  match i,hi with
  | 0,_=>exact h0
  | 1,_=>exact h1
  | 2,_=>exact h2
  | 3,_=>exact h3
  | 4,_=>exact h4
  | i+5,h=>exact absurd h (by omega)
 ·intro h;exact ⟨h 0 (by omega),h 1 (by omega),h 2 (by omega),h 3 (by omega),h 4 (by omega)⟩
theorem m8 {b:Bx}:b.emp=false↔∀ i,i < 5→(b.g i).lo≤(b.g i).hi:=by
 unfold Bx.emp;simp only [vas,zif];constructor
 ·rintro ⟨h0,h1,h2,h3,h4⟩ i hi
  match i,hi with
  | 0,_=>exact h0
  | 1,_=>exact h1
  | 2,_=>exact h2
  | 3,_=>exact h3
  | 4,_=>exact h4
  | i+5,h=>exact absurd h (by omega)
 ·intro h;exact ⟨h 0 (by omega),h 1 (by omega),h 2 (by omega),h 3 (by omega),h 4 (by omega)⟩
theorem LR (b:Bx) (s:Sp):∀ {i j:Nat},i < 5→j < 5→(b.p s i).g j=if j=i then s else b.g j
 | 0,0,_,_=>rfl
 | 0,1,_,_=>rfl
 | 0,2,_,_=>rfl
 | 0,3,_,_=>rfl
 | 0,4,_,_=>rfl
 | 1,0,_,_=>rfl
 | 1,1,_,_=>rfl
 | 1,2,_,_=>rfl
 | 1,3,_,_=>rfl
 | 1,4,_,_=>rfl
 | 2,0,_,_=>rfl
 | 2,1,_,_=>rfl
 | 2,2,_,_=>rfl
 | 2,3,_,_=>rfl
 | 2,4,_,_=>rfl
 | 3,0,_,_=>rfl
 | 3,1,_,_=>rfl
 | 3,2,_,_=>rfl
 | 3,3,_,_=>rfl
 | 3,4,_,_=>rfl
 | 4,0,_,_=>rfl
 | 4,1,_,_=>rfl
 | 4,2,_,_=>rfl
 | 4,3,_,_=>rfl
 | 4,4,_,_=>rfl
 | i+5,_,h,_=>absurd h (by omega)
 | _,j+5,_,h=>absurd h (by omega)
def Bx.ok (b:Bx):Prop:=∀ i,i < 5→(b.g i).hi≤2147483647
theorem YY (b:Bx) (h:b.emp=false):b.has b.low b.s4.hi=true:=by
 rw [m8] at h;rw [Q2];intro i hi;rw [PC]
 have:=h i hi
 match i,hi with
 | 0,_=>exact ⟨vac _,this⟩
 | 1,_=>exact ⟨vac _,this⟩
 | 2,_=>exact ⟨vac _,this⟩
 | 3,_=>exact ⟨vac _,this⟩
 | 4,_=>exact ⟨this,vac _⟩
 | i+5,h=>exact absurd h (by omega)
theorem iP {b:Bx} {p:Pt} {t:Int} (h:b.has p t=true):b.emp=false:=by
 rw [Q2] at h;rw [m8];intro i hi
 have:=PC.1 (h i hi)
 omega
theorem nQ {b:Bx} {i:Nat} (hi:i < 5) {a:Int} {p:Pt} {t:Int}:(b.cutL (i:Int) a).has p t=true↔b.has p t=true∧co p t i≤a:=by
 unfold Bx.cutL;rw [BF,Q2,Q2];constructor
 ·intro h;refine ⟨fun j hj=>?_,?_⟩
  ·have:=h j hj
   rw [LR b _ hi hj] at this;by_cases e:j=i
   ·rw [BP e,nR] at this;rw [e] at this ⊢;exact this.1
   ·rw [BD e] at this;exact this
  ·have:=h i hi
   rw [LR b _ hi hi,BP rfl,nR] at this;exact this.2
 ·rintro ⟨h,ha⟩ j hj;rw [LR b _ hi hj];by_cases e:j=i
  ·rw [BP e,nR,e];exact ⟨h i hi,ha⟩
  ·rw [BD e];exact h j hj
theorem nO {b:Bx} (hb:b.ok) {i:Nat} (hi:i < 5) {a:Int} (ha : -2147483648≤a) {p:Pt} {t:Int}:(b.cutH (i:Int) a).has p t=true↔b.has p t=true∧a < co p t i:=by
 have hs:=hb i hi;unfold Bx.cutH;rw [BF,Q2,Q2];constructor
 ·intro h;refine ⟨fun j hj=>?_,?_⟩
  ·have:=h j hj
   rw [LR b _ hi hj] at this;by_cases e:j=i
   ·rw [BP e,nP (by omega) (by omega)] at this;rw [e] at this ⊢;exact this.1
   ·rw [BD e] at this;exact this
  ·have:=h i hi
   rw [LR b _ hi hi,BP rfl,nP (by omega) (by omega)] at this;exact this.2
 ·rintro ⟨h,ha'⟩ j hj;rw [LR b _ hi hj];by_cases e:j=i
  ·rw [BP e,nP (by omega) (by omega),e];exact ⟨h i hi,ha'⟩
  ·rw [BD e];exact h j hj
theorem Km {lo hi:Int} (h:hi≤2147483647):(MY lo hi).hi≤2147483647:=by
 unfold MY;cases decide (lo > hi) with
 | true=>rw [DI]; show (0:Int)≤_; omega
 | false=>exact h
theorem fN {b:Bx} (hb:b.ok) {s:Sp} (hs:s.hi≤2147483647) {i:Nat} (hi:i < 5):(b.p s i).ok:=by
 intro j hj;rw [LR b _ hi hj];split
 ·exact hs
 ·exact hb j hj
theorem zD {b:Bx} (hb:b.ok) {i:Nat} (hi:i < 5) (a:Int):(b.cutL (i:Int) a).ok:=by
 unfold Bx.cutL;rw [BF];refine fN hb ?_ hi;unfold Sp.cutL;exact Km (by have:=hb i hi; omega)
theorem y9 {b:Bx} (hb:b.ok) {i:Nat} (hi:i < 5) (a:Int):(b.cutH (i:Int) a).ok:=by
 unfold Bx.cutH;rw [BF];refine fN hb ?_ hi;unfold Sp.cutH;cases decide (a≥(b.g i).hi) with
 | true=>rw [DI]; show (0:Int)≤_; omega
 | false=>exact Km (hb i hi)
theorem IO (b:Bx):D7 b.I=b:=rfl
theorem iW (p:Pt) (t:Int):∀ {i:Nat},i < 4→co p t i=p.g i
 | 0,_=>rfl
 | 1,_=>rfl
 | 2,_=>rfl
 | 3,_=>rfl
 | i+4,h=>absurd h (by omega)
abbrev nd (l:LI) (i:Nat):Nd:=DL (l.getD i default).toInt
def XI (l:LI) (k j:Nat):Prop:=(nd l k).lf=false∧((nd l k).l=(j:Int)∨(nd l k).r=(j:Int))
structure TreeOK (l:LI):Prop where
 len:1≤l.length∧l.length≤31
 node:∀ k,k < l.length→GC (l.getD k default).toInt=true
 fork:∀ k,k < l.length→(nd l k).lf=false→(0≤(nd l k).f∧(nd l k).f < 4)∧E2 (nd l k).a=true∧((k:Int) < (nd l k).l∧(nd l k).l < ic l.length)∧((k:Int) < (nd l k).r∧(nd l k).r < ic l.length)∧(nd l k).l≠(nd l k).r
 parent:∀ j,1≤j→j < l.length→∃ k,k < l.length∧XI l k j
 alone:∀ j k k',1≤j→j < l.length→k < l.length→k' < l.length→XI l k j→XI l k' j→k=k'
theorem ziG {l:List Nat}:∀ {k a:Nat},l[k]?=some a→a≤l.sum:=by
 induction l with
 | nil=>intro k a h; simp at h
 | cons x r ih=>
  intro k a h;cases k with
  | zero=>simp at h; simp; omega
  | succ k=>have:=ih (k:=k) (a:=a) (by simpa using h); simp; omega
theorem Mz {l:List Nat}:∀ {k k' a b:Nat},k < k'→l[k]?=some a→l[k']?=some b→a+b≤l.sum:=by
 induction l with
 | nil=>intro k k' a b _ h; simp at h
 | cons x r ih=>
  intro k k' a b hk h h';cases k with
  | zero=>
   cases k' with
   | zero=>omega
   | succ k'=>
    have:=ziG (l:=r) (k:=k') (a:=b) (by simpa using h')
    simp at h;simp;omega
  | succ k=>
   cases k' with
   | zero=>omega
   | succ k'=>
    have:=ih (k:=k) (k':=k') (a:=a) (b:=b) (by omega) (by simpa using h) (by simpa using h')
    simp;omega
theorem ziI {l:List Nat}:0 < l.sum→∃ (k a:Nat),l[k]?=some a∧0 < a:=by
 induction l with
 | nil=>intro h; simp at h
 | cons x r ih=>
  intro h;by_cases hx:0 < x
  ·exact ⟨0,x,rfl,hx⟩
  ·obtain ⟨k,a,hk,ha⟩:=ih (by simp at h; omega);exact ⟨k+1,a,by simpa using hk,ha⟩
theorem pU {x:Nd} {j:Nat}:0 < K8 x j↔x.lf=false∧(x.l=(j:Int)∨x.r=(j:Int)):=by
 unfold K8;cases x.lf with
 | true=>simp
 | false=>
  rw [DJ];by_cases h1:x.l=(j:Int) <;> by_cases h2:x.r=(j:Int) <;> simp [h1,h2]
theorem eH {l:LI} {k:Nat} (h:k < l.length):l.getD k default=l[k]:=by simp [h]
theorem tT {l:LI} (h:GV l 4=true):TreeOK l:=by
 have key:∀ {dim n:Int} {l:LI} {i k:Nat} (hk:k < l.length),KF dim n i l=true→GC (l[k]).toInt=true∧N4 dim n (i+k) (DL (l[k]).toInt)=true:=by
  intro dim n l
  induction l with
  | nil=>intro i k hk; exact absurd hk (Nat.not_lt_zero k)
  | cons w r ih=>
   intro i k hk h;rw [KF] at h;simp only [AI] at h;cases k with
   | zero=>exact h.1
   | succ k=>
    have:=ih (k:=k) (by simpa using hk) h.2
    rw [show i+1+k=i+(k+1) by omega] at this;exact this
 unfold GV at h;simp only [AI] at h;obtain ⟨⟨h1,h31⟩,hn,ho⟩:=h;have hlen:=AN h1;have once:∀ j,1≤j→j < l.length→IW l j=1:=fun j hj hjl=>by
  unfold ZR at ho;rw [CR] at ho
  have:=ho (j - 1) (vaR.2 (by omega))
  rw [show j - 1+1=j by omega] at this;simpa using this
 have at_:∀ k (hk:k < l.length) j,(l.map fun w=>K8 (DL w.toInt) j)[k]?=some (K8 (nd l k) j):=fun k hk j=>by
  rw [B9,A8 hk];unfold nd;rw [eH hk];rfl
 refine ⟨⟨hlen,AN h31⟩,fun k hk=>by rw [eH hk]; exact (key hk hn).1,fun k hk hl=>?_,fun j hj hjl=>?_,fun j k k' hj hjl hk hk' hn1 hn2=>?_⟩
 ·have h2:=(key hk hn).2;have h3:=(key hk hn).1;rw [BI] at h2;unfold nd at hl ⊢;rw [eH hk] at hl ⊢;unfold N4 at h2;rw [hl,DJ] at h2;simp only [AI,B3,BW,A4] at h2;obtain ⟨q1,q2,q3,q4⟩:=h2;have hr:=(kK h3).2;unfold MW Q4 at hr;rw [hl,DJ] at hr;simp only [AI,AQ] at hr;exact ⟨⟨hr.2.1,hr.2.2.1⟩,hr.2.2.2.1,⟨by omega,by simp only [ic] at q4 ⊢; omega⟩,⟨by omega,by simp only [ic] at q4 ⊢; omega⟩,q2⟩
 ·have h2:=once j hj hjl;unfold IW at h2;obtain ⟨k,a,hk,ha⟩:=ziI (l:=l.map fun w=>K8 (DL w.toInt) j) (by omega);have hkl:k < l.length:=by
   have:=(BR.1 hk).1
   simpa using this
  rw [at_ k hkl j] at hk;simp only [AC] at hk;subst hk;exact ⟨k,hkl,pU.1 ha⟩
 ·have h2:=once j hj hjl;unfold IW at h2;have p1:0 < K8 (nd l k) j:=pU.2 hn1;have p2:0 < K8 (nd l k') j:=pU.2 hn2;rcases Nat.lt_trichotomy k k' with hlt | heq | hlt
  ·have:=Mz hlt (at_ k hk j) (at_ k' hk' j)
   omega
  ·exact heq
  ·have:=Mz hlt (at_ k' hk' j) (at_ k hk j)
   omega
def QI (l:LI) (p:Pt) (i:Nat):Int:=(IR l p 31 (i:Int)).2.v
theorem jC {l:LI} (h:TreeOK l) (p:Pt) {i:Nat} (hi:i < l.length) (n:Nat):IR l p (n+1) (i:Int) =
  cond (nd l i).lf ((i:Int),nd l i) (cond (decide (p.g (nd l i).f.toNat≤(nd l i).a)) (IR l p n (nd l i).l) (IR l p n (nd l i).r)):=by
 rw [IR,AL (show ¬ (i:Int)≥ic l.length by simp only [ic]; omega),DJ,BF,h.node i hi,A3,DJ]
theorem jD {l:LI} (h:TreeOK l) (p:Pt):∀ (n n' i:Nat),i < l.length→l.length - i≤n→l.length - i≤n'→IR l p n (i:Int)=IR l p n' (i:Int)
 | 0,_,i,hi,h1,_=>absurd h1 (by omega)
 | _+1,0,i,hi,_,h2=>absurd h2 (by omega)
 | n+1,n'+1,i,hi,h1,h2=>by
  rw [jC h p hi,jC h p hi];cases hl:(nd l i).lf with
  | true=>rfl
  | false=>
   obtain ⟨_,_,⟨a1,a2⟩,⟨b1,b2⟩,_⟩:=h.fork i hi hl;simp only [ic] at a2 b2;rw [DJ,DJ];cases decide (p.g (nd l i).f.toNat≤(nd l i).a) with
   | true=>
    have e:(nd l i).l=(((nd l i).l.toNat:Nat):Int):=by omega
    rw [DI,DI,e];exact jD h p n n' _ (by omega) (by omega) (by omega)
   | false=>
    have e:(nd l i).r=(((nd l i).r.toNat:Nat):Int):=by omega
    rw [DJ,DJ,e];exact jD h p n n' _ (by omega) (by omega) (by omega)
theorem Og {l:LI} (h:TreeOK l) (p:Pt) {i:Nat} (hi:i < l.length) (hl:(nd l i).lf=true):QI l p i=(nd l i).v:=by
 unfold QI;rw [jC h p hi,hl,DI]
theorem Oe {l:LI} (h:TreeOK l) (p:Pt) {i:Nat} (hi:i < l.length) (hl:(nd l i).lf=false):QI l p i=QI l p (cond (decide (p.g (nd l i).f.toNat≤(nd l i).a)) (nd l i).l.toNat (nd l i).r.toNat):=by
 obtain ⟨_,_,⟨a1,a2⟩,⟨b1,b2⟩,_⟩:=h.fork i hi hl;have h31:=h.len.2;simp only [ic] at a2 b2;unfold QI;rw [jC h p hi,hl,DJ];cases decide (p.g (nd l i).f.toNat≤(nd l i).a) with
 | true=>
  rw [DI,DI];have e:(nd l i).l=(((nd l i).l.toNat:Nat):Int):=by omega
  rw [e,BF];rw [jD h p 30 31 _ (by omega) (by omega) (by omega)]
 | false=>
  rw [DJ,DJ];have e:(nd l i).r=(((nd l i).r.toNat:Nat):Int):=by omega
  rw [e,BF];rw [jD h p 30 31 _ (by omega) (by omega) (by omega)]
theorem zjc (l:LI) (p:Pt):HD l p=QI l p 0:=rfl
abbrev I1 (own:LI) (j:Nat):Bx:=D7 (own.getD j default)
def fr (l:LI) (i j:Nat):Prop:=i≤j∧j < l.length∧(j=0∨∃ k,k < i∧XI l k j)
structure PInv (l:LI) (b:Bx) (i:Nat) (own out:LI):Prop where
 len:own.length=l.length
 val:∀ j,fr l i j→∀ p t,(I1 own j).has p t=true→b.has p t=true∧QI l p 0=QI l p j
 ok:∀ j,fr l i j→(I1 own j).ok
 all:∀ p t,b.has p t=true→(∃ x∈out,(D7 x).has p t=true)∨∃ j,fr l i j∧(I1 own j).has p t=true
 out:∀ x∈out,(D7 x).emp=false∧(D7 x).ok∧∀ p t,(D7 x).has p t=true→b.has p t=true∧HD l p=HR x
theorem Aq {l:LI} (h:TreeOK l) {i:Nat} (hi:i < l.length):fr l i i:=by
 refine ⟨AZ _,hi,?_⟩;by_cases h0:i=0
 ·exact .inl h0
 ·obtain ⟨k,hk,hn⟩:=h.parent i (by omega) hi;refine .inr ⟨k,?_,hn⟩;obtain ⟨_,_,a,b,_⟩:=h.fork k hk hn.1;rcases hn.2 with e | e <;> omega
theorem sE {own:LI} {a j:Nat} {x:IV} (ha:a < own.length):(own.set a x).getD j default=if j=a then x else own.getD j default:=by
 rw [BV,List.getElem?_set];by_cases e:a=j
 ·subst e;rw [BP rfl,BP ha,BP rfl];rfl
 ·rw [BD e,BD (fun h=>e h.symm),← BV]
theorem zfA {l:LI} (h:TreeOK l) {b:Bx} {i:Nat} (hi:i < l.length) {own out:LI} (hp:PInv l b i own out) :
  PInv l b (i+1) (O3 (nd l i) i own) (cond ((nd l i).lf&&!(I1 own i).emp) (out++[fQ (I1 own i) (nd l i).v]) out):=by
 have hfi:=Aq h hi;cases hl:(nd l i).lf with
 | true=>
  have e1:O3 (nd l i) i own=own:=by unfold O3; rw [hl,DI]
  have hfr:∀ j,fr l (i+1) j→fr l i j:=fun j hj=>by
   refine ⟨by have:=hj.1; omega,hj.2.1,hj.2.2.imp_right ?_⟩;rintro ⟨k,hk,hn⟩;refine ⟨k,?_,hn⟩;rcases Nat.lt_succ_iff_lt_or_eq.1 hk with h1 | h1
   ·exact h1
   ·subst h1;rw [hn.1] at hl;cases hl
  have hrf:∀ j,fr l i j→j=i∨fr l (i+1) j:=fun j hj=>by
   by_cases e:j=i
   ·exact .inl e
   ·refine .inr ⟨by have:=hj.1; omega,hj.2.1,hj.2.2.imp_right ?_⟩;rintro ⟨k,hk,hn⟩;exact ⟨k,by omega,hn⟩
  rw [e1,BC];have hv:=fun p=>Og h p hi hl
  cases he:(I1 own i).emp with
  | true=>
   rw [A3,DJ];refine ⟨hp.len,fun j hj=>hp.val j (hfr j hj),fun j hj=>hp.ok j (hfr j hj),fun p t hb=>?_,hp.out⟩;rcases hp.all p t hb with h1 | ⟨j,hj,hh⟩
   ·exact .inl h1
   ·rcases hrf j hj with rfl | hj'
    ·rw [iP hh] at he;cases he
    ·exact .inr ⟨j,hj',hh⟩
  | false=>
   rw [A7,DI];refine ⟨hp.len,fun j hj=>hp.val j (hfr j hj),fun j hj=>hp.ok j (hfr j hj),fun p t hb=>?_,fun x hx=>?_⟩
   ·rcases hp.all p t hb with ⟨x,hx,hh⟩ | ⟨j,hj,hh⟩
    ·exact .inl ⟨x,AX.2 (.inl hx),hh⟩
    ·rcases hrf j hj with rfl | hj'
     ·exact .inl ⟨_,AX.2 (.inr (BM.2 rfl)),hh⟩
     ·exact .inr ⟨j,hj',hh⟩
   ·rcases AX.1 hx with hx | hx
    ·exact hp.out x hx
    ·obtain rfl:=BM.1 hx;refine ⟨he,hp.ok i hfi,fun p t hh=>?_⟩;obtain ⟨q1,q2⟩:=hp.val i hfi p t hh;refine ⟨q1,?_⟩;rw [zjc,q2,hv p];rfl
 | false=>
  obtain ⟨⟨f0,f4⟩,ha,⟨a1,a2⟩,⟨b1,b2⟩,hne⟩:=h.fork i hi hl;simp only [ic] at a2 b2;have ef:(nd l i).f=(((nd l i).f.toNat:Nat):Int):=by omega
  have hf5:(nd l i).f.toNat < 5:=by omega
  have e1:O3 (nd l i) i own=(own.set (nd l i).l.toNat ((I1 own i).cutL (nd l i).f (nd l i).a).I).set (nd l i).r.toNat ((I1 own i).cutH (nd l i).f (nd l i).a).I:=by unfold O3; rw [hl,DJ]
  have hlen:=hp.len;have at_:∀ j,(O3 (nd l i) i own).getD j default=if j=(nd l i).r.toNat then ((I1 own i).cutH (nd l i).f (nd l i).a).I else if j=(nd l i).l.toNat then ((I1 own i).cutL (nd l i).f (nd l i).a).I else own.getD j default:=fun j=>by
   rw [e1,sE (by rw [vaG]; omega)];congr 1;rw [sE (by omega)]
  have fits : -2147483648≤(nd l i).a∧(nd l i).a≤2147483647:=by
   unfold E2 at ha;simpa only [AI,AQ] using ha
  have hok:=hp.ok i hfi;have cl:∀ p t,((I1 own i).cutL (nd l i).f (nd l i).a).has p t=true↔(I1 own i).has p t=true∧p.g (nd l i).f.toNat≤(nd l i).a:=fun p t=>by
   have:=nQ (b:=I1 own i) hf5 (a:=(nd l i).a) (p:=p) (t:=t)
   rw [← ef,iW p t (by omega)] at this;exact this
  have ch:∀ p t,((I1 own i).cutH (nd l i).f (nd l i).a).has p t=true↔(I1 own i).has p t=true∧(nd l i).a < p.g (nd l i).f.toNat:=fun p t=>by
   have:=nO hok hf5 (a:=(nd l i).a) fits.1 (p:=p) (t:=t)
   rw [← ef,iW p t (by omega)] at this;exact this
  have nl:XI l i (nd l i).l.toNat:=⟨hl,.inl (by omega)⟩;have nr:XI l i (nd l i).r.toNat:=⟨hl,.inr (by omega)⟩;have hfr:∀ j,fr l (i+1) j→j≠(nd l i).l.toNat→j≠(nd l i).r.toNat→fr l i j:=fun j hj h1 h2=>by
   refine ⟨by have:=hj.1; omega,hj.2.1,hj.2.2.imp_right ?_⟩;rintro ⟨k,hk,hn⟩;refine ⟨k,?_,hn⟩;rcases Nat.lt_succ_iff_lt_or_eq.1 hk with h3 | h3
   ·exact h3
   ·subst h3;rcases hn.2 with e | e
    ·exact absurd (by omega) h1
    ·exact absurd (by omega) h2
  have hnot:∀ j,XI l i j→¬ fr l i j:=fun j hn hj=>by
   obtain ⟨h1,h2,h3⟩:=hj;have hj0:1≤j:=by rcases hn.2 with e | e <;> omega
   rcases h3 with h3 | ⟨k,hk,hk2⟩
   ·omega
   ·have:=h.alone j k i hj0 h2 (by omega) hi hk2 hn
    omega
  have fl:fr l (i+1) (nd l i).l.toNat:=⟨by omega,by omega,.inr ⟨i,by omega,nl⟩⟩;have frr:fr l (i+1) (nd l i).r.toNat:=⟨by omega,by omega,.inr ⟨i,by omega,nr⟩⟩;have hup:∀ j,fr l i j→j≠i→fr l (i+1) j:=fun j hj e=>by
   refine ⟨by have:=hj.1; omega,hj.2.1,hj.2.2.imp_right ?_⟩;rintro ⟨k,hk,hn⟩;exact ⟨k,by omega,hn⟩
  have hvf:=fun p=>Oe h p hi hl
  rw [BL,DJ];refine ⟨by rw [e1,vaG,vaG]; exact hp.len,fun j hj p t hh=>?_,fun j hj=>?_,fun p t hb=>?_,hp.out⟩
  ·unfold I1 at hh;rw [at_] at hh;by_cases hr:j=(nd l i).r.toNat
   ·rw [BP hr,IO,ch] at hh;obtain ⟨q1,q2⟩:=hp.val i hfi p t hh.1;refine ⟨q1,?_⟩;rw [q2,hvf p,AL (by omega),DJ,hr]
   ·rw [BD hr] at hh;by_cases hlj:j=(nd l i).l.toNat
    ·rw [BP hlj,IO,cl] at hh;obtain ⟨q1,q2⟩:=hp.val i hfi p t hh.1;refine ⟨q1,?_⟩;rw [q2,hvf p,AD hh.2,DI,hlj]
    ·rw [BD hlj] at hh;exact hp.val j (hfr j hj hlj hr) p t hh
  ·unfold I1;rw [at_];by_cases hr:j=(nd l i).r.toNat
   ·rw [BP hr,IO,ef];exact y9 hok hf5 _
   ·rw [BD hr];by_cases hlj:j=(nd l i).l.toNat
    ·rw [BP hlj,IO,ef];exact zD hok hf5 _
    ·rw [BD hlj];exact hp.ok j (hfr j hj hlj hr)
  ·rcases hp.all p t hb with h1 | ⟨j,hj,hh⟩
   ·exact .inl h1
   ·refine .inr ?_;by_cases e:j=i
    ·subst e;by_cases hd:p.g (nd l j).f.toNat≤(nd l j).a
     ·refine ⟨_,fl,?_⟩;unfold I1;rw [at_,BD (by omega),BP rfl,IO,cl];exact ⟨hh,hd⟩
     ·refine ⟨_,frr,?_⟩;unfold I1;rw [at_,BP rfl,IO,ch];exact ⟨hh,by omega⟩
    ·refine ⟨j,hup j hj e,?_⟩;unfold I1;rw [at_,BD (fun (er:j=(nd l i).r.toNat)=>hnot j (er ▸ nr) hj),BD (fun (er:j=(nd l i).l.toNat)=>hnot j (er ▸ nl) hj)];exact hh
theorem Fp {l:LI} (h:TreeOK l) {b:Bx}:∀ (m i:Nat) (own out:LI),i+m=l.length→PInv l b i own out→∃ own',PInv l b l.length own' (N8 (l.drop i) i own out)
 | 0,i,own,out,hd,hp=>by
  have hi:i=l.length:=by omega
  subst hi;rw [vaD,N8];exact ⟨own,hp⟩
 | m+1,i,own,out,hd,hp=>by
  have hi:i < l.length:=by omega
  rw [BE hi,N8];have hs:=zfA h hi hp;have e:nd l i=DL (l[i]).toInt:=by unfold nd; rw [eH hi]
  rw [e] at hs;exact Fp h m (i+1) _ _ (by omega) hs
theorem zcp {l:LI} (ht:GV l 4=true) {b:Bx} (hb:b.emp=false) (hok:b.ok) :
  (∀ x∈IT l b,(D7 x).emp=false∧(D7 x).ok∧∀ p t,(D7 x).has p t=true→b.has p t=true∧HD l p=HR x) ∧
   ∀ p t,b.has p t=true→∃ x∈IT l b,(D7 x).has p t=true:=by
 have h:=tT ht;have h1:=h.len.1;have hz:((BN l.length YX.I).set 0 b.I).getD 0 default=b.I:=by rw [sE (by simp; omega),BP rfl]
 have f0:∀ j,fr l 0 j→j=0:=fun j hj=>by
  rcases hj.2.2 with e | ⟨k,hk,_⟩
  ·exact e
  ·omega
 have h0:PInv l b 0 ((BN l.length YX.I).set 0 b.I) []:=by
  refine ⟨by simp,fun j hj p t hh=>?_,fun j hj=>?_,fun p t hh=>.inr ⟨0,Aq h (by omega),?_⟩,fun x hx=>by cases hx⟩
  ·obtain rfl:=f0 j hj;unfold I1 at hh;rw [hz,IO] at hh;exact ⟨hh,rfl⟩
  ·obtain rfl:=f0 j hj;unfold I1;rw [hz,IO];exact hok
  ·unfold I1;rw [hz,IO];exact hh
 obtain ⟨own',hp⟩:=Fp h l.length 0 _ _ (by omega) h0;have e:IT l b=N8 (l.drop 0) 0 ((BN l.length YX.I).set 0 b.I) []:=by unfold IT; rw [ht,hb]; rfl
 rw [e];refine ⟨hp.out,fun p t hh=>?_⟩;rcases hp.all p t hh with h1 | ⟨j,hj,_⟩
 ·exact h1
 ·have:=hj.1
  have:=hj.2.1
  omega
theorem Dd:∀ {l:LI} {a:Int},O5 l a≤a∧∀ x∈l,O5 l a≤HR x
 | [],a=>⟨vac _,fun x hx=>by cases hx⟩
 | y :: r,a=>by
  rw [O5];obtain ⟨h1,h2⟩:=Dd (l:=r) (a:=min a (HR y));refine ⟨by omega,fun x hx=>?_⟩;rcases AP.1 hx with rfl | hx
  ·omega
  ·exact h2 x hx
theorem Da:∀ {l:LI} {a:Int},a≤O4 l a∧∀ x∈l,HR x≤O4 l a
 | [],a=>⟨vac _,fun x hx=>by cases hx⟩
 | y :: r,a=>by
  rw [O4];obtain ⟨h1,h2⟩:=Da (l:=r) (a:=max a (HR y));refine ⟨by omega,fun x hx=>?_⟩;rcases AP.1 hx with rfl | hx
  ·omega
  ·exact h2 x hx
theorem Dc:∀ {l:LI} {a:Int},O5 l a=a∨∃ x∈l,O5 l a=HR x
 | [],a=>.inl rfl
 | y :: r,a=>by
  rw [O5];rcases Dc (l:=r) (a:=min a (HR y)) with h | ⟨x,hx,h⟩
  ·rw [h];by_cases hd:a≤HR y
   ·exact .inl (by omega)
   ·exact .inr ⟨y,AO ..,by omega⟩
  ·exact .inr ⟨x,AY _ hx,h⟩
theorem Cz:∀ {l:LI} {a:Int},O4 l a=a∨∃ x∈l,O4 l a=HR x
 | [],a=>.inl rfl
 | y :: r,a=>by
  rw [O4];rcases Cz (l:=r) (a:=max a (HR y)) with h | ⟨x,hx,h⟩
  ·rw [h];by_cases hd:HR y≤a
   ·exact .inl (by omega)
   ·exact .inr ⟨y,AO ..,by omega⟩
  ·exact .inr ⟨x,AY _ hx,h⟩
theorem zfR {ps:LI} (hp:ps≠[]):(∀ x∈ps,fU ps≤HR x∧HR x≤fT ps)∧(∃ x∈ps,HR x=fU ps)∧∃ x∈ps,HR x=fT ps:=by
 unfold fU fT;cases ps with
 | nil=>exact absurd rfl hp
 | cons y r=>
  have e:(y :: r).getD 0 default=y:=rfl;rw [e];refine ⟨fun x hx=>⟨Dd.2 x hx,Da.2 x hx⟩,?_,?_⟩
  ·rcases Dc (l:=y :: r) (a:=HR y) with h | ⟨x,hx,h⟩
   ·exact ⟨y,AO ..,h.symm⟩
   ·exact ⟨x,hx,h.symm⟩
  ·rcases Cz (l:=y :: r) (a:=HR y) with h | ⟨x,hx,h⟩
   ·exact ⟨y,AO ..,h.symm⟩
   ·exact ⟨x,hx,h.symm⟩
theorem X2 {l:LI} (ht:GV l 4=true) {b:Bx} (hb:b.emp=false) (hok:b.ok) :
  (∀ p t,b.has p t=true→IB l b≤HD l p∧HD l p≤IA l b)∧(∃ p t,b.has p t=true∧HD l p=IB l b)∧∃ p t,b.has p t=true∧HD l p=IA l b:=by
 obtain ⟨h1,h2⟩:=zcp ht hb hok;have hne:IT l b≠[]:=fun e=>by
  obtain ⟨x,hx,_⟩:=h2 b.low b.s4.hi (YY b hb);rw [e] at hx;cases hx
 obtain ⟨q1,⟨x,hx,q2⟩,⟨y,hy,q3⟩⟩:=zfR hne;have hT:X1 l b=true:=by
  unfold X1;cases he:IT l b with
  | nil=>exact absurd he hne
  | cons _ _=>rfl
 unfold IB IA;rw [hT,DI,DI];refine ⟨fun p t hh=>?_,⟨(D7 x).low,(D7 x).s4.hi,?_⟩,⟨(D7 y).low,(D7 y).s4.hi,?_⟩⟩
 ·obtain ⟨z,hz,hzh⟩:=h2 p t hh;rw [((h1 z hz).2.2 p t hzh).2];exact q1 z hz
 ·obtain ⟨r1,r2⟩:=(h1 x hx).2.2 _ _ (YY _ (h1 x hx).1);exact ⟨r1,r2.trans q2⟩
 ·obtain ⟨r1,r2⟩:=(h1 y hy).2.2 _ _ (YY _ (h1 y hy).1);exact ⟨r1,r2.trans q3⟩
open Go
theorem aC {m:Md} (hm:EW m=true) {t:IV} (ht:t∈m.ts):GV (FE t) 4=true:=by
 have h:=L5 hm;exact ziZ (Nl (CR.1 h.2.2.2.2 t ht)).2 h.1.2
theorem tL (g:LI→Int) (k:Int) (p:Pt):∀ (ts:LI) (s s':Int),(∀ t∈ts,g (FE t)≤HD (FE t) p)→s≤s'→I5 g k ts s≤P2 k p ts s'
 | [],_,_,_,h=>h
 | t :: r,s,s',hg,h=>by
  rw [I5,P2];have h1:=hg t (AO ..);refine tL g k p r _ _ (fun u hu=>hg u (AY _ hu)) ?_;cases (VD t==k) <;> simp only [BJ,A9] <;> omega
theorem tJ (g:LI→Int) (k:Int) (p:Pt):∀ (ts:LI) (s s':Int),(∀ t∈ts,HD (FE t) p≤g (FE t))→s'≤s→P2 k p ts s'≤I5 g k ts s
 | [],_,_,_,h=>h
 | t :: r,s,s',hg,h=>by
  rw [I5,P2];have h1:=hg t (AO ..);refine tJ g k p r _ _ (fun u hu=>hg u (AY _ hu)) ?_;cases (VD t==k) <;> simp only [BJ,A9] <;> omega
theorem r7 {m:Md} {k:Int} {b:Bx} (h:G4 m k b=true):EW m=true∧ID m k=true∧b.emp=false:=by
 unfold G4 at h;simp only [AI,B3] at h;exact h
theorem Ac {m:Md} {k:Int} (hm:EW m=true) (hk:ID m k=true) (p:Pt):ER m k p=P2 k p m.ts (LQ m k):=by
 unfold ER;rw [hm,hk];rfl
theorem zgG {m:Md} {k:Int} {b:Bx} (h:G4 m k b=true) (hok:b.ok) {p:Pt} {t:Int} (hh:b.has p t=true):EA m k b≤ER m k p∧ER m k p≤D8 m k b:=by
 obtain ⟨hm,hk,hb⟩:=r7 h;unfold EA D8;rw [h,DI,DI,Ac hm hk];exact ⟨tL _ k p m.ts _ _ (fun t ht=>((X2 (aC hm ht) hb hok).1 p _ hh).1) (vac _),tJ _ k p m.ts _ _ (fun t ht=>((X2 (aC hm ht) hb hok).1 p _ hh).2) (vac _)⟩
theorem zgF {m:Md} {k:Int} {b:Bx} (h:G4 m k b=true) (hok:b.ok) {p:Pt} {t:Int} (hh:b.has p t=true) (hc:∀ u∈m.ts,∀ p' t',b.has p' t'=true→HD (FE u) p'=HD (FE u) p):EA m k b=ER m k p∧D8 m k b=ER m k p:=by
 obtain ⟨hm,hk,hb⟩:=r7 h;have h1:=zgG h hok hh;have h2:ER m k p≤EA m k b∧D8 m k b≤ER m k p:=by
  unfold EA D8;rw [h,DI,DI,Ac hm hk];refine ⟨tJ _ k p m.ts _ _ (fun u hu=>?_) (vac _),tL _ k p m.ts _ _ (fun u hu=>?_) (vac _)⟩
  ·obtain ⟨_,⟨p',t',q1,q2⟩,_⟩:=X2 (aC hm hu) hb hok;rw [← hc u hu p' t' q1];exact Int.le_of_eq q2
  ·obtain ⟨_,_,⟨p',t',q1,q2⟩⟩:=X2 (aC hm hu) hb hok;rw [← hc u hu p' t' q1];exact Int.le_of_eq q2.symm
 omega
theorem nM {x:Int}:∀ {l:List Int} {p:Int},x∈l→x=p∨x∈ML p l
 | y :: r,p,h=>by
  rw [ML];cases hb:(y==p) with
  | true=>
   have hb:=B8.1 hb;rw [DI];rcases AP.1 h with h | h
   ·exact .inl (h.trans hb)
   ·rcases nM (p:=y) h with h1 | h1
    ·exact .inl (h1.trans hb)
    ·exact .inr h1
  | false=>
   rw [DJ];rcases AP.1 h with h | h
   ·exact .inr (h ▸ AO ..)
   ·rcases nM (p:=y) h with h1 | h1
    ·exact .inr (h1 ▸ AO ..)
    ·exact .inr (AY _ h1)
theorem Uu {x:Int} {l:List Int} (h:x∈l):x∈KA l:=by
 cases l with
 | nil=>cases h
 | cons y r=>
  rw [KA];rcases AP.1 h with h | h
  ·exact h ▸ AO ..
  ·rcases nM (p:=y) h with h1 | h1
   ·exact h1 ▸ AO ..
   ·exact AY _ h1
theorem ziP {ts:LI} {f a:Int}:a∈JO ts f↔∃ t∈ts,∃ w∈FE t,(DL w.toInt).lf=false∧(DL w.toInt).f=f∧(DL w.toInt).a=a:=by
 have e:a∈JO ts f↔a∈IM ts f:=by
  unfold JO;exact ⟨fun h=>(TA _).mem_iff.1 (y3 h),fun h=>Uu ((TA _).mem_iff.2 h)⟩
 rw [e];unfold IM;simp only [List.mem_flatMap];constructor
 ·rintro ⟨t,ht,w,hw,h⟩;unfold I6 at h;cases hc:(!(DL w.toInt).lf&&(DL w.toInt).f==f) with
  | false=>rw [hc,DJ] at h; cases h
  | true=>
   rw [hc,DI] at h;simp only [AI,B3,B8] at hc;exact ⟨t,ht,w,hw,hc.1,hc.2,(BM.1 h).symm⟩
 ·rintro ⟨t,ht,w,hw,h1,h2,h3⟩;refine ⟨t,ht,w,hw,?_⟩;unfold I6;rw [h1,h2,DA];exact BM.2 h3.symm
def ZE (m:Md) (s:Sp) (f:Int):Prop:=∀ a∈JO m.ts f,¬ (s.lo≤a∧a < s.hi)
theorem zcg {lo hi a:Int} {l:List Int}:a∈K6 lo hi l↔a∈l∧lo≤a∧a < hi:=by
 unfold K6;rw [List.mem_filter];simp only [B3,vas,BW];constructor
 ·rintro ⟨h,h1,h2⟩; exact ⟨h,by omega,by omega⟩
 ·rintro ⟨h,h1,h2⟩; exact ⟨h,by omega,by omega⟩
theorem W0 {m:Md} {q:Qy} {b:Bx} {i:Nat} {a:Int}:a∈FD m q b i↔0≤IS q (i:Int)∧a∈JO m.ts (IS q (i:Int))∧(b.g i).lo≤a∧a < (b.g i).hi:=by
 unfold FD;cases hd:decide (IS q (i:Int) < 0) with
 | true=>
  have:=A1 hd
  rw [DI];constructor
  ·intro h; cases h
  ·rintro ⟨h,_⟩; omega
 | false=>
  have:=BH hd
  rw [DJ,zcg];constructor
  ·intro h; exact ⟨by omega,h⟩
  ·exact fun h=>h.2
theorem An {m:Md} {q:Qy} {b:Bx} {i:Nat} (h:FD m q b i=[]) (hf:0≤IS q (i:Int)):ZE m (b.g i) (IS q (i:Int)):=by
 intro a ha hr
 have:a∈FD m q b i:=W0.2 ⟨hf,ha,hr⟩
 rw [h] at this;cases this
theorem oI {q:Qy} {i:Nat} (hi:i < 4):IS q (i:Int)=(i:Int):=by
 unfold IS;rw [AD (show (i:Int)≥0 by omega),AD (show (i:Int) < 4 by omega)];rfl
theorem tY {l:LI} {p p':Pt} (h:∀ w∈l,GC w.toInt=true→(DL w.toInt).lf=false→(p.g (DL w.toInt).f.toNat≤(DL w.toInt).a↔p'.g (DL w.toInt).f.toNat≤(DL w.toInt).a)):∀ (n:Nat) (a:Int),IR l p n a=IR l p' n a
 | 0,_=>rfl
 | n+1,a=>by
  rw [IR,IR];cases decide (a≥ic l.length) with
  | true=>rfl
  | false=>
   rw [DJ,DJ];by_cases hlt:a.toNat < l.length
   ·have hw:l.getD a.toNat default∈l:=by rw [eH hlt]; exact CX hlt
    generalize l.getD a.toNat default=w at hw ⊢;cases hb:GC w.toInt with
    | false=>rfl
    | true=>
     rw [A3,DJ,DJ];cases hl:(DL w.toInt).lf with
     | true=>rfl
     | false=>
      have:=h w hw hb hl
      have ed:decide (p.g (DL w.toInt).f.toNat≤(DL w.toInt).a)=decide (p'.g (DL w.toInt).f.toNat≤(DL w.toInt).a):=by
       rw [va2,AQ,AQ];exact this
      rw [DJ,DJ,ed,tY h n _,tY h n _]
   ·have e:l.getD a.toNat default=default:=by
     rw [BV,B1 (by omega)];rfl
    rw [e];rfl
theorem Zf {m:Md} {b:Bx} (hf:∀ f:Nat,f < 4→ZE m (b.g f) (f:Int)) {u:IV} (hu:u∈m.ts) {p p':Pt} {t t':Int} (h:b.has p t=true) (h':b.has p' t'=true):HD (FE u) p'=HD (FE u) p:=by
 unfold HD jE;rw [tY (p:=p') (p':=p) fun w hw hb hl=>?_];obtain ⟨⟨f0,f4⟩,_⟩:=p7 hb hl;have ef:(DL w.toInt).f=(((DL w.toInt).f.toNat:Nat):Int):=by omega
 have hlt:(DL w.toInt).f.toNat < 4:=by omega
 have h1:=PC.1 (Q2.1 h _ (show (DL w.toInt).f.toNat < 5 by omega));have h2:=PC.1 (Q2.1 h' _ (show (DL w.toInt).f.toNat < 5 by omega));rw [iW _ _ hlt] at h1 h2;have h3:=hf _ hlt (DL w.toInt).a (ziP.2 ⟨u,hu,w,hw,hl,ef,rfl⟩);omega
theorem gA {m:Md} {k:Int} {b:Bx} (h:G4 m k b=true) (hok:b.ok) (hf:∀ f:Nat,f < 4→ZE m (b.g f) (f:Int)) {p:Pt} {t:Int} (hh:b.has p t=true):EA m k b=ER m k p∧D8 m k b=ER m k p:=
 zgF h hok hh fun _ hu _ _ h'=>Zf hf hu hh h'
theorem pO {m:Md} {c lo:Int} {b:Bx}:∀ (d:Nat) (i a:Int) (z:Bool),(0 < RF m c lo b d i a z↔(z=true∨∃ j:Nat,j < d∧i+j≠c)∧(z=true→0 < a)∧∀ j:Nat,j < d→i+j≠c→D8 m (i+j) b < lo)∨(z=false∧∀ j:Nat,j < d→i+j=c)
 | 0,i,a,z=>by
  cases z with
  | false=>exact .inr ⟨rfl,fun j hj=>absurd hj (Nat.not_lt_zero j)⟩
  | true=>
   refine .inl ?_;rw [RF];exact ⟨fun h=>⟨.inl rfl,fun _=>h,fun j hj=>absurd hj (Nat.not_lt_zero j)⟩,fun h=>h.2.1 rfl⟩
 | d+1,i,a,z=>by
  rw [RF];have sh:∀ j:Nat,i+1+(j:Int)=i+((j+1:Nat):Int):=fun j=>by omega
  cases hc:(i==c) with
  | true=>
   have hc:=B8.1 hc;rw [DI];rcases pO (m:=m) (c:=c) (lo:=lo) (b:=b) d (i+1) a z with h | ⟨h1,h2⟩
   ·refine .inl (h.trans ?_);constructor
    ·rintro ⟨q1,q2,q3⟩;refine ⟨q1.imp_right ?_,q2,fun j hj hne=>?_⟩
     ·rintro ⟨j,hj,hne⟩; exact ⟨j+1,by omega,by rw [← sh j]; exact hne⟩
     ·cases j with
      | zero=>exact absurd (by simpa using hc) hne
      | succ j=>rw [← sh j] at hne ⊢; exact q3 j (by omega) hne
    ·rintro ⟨q1,q2,q3⟩;refine ⟨q1.imp_right ?_,q2,fun j hj hne=>?_⟩
     ·rintro ⟨j,hj,hne⟩;cases j with
      | zero=>exact absurd (by simpa using hc) hne
      | succ j=>exact ⟨j,by omega,by rw [sh j]; exact hne⟩
     ·rw [sh j] at hne ⊢; exact q3 (j+1) (by omega) hne
   ·refine .inr ⟨h1,fun j hj=>?_⟩;cases j with
    | zero=>simpa using hc
    | succ j=>rw [← sh j]; exact h2 j (by omega)
  | false=>
   have hc:i≠c:=fun e=>by rw [e,DA] at hc; cases hc
   rw [DJ];refine .inl ?_;have key:∀ (a':Int),(0 < a'↔(z=true→0 < a)∧D8 m i b < lo)→(0 < RF m c lo b d (i+1) a' true↔(z=true∨∃ j:Nat,j < d+1∧i+(j:Int)≠c)∧(z=true→0 < a)∧∀ j:Nat,j < d+1→i+(j:Int)≠c→D8 m (i+j) b < lo):=fun a' ha'=>by
    rcases pO (m:=m) (c:=c) (lo:=lo) (b:=b) d (i+1) a' true with h | ⟨h1,_⟩
    ·rw [h];constructor
     ·rintro ⟨_,q2,q3⟩;obtain ⟨r1,r2⟩:=ha'.1 (q2 rfl);refine ⟨.inr ⟨0,by omega,by simpa using hc⟩,r1,fun j hj hne=>?_⟩;cases j with
      | zero=>simpa using r2
      | succ j=>rw [← sh j] at hne ⊢; exact q3 j (by omega) hne
     ·rintro ⟨_,q2,q3⟩;have r2:=q3 0 (by omega) (by simpa using hc);refine ⟨.inl rfl,fun _=>ha'.2 ⟨q2,by simpa using r2⟩,fun j hj hne=>?_⟩;rw [sh j] at hne ⊢;exact q3 (j+1) (by omega) hne
    ·cases h1
   cases z with
   | false=>
    rw [A7,Bool.true_or,DI];exact key _ ⟨fun h=>⟨fun h=>(by cases h),by omega⟩,fun h=>by have:=h.2; omega⟩
   | true=>
    rw [A3,vaz];cases hd:decide (lo - D8 m i b < a) with
    | true=>
     have hd:=A1 hd;rw [DI];exact key _ ⟨fun h=>⟨fun _=>by omega,by omega⟩,fun h=>by have:=h.2; omega⟩
    | false=>
     have hd:=BH hd;rw [DJ];exact key _ ⟨fun h=>⟨fun _=>h,by omega⟩,fun h=>h.1 rfl⟩
theorem Cx {m:Md} {c:Int} {b:Bx} (h:NG m c b=true):0 < UU m c b↔∀ j:Nat,(j:Int) < m.c→(j:Int)≠c→D8 m (j:Int) b < EA m c b:=by
 have h0:=h;unfold NG at h0;rw [AI,AQ] at h0;obtain ⟨hs,h2⟩:=h0;have hc:=yY (r7 hs).2.1;unfold UU;rw [h,DI];rcases pO (m:=m) (c:=c) (lo:=EA m c b) (b:=b) m.c.toNat 0 0 false with h1 | ⟨_,h1⟩
 ·rw [h1];simp only [Int.zero_add];constructor
  ·rintro ⟨_,_,q⟩ j hj hne;exact q j (by omega) hne
  ·intro q;refine ⟨.inr ?_,fun h=>(by cases h),fun j hj hne=>q j (by omega) hne⟩;by_cases e:c=0
   ·exact ⟨1,by omega,by omega⟩
   ·exact ⟨0,by omega,by omega⟩
 ·have q0:=h1 0 (by omega);have q1:=h1 1 (by omega);omega
theorem zfS (p:Pt) (x t:Int):∀ {f i:Nat},f < 4→i < 5→co (p.p x f) t i=if i=f then x else co p t i
 | 0,0,_,_=>rfl
 | 0,1,_,_=>rfl
 | 0,2,_,_=>rfl
 | 0,3,_,_=>rfl
 | 0,4,_,_=>rfl
 | 1,0,_,_=>rfl
 | 1,1,_,_=>rfl
 | 1,2,_,_=>rfl
 | 1,3,_,_=>rfl
 | 1,4,_,_=>rfl
 | 2,0,_,_=>rfl
 | 2,1,_,_=>rfl
 | 2,2,_,_=>rfl
 | 2,3,_,_=>rfl
 | 2,4,_,_=>rfl
 | 3,0,_,_=>rfl
 | 3,1,_,_=>rfl
 | 3,2,_,_=>rfl
 | 3,3,_,_=>rfl
 | 3,4,_,_=>rfl
 | f+4,_,h,_=>absurd h (by omega)
 | _,i+5,_,h=>absurd h (by omega)
theorem y5 (p:Pt) (t t':Int):∀ {i:Nat},i < 4→co p t i=co p t' i
 | 0,_=>rfl
 | 1,_=>rfl
 | 2,_=>rfl
 | 3,_=>rfl
 | i+4,h=>absurd h (by omega)
theorem Zc {q:Qy} {b:Bx} (hp:HA q=true) {p:Pt} {t:Int} (h:b.has p t=true):(JY q b).has p 0=true:=by
 rw [Q2] at h ⊢;intro i hi;unfold JY;rw [hp,DI,LR _ _ (by omega) hi];by_cases e:i=4
 ·subst e;rw [BP rfl];rfl
 ·rw [BD e,y5 p 0 t (by omega)];exact h i hi
theorem zgL {q:Qy} {b:Bx} (hp:HA q=true) {p:Pt} {t:Int} (h:b.has p t=true):(J4 q b).has (JE q p t) 0=true:=by
 have hf:q.ft.toNat < 4:=by rcases RO hp with e | e | e | e <;> rw [e] <;> decide
 rw [Q2] at h ⊢;intro i hi;unfold J4 JE;rw [hp,DI,DI,LR _ _ (by omega) hi];by_cases e:i=4
 ·subst e;rw [BP rfl]
  have:co (p.p t q.ft.toNat) 0 4=0:=rfl
  rw [this];rfl
 ·rw [BD e,LR _ _ (by omega) hi,zfS p t 0 hf hi];by_cases e2:i=q.ft.toNat
  ·rw [BP e2,BP e2];exact h 4 (by omega)
  ·rw [BD e2,BD e2,y5 p 0 t (by omega)];exact h i hi
theorem Zd {q:Qy} {b:Bx} (hb:b.ok):(JY q b).ok:=by
 unfold JY;cases HA q with
 | true=>exact fN (s:=⟨0,0⟩) (i:=4) hb (show (0:Int)≤2147483647 by omega) (by omega)
 | false=>exact hb
theorem zgM {q:Qy} {b:Bx} (hb:b.ok):(J4 q b).ok:=by
 unfold J4;cases hp:HA q with
 | true=>
  have hf:q.ft.toNat < 5:=by rcases RO hp with e | e | e | e <;> rw [e] <;> decide
  exact fN (s:=⟨0,0⟩) (i:=4) (fN hb (hb 4 (by omega)) hf) (show (0:Int)≤2147483647 by omega) (by omega)
 | false=>exact hb
theorem nJ {m:Md} {k:Int} (h0:0≤k) (h1:k < m.c):ID m k=true:=by
 unfold ID;rw [AD h0,AD h1];rfl
theorem XW {m:Md} {k:Int} {b:Bx} (hm:EW m=true) (hk:ID m k=true) (hb:b.emp=false):G4 m k b=true:=by
 unfold G4;rw [hm,hk,hb];rfl
theorem qQ {m:Md} {q:Qy} (hm:EW m=true) (hk:q.k=3) (hf:0≤q.ft∧q.ft < m.d):HA q=true:=by
 have:=(L5 hm).1
 unfold HA;rw [hk,AD (show q.ft≥0 by omega),AD (show q.ft < 4 by omega)];rfl
theorem zfn {m:Md} {q:Qy} {p:Pt} {own:Int}:fM m q p own=true↔∃ j:Nat,(j:Int) < m.c∧(j:Int)≠q.c∧ER m (j:Int) p≥own:=by
 unfold fM;rw [List.any_eq_true];constructor
 ·rintro ⟨c,hc,h⟩;simp only [AI,B3,A4,AQ] at h;exact ⟨c,by have:=vaR.1 hc; omega,h.1,h.2⟩
 ·rintro ⟨j,h1,h2,h3⟩;refine ⟨j,vaR.2 (by omega),?_⟩;simp only [AI,B3,A4,AQ];exact ⟨h2,h3⟩
theorem Ul {m:Md} {q:Qy} {b:Bx} (hr:FG m q=true) (hb:b.emp=false) (hok:b.ok) (hn:∀ i,i < 5→FD m q b i=[]):GQ m q b=true∨HJ m q b.low b.s4.hi=true:=by
 obtain ⟨hm,⟨c0,c1⟩,_,_,hk⟩:=XU hr;have hcl:=nJ c0 c1;have hs:=XW hm hcl hb;have hh:=YY b hb;have hfl:∀ f:Nat,f < 4→ZE m (b.g f) (f:Int):=fun f hf=>by
  have:=An (hn f (by omega)) (by rw [oI hf]; omega)
  rwa [oI hf] at this
 unfold GQ HJ;rw [hr,hb,BC,BC,DJ];rcases j4 hk with ⟨e,_⟩ | ⟨e,h2,_⟩ | ⟨e,hf,_⟩
 ·rw [e];obtain ⟨q1,q2⟩:=gA hs hok hfl hh;show (G4 m q.c b&&(decide (q.lo≤EA m q.c b)&&decide (D8 m q.c b≤q.hi)))=true∨(!(Sp.has ⟨q.lo,q.hi⟩ (ER m q.c b.low)))=true;rw [hs,q1,q2,BC];unfold Sp.has;cases (decide (q.lo≤ER m q.c b.low)&&decide (ER m q.c b.low≤q.hi)) with
  | true=>exact .inl rfl
  | false=>exact .inr rfl
 ·rw [e];show (NG m q.c b&&decide (UU m q.c b > 0))=true∨fM m q b.low (ER m q.c b.low)=true;have hg:NG m q.c b=true:=by unfold NG; rw [hs,AD (show m.c≥2 from h2)]; rfl
  rw [hg,BC];cases ho:fM m q b.low (ER m q.c b.low) with
  | true=>exact .inr rfl
  | false=>
   refine .inl (AD ((Cx hg).2 fun j hj hne=>?_));have q1:=(gA hs hok hfl hh).1;have q2:=(gA (XW hm (nJ (k:=(j:Int)) (by omega) hj) hb) hok hfl hh).2;have q3:¬ ER m (j:Int) b.low≥ER m q.c b.low:=fun h=>by
    rw [zfn.2 ⟨j,hj,hne,h⟩] at ho;cases ho
   omega
 ·rw [e];have hp:=qQ hm e hf;have hf5:q.ft.toNat < 4:=by rcases RO hp with e | e | e | e <;> rw [e] <;> decide
  have ef:q.ft=((q.ft.toNat:Nat):Int):=by omega
  show cond (!(P7 q b)) true (cond q.fl (K4 m q b&&decide (SO m q b≤0)) (K4 m q b&&decide (SP m q b≥0)))=true∨cond (decide (b.low.g q.ft.toNat≥b.s4.hi)) false (cond q.fl (decide (ER m q.c (JE q b.low b.s4.hi) > ER m q.c b.low)) (decide (ER m q.c (JE q b.low b.s4.hi) < ER m q.c b.low)))=true;cases ho:P7 q b with
  | false=>exact .inl rfl
  | true=>
   have hlt:b.low.g q.ft.toNat < b.s4.hi:=by
    unfold P7 at ho;simp only [AI,AQ] at ho;have h1:=ho.2.2
    have:b.low.g q.ft.toNat=(b.g q.ft.toNat).lo:=by
     match q.ft.toNat,hf5 with
     | 0,_=>rfl
     | 1,_=>rfl
     | 2,_=>rfl
     | 3,_=>rfl
     | n+4,h=>exact absurd h (by omega)
    omega
   have f1:=Zc (b:=b) hp hh;have f2:=zgL (b:=b) hp hh;have k1:=XW hm hcl (iP f1);have k2:=XW hm hcl (iP f2);have fl1:∀ f:Nat,f < 4→ZE m ((JY q b).g f) (f:Int):=fun f hf=>by
    unfold JY;rw [hp,DI,LR _ _ (by omega) (by omega),BD (by omega)];exact hfl f hf
   have fl2:∀ f:Nat,f < 4→ZE m ((J4 q b).g f) (f:Int):=fun f hf=>by
    unfold J4;rw [hp,DI,LR _ _ (by omega) (by omega),BD (by omega),LR _ _ (by omega) (by omega)];by_cases e2:f=q.ft.toNat
    ·rw [BP e2];have e4:IS q ((4:Nat):Int)=q.ft:=by unfold IS; rw [e]; rfl
     have:=An (hn 4 (by omega)) (by rw [e4]; omega)
     rw [e4,ef,← e2] at this;exact this
    ·rw [BD e2];exact hfl f hf
   obtain ⟨q1,q2⟩:=gA k1 (Zd hok) fl1 f1;obtain ⟨q3,q4⟩:=gA k2 (zgM hok) fl2 f2;have hch:K4 m q b=true:=by unfold K4; rw [hp,k1,k2]; rfl
   rw [A3,DJ,hch,BC,BC,AL (show ¬ b.low.g q.ft.toNat≥b.s4.hi by omega),DJ];unfold SO SP;rw [hch,DI,DI,q1,q2,q3,q4];cases q.fl with
   | true=>
    rw [DI,DI];by_cases hd:ER m q.c (JE q b.low b.s4.hi) > ER m q.c b.low
    ·exact .inr (AD hd)
    ·exact .inl (AD (by omega))
   | false=>
    rw [DJ,DJ];by_cases hd:ER m q.c (JE q b.low b.s4.hi) < ER m q.c b.low
    ·exact .inr (AD hd)
    ·exact .inl (AD (by omega))
theorem Ko {m:Md} {q:Qy} {b:Bx}:∀ (d i:Nat),(LK m q b d i).isSome=false→∀ j,i≤j→j < i+d→FD m q b j=[]
 | 0,i,_,j,h1,h2=>by omega
 | d+1,i,h,j,h1,h2=>by
  rw [LK] at h;cases hc:decide ((FD m q b i).length > 0) with
  | true=>rw [hc,DI] at h; cases h
  | false=>
   rw [hc,DJ] at h;have hc:=BH hc;by_cases e:j=i
   ·subst e;exact List.length_eq_zero_iff.1 (by omega)
   ·exact Ko d (i+1) h j (by omega) (by omega)
theorem zii {m:Md} {q:Qy} {b:Bx} (h:(EY m q b).isSome=false):∀ i,i < 5→FD m q b i=[]:=fun i hi=>Ko 5 0 h i (B5 _) (by omega)
theorem Kp {m:Md} {q:Qy} {b:Bx}:∀ (d i:Nat),(LK m q b d i).isSome=true→∃ j:Nat,i≤j∧j < i+d∧J6 (LK m q b d i)=(j:Int)∧0 < (FD m q b j).length∧I4 (LK m q b d i)=(FD m q b j).getD (((FD m q b j).length - 1) / 2) 0∧∀ k,i≤k→k < j→FD m q b k=[]
 | 0,i,h=>by rw [LK] at h; cases h
 | d+1,i,h=>by
  rw [LK] at h ⊢;cases hc:decide ((FD m q b i).length > 0) with
  | true=>exact ⟨i,AZ _,by omega,rfl,A1 hc,rfl,fun k h1 h2=>absurd h1 (by omega)⟩
  | false=>
   rw [hc,DJ] at h;rw [DJ];have hc:=BH hc;obtain ⟨j,h1,h2,h3,h4,h5,h6⟩:=Kp d (i+1) h;refine ⟨j,by omega,by omega,h3,h4,h5,fun k hk1 hk2=>?_⟩;by_cases e:k=i
   ·subst e;exact List.length_eq_zero_iff.1 (by omega)
   ·exact h6 k (by omega) hk2
theorem tA {m:Md} {q:Qy} {b:Bx} (h:(EY m q b).isSome=true):∃ j:Nat,j < 5∧J6 (EY m q b)=(j:Int)∧0 < (FD m q b j).length∧I4 (EY m q b)=(FD m q b j).getD (((FD m q b j).length - 1) / 2) 0∧I4 (EY m q b)∈FD m q b j:=by
 obtain ⟨j,_,h2,h3,h4,h5,_⟩:=Kp 5 0 h;refine ⟨j,by omega,h3,h4,h5,?_⟩;have hlt:((FD m q b j).length - 1) / 2 < (FD m q b j).length:=by omega
 have:I4 (EY m q b)=(FD m q b j)[((FD m q b j).length - 1) / 2]:=by
  refine Eq.trans h5 ?_;simp [hlt]
 rw [this];exact CX hlt
open Go
abbrev kFt:List Kd:=[.z,.list false [.z],.list false [.z],.list false [.z],.list false [.z]]
structure Ft where
 d:Int
 c:Int
 bias:LI
 ts:LI
def Ft.cs (f:Ft):List FM.V:=[.int .i64 f.d,.int .i64 f.c,.list false [.z] f.bias,.list true kFt f.ts]
def Ft.V (f:Ft):FM.V:=.agg f.cs
def Ft.M (f:Ft):Md:=kH f.d f.c f.bias f.ts
def ftOf?:List FM.V→Option Ft
 | [.int .i64 d,.int .i64 c,.list false [.z] b,.list true [.z,.list false [.z],.list false [.z],.list false [.z],.list false [.z]] t]=>some ⟨d,c,b,t⟩
 | _=>none
def akOf?:List FM.V→Option Ak
 | [.int .i64 k,.int .i64 c,.int .i64 lo,.int .i64 size,.int .i64 ft,.int .i64 bu,.bool fl,.list false [.z] sp]=>some ⟨k,c,lo,size,ft,bu,fl,sp⟩
 | _=>none
abbrev gU (v:FM.V) (k:Ft→R):R:=RZ ftOf? v k
abbrev Ot (v:FM.V) (k:Ak→R):R:=RZ akOf? v k
theorem l9 {v:FM.V} {k:Ft→R} {z:FM.V × List (List FM.V)} (h:(gU v k).get=some z):∃ x:Ft,v=x.V∧(k x).get=some z:=by
 obtain ⟨l,x,rfl,hx,h⟩:=VL h;unfold ftOf? at hx;split at hx
 ·simp only [AC] at hx;subst hx;exact ⟨_,rfl,h⟩
 ·cases hx
theorem zjl {v:FM.V} {k:Ak→R} {z:FM.V × List (List FM.V)} (h:(Ot v k).get=some z):∃ x:Ak,v=x.V∧(k x).get=some z:=by
 obtain ⟨l,x,rfl,hx,h⟩:=VL h;unfold akOf? at hx;split at hx
 ·simp only [AC] at hx;subst hx;exact ⟨_,rfl,h⟩
 ·cases hx
def FB (a:Ak) (m:Md):Qy:=JD a m.d m.c
def NI (m:Md):Bool:=(decide (1≤m.d)&&decide (m.d≤4))&&(decide (1≤m.c)&&decide (m.c≤3))
def SH:DV
 | [f]=>gU f fun f=>.ok f.M.V []
 | _=>.no
def SG:DV
 | [a,m]=>Ot a fun a=>JT m fun m=>.br (NI m) (.ok (FB a m).V []) .no
 | _=>.no
def Qy.bud (q:Qy) (b:Int):Qy:=⟨q.k,q.c,q.a0,q.b0,q.a1,q.b1,q.a2,q.b2,q.a3,q.b3,q.a4,q.b4,q.lo,q.hi,q.ft,q.fl,b⟩
theorem Sh {vs:List FM.V} {z:FM.V × List (List FM.V)} (h:(SH vs).get=some z):(g8 vs).get=some z:=by
 unfold SH at h;split at h
 ·replace h:=l9 h;obtain ⟨f,rfl,h⟩:=h;exact h
 ·simp [R.get] at h
theorem Si {vs:List FM.V} {z:FM.V × List (List FM.V)} (h:(SG vs).get=some z):(g7 vs).get=some z:=by
 unfold SG at h;split at h
 ·replace h:=zjl h;obtain ⟨a,rfl,h⟩:=h;replace h:=J7 h;obtain ⟨m,rfl,h⟩:=h;exact h
 ·simp [R.get] at h
open Go
def Bx.good (b:Bx):Prop:=∀ i,i < 5 → -2147483648≤(b.g i).lo∧(b.g i).lo≤(b.g i).hi∧(b.g i).hi≤2147483647
theorem Bx.good.emp {b:Bx} (h:b.good):b.emp=false:=m8.2 fun i hi=>(h i hi).2.1
theorem Bx.good.ok {b:Bx} (h:b.good):b.ok:=fun i hi=>(h i hi).2.2
def Sp.good (s:Sp):Prop := -2147483648≤s.lo∧s.lo≤s.hi∧s.hi≤2147483647
theorem U0 {b:Bx} (hb:b.good) {s:Sp} (hs:s.good) {i:Nat} (hi:i < 5):(b.p s i).good:=by
 intro j hj;rw [LR b s hi hj];by_cases h:j=i
 ·rw [BP h]; exact hs
 ·rw [BD h]; exact hb j hj
theorem Kk {lo hi:Int} (h0 : -2147483648≤lo) (h1:lo≤hi) (h2:hi≤2147483647):(MY lo hi).good:=by
 unfold MY;rw [AL (by omega),DJ];exact ⟨h0,h1,h2⟩
theorem zC {b:Bx} (hb:b.good) {i:Nat} (hi:i < 5) {a:Int} (h1:(b.g i).lo≤a) (h2:a < (b.g i).hi):(b.cutL (i:Int) a).good:=by
 unfold Bx.cutL;rw [BF];have h:=hb i hi;refine U0 hb (Kk h.1 ?_ ?_) hi <;> omega
theorem y8 {b:Bx} (hb:b.good) {i:Nat} (hi:i < 5) {a:Int} (h1:(b.g i).lo≤a) (h2:a < (b.g i).hi):(b.cutH (i:Int) a).good:=by
 unfold Bx.cutH;rw [BF];have h:=hb i hi;have e:FL (a+1)=a+1:=EH (by omega) (by omega);refine U0 hb ?_ hi;unfold Sp.cutH;rw [AL (by omega),DJ,e];exact Kk (by omega) (by omega) h.2.2
theorem gI {d i:Int} {s:Sp} (h:KZ d i s=true):s.good:=by
 unfold KZ at h;simp only [AI,B3,E2,Sp.emp,AQ,BW] at h;obtain ⟨_,h1,h2,h3⟩:=h;exact ⟨h2.1,by omega,h3.2⟩
theorem XT {m:Md} {q:Qy} (h:FG m q=true):EW m=true∧(0≤q.c∧q.c < m.c)∧(0≤q.bu∧q.bu≤65536)∧P9 q.bx m.d=true∧RA m q=true:=by
 unfold FG at h;simp only [AI,AQ] at h;exact ⟨h.1,⟨h.2.1,h.2.2.1⟩,⟨h.2.2.2.1,h.2.2.2.2.1⟩,h.2.2.2.2.2.1,h.2.2.2.2.2.2⟩
theorem zgg {b:Bx} {d:Int} (h:P9 b d=true):b.good:=by
 unfold P9 at h;simp only [AI] at h;intro i hi
 match i,hi with
 | 0,_=>exact gI h.1
 | 1,_=>exact gI h.2.1
 | 2,_=>exact gI h.2.2.1
 | 3,_=>exact gI h.2.2.2.1
 | 4,_=>exact gI h.2.2.2.2
 | n+5,hi=>omega
theorem tG {m:Md} {q:Qy} (h:FG m q=true):(GJ q).good:=by
 have hb:=zgg (XT h).2.2.2.1;unfold GJ;refine U0 hb ?_ (by omega);cases hp:HA q with
 | false=>rw [DJ]; exact ⟨by decide,by decide,by decide⟩
 | true=>
  rw [DI];unfold HA at hp;simp only [AI,AQ] at hp;exact hb q.ft.toNat (by omega)
def ZL (s:Sr):Prop:=∀ x∈s.left,(D7 x).good
theorem lT {s:Sr} (h:ZL s) (hl:0 < s.left.length):(D0 s.left).good:=by
 unfold D0;refine h _ ?_;rw [BV,A8 (by omega)];exact CX _
theorem zcR {m:Md} {q:Qy} (h:FG m q=true):ZL ⟨[(GJ q).I],[],Vd.none,0⟩:=by
 intro x hx;obtain rfl:=BM.1 hx;rw [IO];exact tG h
theorem Mp {m:Md} {q:Qy} {s:Sr} (hr:FG m q=true) (hg:ZL s) (hl:0 < s.left.length) (h1:GQ m q (D0 s.left)=false) (h2:HJ m q (D0 s.left).low (D0 s.left).s4.hi=false) :
  (EY m q (D0 s.left)).isSome=true:=by
 have ht:=lT hg hl;cases hs:(EY m q (D0 s.left)).isSome with
 | true=>rfl
 | false=>
  rcases Ul hr ht.emp ht.ok (zii hs) with h | h
  ·rw [h1] at h; cases h
  ·rw [h2] at h; cases h
theorem ZU {l:LI} {x:IV} (h:x∈F3 l):x∈l:=vaK h
theorem ziz {m:Md} {q:Qy} {s:Sr} (hg:ZL s) (hl:0 < s.left.length):ZL (GE m q s):=by
 have hp:∀ x∈F3 s.left,(D7 x).good:=fun x hx=>hg x (ZU hx)
 unfold GE;cases GQ m q (D0 s.left) with
 | true=>exact hp
 | false=>
  cases HJ m q (D0 s.left).low (D0 s.left).s4.hi with
  | true=>exact hp
  | false=>
   cases hs:(EY m q (D0 s.left)).isSome with
   | false=>exact hp
   | true=>
    obtain ⟨j,hj,ei,_,_,hm⟩:=tA hs;have hc:=W0.1 hm;have ht:=lT hg hl;intro x hx;rw [DJ,DJ,DI] at hx;rcases AX.1 hx with hx | hx
    ·exact hp x hx
    ·rw [ei] at hx;rcases AP.1 hx with rfl | hx
     ·rw [IO]; exact y8 ht hj hc.2.2.1 hc.2.2.2
     ·obtain rfl:=BM.1 hx;rw [IO]; exact zC ht hj hc.2.2.1 hc.2.2.2
theorem RY (n lo hi:Int) (h:lo≤hi) (h0 : -2000000000000000000≤lo) (h1:hi≤2000000000000000000):lo≤DM n lo hi∧DM n lo hi≤hi:=
 (HE (n:=n) (lo:=lo) (hi:=hi) (by omega) (by omega) (by omega)).2
theorem g6 (f:Ft):EW f.M=true:=zcO _ _ _ _
theorem T1 (f:Ft):NI f.M=true:=by
 have hd:1≤f.M.d∧f.M.d≤3:=Y8 f.d;have hc:1≤f.M.c∧f.M.c≤3:=dY f.c;unfold NI;rw [AD hd.1,AD (show f.M.d≤4 by omega),AD hc.1,AD hc.2];rfl
theorem kW (d:Int) (l:LI) (i:Nat):KZ d (i:Int) ⟨FV d l (i:Int),FW d l (i:Int)⟩=true:=by
 have h1:=RY (EI l (2*(i:Int))) (-2) 9 (by omega) (by omega) (by omega);have h2:=RY (EI l (2*(i:Int)+1)) 0 11 (by omega) (by omega) (by omega);unfold KZ Sp.emp FV FW E2;by_cases h:(i:Int) < d
 ·rw [AD h,DI,DI,AL (show ¬ (i:Int)≥d by omega)];simp only [BL,A7,BC,AI,B3,AQ,BW];omega
 ·rw [AL h,DJ,DJ];simp
theorem zch (a:Ak) (c:Int):FN a c=1∨(FN a c=2∧2≤c)∨FN a c=3:=by
 have h:=RY a.k 1 3 (by omega) (by omega) (by omega);unfold FN;cases h2:(DM a.k 1 3==2) with
 | true=>
  have h2':DM a.k 1 3=2:=by simpa using h2
  by_cases hc:c < 2
  ·rw [AD hc]; exact .inl rfl
  ·rw [AL hc]; exact .inr (.inl ⟨h2',by omega⟩)
 | false=>
  have h2':DM a.k 1 3≠2:=by simpa using h2
  rw [BL,DJ];omega
theorem Tc (f:Ft) (a:Ak) {w:Int} (h0:0≤w) (h1:w≤65536):FG f.M ((FB a f.M).bud w)=true:=by
 have hd:1≤f.M.d∧f.M.d≤3:=Y8 f.d;have hc:1≤f.M.c∧f.M.c≤3:=dY f.c;have hm:=g6 f;generalize f.M=m at hd hc hm ⊢;have hcl:=RY a.c 0 (m.c - 1) (by omega) (by omega) (by omega);have hlo:=RY a.size 0 18000 (by omega) (by omega) (by omega);have hft:=RY a.ft 0 (m.d - 1) (by omega) (by omega) (by omega);have hreg:P9 ((FB a m).bud w).bx m.d=true:=by
  unfold P9;simp only [AI];refine ⟨kW m.d a.sp 0,kW m.d a.sp 1,kW m.d a.sp 2,kW m.d a.sp 3,?_⟩;show KZ m.d 4 ⟨0,0⟩=true;unfold KZ;simp [Sp.emp,E2]
 have hkind:RA m ((FB a m).bud w)=true:=by
  unfold RA;show cond (FN a m.c==1) (decide (cond (FN a m.c==1) (KD a) 0≤cond (FN a m.c==1) (KD a+DM a.size 0 18000) 0)&&((cond (FN a m.c==3) (DM a.ft 0 (m.d - 1)) 0==0)&&!(cond (FN a m.c==3) a.fl false)))
   (cond (FN a m.c==2) (decide (m.c≥2)&&((cond (FN a m.c==1) (KD a) 0==0)&&((cond (FN a m.c==1) (KD a+DM a.size 0 18000) 0==0)&&((cond (FN a m.c==3) (DM a.ft 0 (m.d - 1)) 0==0)&&!(cond (FN a m.c==3) a.fl false)))))
    (cond (FN a m.c==3) (decide (cond (FN a m.c==3) (DM a.ft 0 (m.d - 1)) 0≥0)&&(decide (cond (FN a m.c==3) (DM a.ft 0 (m.d - 1)) 0 < m.d)&&((cond (FN a m.c==1) (KD a) 0==0)&&(cond (FN a m.c==1) (KD a+DM a.size 0 18000) 0==0)))) false))=true
  rcases zch a m.c with h | ⟨h,h2⟩ | h
  ·rw [h];show (decide (KD a≤KD a+DM a.size 0 18000)&&true)=true;rw [AD (by omega)]; rfl
  ·rw [h];show (decide (m.c≥2)&&true)=true;rw [AD h2]; rfl
  ·rw [h];show (decide (DM a.ft 0 (m.d - 1)≥0)&&(decide (DM a.ft 0 (m.d - 1) < m.d)&&true))=true;rw [AD hft.1,AD (by omega)]; rfl
 unfold FG;rw [hm,hreg,hkind,AD (show ((FB a m).bud w).c≥0 from hcl.1),AD (show ((FB a m).bud w).c < m.c by show DM a.c 0 (m.c - 1) < m.c; omega),AD (show ((FB a m).bud w).bu≥0 from h0),AD (show ((FB a m).bud w).bu≤65536 from h1)];rfl
open Go
abbrev jZ:List Kd:=[.z,.z,.z,.z,.z,.z,.z,.z,.z,.z,.z]
def QJ (a:Int) (b:Bx):IV:=.agg [.int a,.int b.s0.lo,.int b.s0.hi,.int b.s1.lo,.int b.s1.hi,.int b.s2.lo,.int b.s2.hi,.int b.s3.lo,.int b.s3.hi,.int b.s4.lo,.int b.s4.hi]
abbrev H3 (x:IV):Int:=cI x 0
def JR (x:IV):Bx:=⟨⟨cI x 1,cI x 2⟩,⟨cI x 3,cI x 4⟩,⟨cI x 5,cI x 6⟩,⟨cI x 7,cI x 8⟩,⟨cI x 9,cI x 10⟩⟩
theorem X7 (a:Int) (b:Bx):H3 (QJ a b)=a:=rfl
theorem TG (a:Int) (b:Bx):JR (QJ a b)=b:=rfl
structure En where
 todo:LI
 lo:Int
 hi:Int
 any:Bool
def E1 (l:LI):IV:=l.getD (l.length - 1) default
def E0 (l:LI) (e:En):Nd:=DL (l.getD (H3 (E1 e.todo)).toNat default).toInt
def eB (l:LI) (e:En):En:=
 cond (!(GC (l.getD (H3 (E1 e.todo)).toNat default).toInt)||(JR (E1 e.todo)).emp) ⟨F3 e.todo,e.lo,e.hi,e.any⟩
  (cond (!(E0 l e).lf)
   ⟨F3 e.todo++[QJ (E0 l e).l ((JR (E1 e.todo)).cutL (E0 l e).f (E0 l e).a),QJ (E0 l e).r ((JR (E1 e.todo)).cutH (E0 l e).f (E0 l e).a)],e.lo,e.hi,e.any⟩
   ⟨F3 e.todo,min (cond e.any e.lo (E0 l e).v) (E0 l e).v,max (cond e.any e.hi (E0 l e).v) (E0 l e).v,true⟩)
def n8 (b:Bx):En:=⟨[QJ 0 b],0,0,false⟩
structure EnI (l:LI) (b:Bx) (e:En):Prop where
 at_:∀ (j:Nat) (x:IV),e.todo[j]?=some x→(j:Int)≤H3 x∧H3 x < ic l.length
 ok:∀ x∈e.todo,(JR x).ok
 val:∀ x∈e.todo,∀ p t,(JR x).has p t=true→b.has p t=true∧HD l p=QI l p (H3 x).toNat
 all:∀ p t,b.has p t=true→(∃ x∈e.todo,(JR x).has p t=true)∨(e.any=true∧e.lo≤HD l p∧HD l p≤e.hi)
 lo:e.any=true→∃ p t,b.has p t=true∧HD l p=e.lo
 hi:e.any=true→∃ p t,b.has p t=true∧HD l p=e.hi
theorem fR {l:LI} {j:Nat} {x:IV} (h:(F3 l)[j]?=some x):l[j]?=some x:=by
 unfold F3 at h;rw [CM] at h;split at h
 ·exact h
 ·cases h
theorem s6 {l:LI} {x:IV} (hl:0 < l.length) (h:x∈l):x∈F3 l∨x=E1 l:=by
 obtain ⟨j,hj⟩:=List.getElem?_of_mem h;have hjl:=(BR.1 hj).1;by_cases hc:j < l.length - 1
 ·refine .inl (vah (i:=j) ?_);unfold F3;rw [CM,BP hc];exact hj
 ·have:j=l.length - 1:=by omega
  subst this;refine .inr ?_;unfold E1;rw [BV,hj];rfl
theorem VE {l:LI} (hl:0 < l.length):E1 l∈l∧l[l.length - 1]?=some (E1 l):=by
 unfold E1;rw [BV,A8 (by omega)];exact ⟨CX _,rfl⟩
theorem U2 (l:LI):(F3 l).length=l.length - 1:=by
 unfold F3;rw [BB]; omega
theorem We {l:LI} (ht:TreeOK l) {b:Bx} {e:En} (h:EnI l b e) (hl:0 < e.todo.length):EnI l b (eB l e):=by
 obtain ⟨hm,hg⟩:=VE hl;have ha:=h.at_ _ _ hg;have h31:=ht.len.2;have hpm:∀ x∈F3 e.todo,x∈e.todo:=fun x hx=>ZU hx
 have e0:((H3 (E1 e.todo)).toNat:Int)=H3 (E1 e.todo):=by omega
 have hlt:(H3 (E1 e.todo)).toNat < l.length:=by have:=ha.2; simp only [ic] at this; omega
 have hn:=ht.node _ hlt;have hv:=h.val _ hm;have hok:=h.ok _ hm;unfold eB;rw [hn,A3,vaz];cases he:(JR (E1 e.todo)).emp with
 | true=>
  rw [DI];refine ⟨fun j x hj=>h.at_ j x (fR hj),fun x hx=>h.ok x (hpm x hx),fun x hx=>h.val x (hpm x hx),fun p t hh=>?_,h.lo,h.hi⟩;rcases h.all p t hh with ⟨x,hx,hxh⟩ | hr
  ·rcases s6 hl hx with hx | rfl
   ·exact .inl ⟨x,hx,hxh⟩
   ·have:=iP hxh
    rw [he] at this; cases this
  ·exact .inr hr
 | false=>
  rw [DJ];cases hlf:(E0 l e).lf with
  | true=>
   rw [A3,DJ];have hvl:∀ p t,(JR (E1 e.todo)).has p t=true→b.has p t=true∧HD l p=(E0 l e).v:=fun p t hh=>by
    obtain ⟨h1,h2⟩:=hv p t hh;exact ⟨h1,h2.trans (Og ht p hlt hlf)⟩
   have hlow:=hvl _ _ (YY _ he);refine ⟨fun j x hj=>h.at_ j x (fR hj),fun x hx=>h.ok x (hpm x hx),fun x hx=>h.val x (hpm x hx),fun p t hh=>?_,fun _=>?_,fun _=>?_⟩
   ·rcases h.all p t hh with ⟨x,hx,hxh⟩ | ⟨h1,h2,h3⟩
    ·rcases s6 hl hx with hx | rfl
     ·exact .inl ⟨x,hx,hxh⟩
     ·refine .inr ⟨rfl,?_,?_⟩
      ·rw [(hvl p t hxh).2]; show min _ _≤_; omega
      ·rw [(hvl p t hxh).2]; show _≤max _ _; omega
    ·refine .inr ⟨rfl,?_,?_⟩
     ·show min (cond e.any e.lo _) _≤_;rw [h1,DI]; omega
     ·show _≤max (cond e.any e.hi _) _;rw [h1,DI]; omega
   ·show ∃ p t,b.has p t=true∧HD l p=min (cond e.any e.lo (E0 l e).v) (E0 l e).v;cases hany:e.any with
    | false=>exact ⟨_,_,hlow.1,by rw [hlow.2,DJ]; omega⟩
    | true=>
     rw [DI];by_cases hc:e.lo≤(E0 l e).v
     ·obtain ⟨p,t,h1,h2⟩:=h.lo hany;exact ⟨p,t,h1,by omega⟩
     ·exact ⟨_,_,hlow.1,by rw [hlow.2]; omega⟩
   ·show ∃ p t,b.has p t=true∧HD l p=max (cond e.any e.hi (E0 l e).v) (E0 l e).v;cases hany:e.any with
    | false=>exact ⟨_,_,hlow.1,by rw [hlow.2,DJ]; omega⟩
    | true=>
     rw [DI];by_cases hc:(E0 l e).v≤e.hi
     ·obtain ⟨p,t,h1,h2⟩:=h.hi hany;exact ⟨p,t,h1,by omega⟩
     ·exact ⟨_,_,hlow.1,by rw [hlow.2]; omega⟩
  | false=>
   rw [A7,DI];obtain ⟨⟨f0,f4⟩,fa,⟨l1,l2⟩,⟨r1,r2⟩,_⟩:=ht.fork _ hlt hlf;replace f0:0≤(E0 l e).f:=f0;replace f4:(E0 l e).f < 4:=f4;replace l1:((H3 (E1 e.todo)).toNat:Int) < (E0 l e).l:=l1;replace l2:(E0 l e).l < ic l.length:=l2;replace r1:((H3 (E1 e.todo)).toNat:Int) < (E0 l e).r:=r1;replace r2:(E0 l e).r < ic l.length:=r2;have ef:(E0 l e).f=(((E0 l e).f.toNat:Nat):Int):=by omega
   have hfl:(E0 l e).f.toNat < 5:=by omega
   have fa' : -2147483648≤(E0 l e).a:=by
    have:E2 (E0 l e).a=true:=fa
    unfold E2 at this;simp only [AI,AQ] at this;exact this.1
   have vf:∀ p:Pt,QI l p (H3 (E1 e.todo)).toNat=QI l p (cond (decide (p.g (E0 l e).f.toNat≤(E0 l e).a)) (E0 l e).l.toNat (E0 l e).r.toNat):=fun p=>Oe ht p hlt hlf
   have hL:∀ p t,((JR (E1 e.todo)).cutL (E0 l e).f (E0 l e).a).has p t=true↔(JR (E1 e.todo)).has p t=true∧co p t (E0 l e).f.toNat≤(E0 l e).a:=fun p t=>by
    have:=nQ (b:=JR (E1 e.todo)) hfl (a:=(E0 l e).a) (p:=p) (t:=t)
    rwa [← ef] at this
   have hH:∀ p t,((JR (E1 e.todo)).cutH (E0 l e).f (E0 l e).a).has p t=true↔(JR (E1 e.todo)).has p t=true∧(E0 l e).a < co p t (E0 l e).f.toNat:=fun p t=>by
    have:=nO hok hfl fa' (p:=p) (t:=t)
    rwa [← ef] at this
   have okL:((JR (E1 e.todo)).cutL (E0 l e).f (E0 l e).a).ok:=by
    have:=zD hok hfl (E0 l e).a
    rwa [← ef] at this
   have okH:((JR (E1 e.todo)).cutH (E0 l e).f (E0 l e).a).ok:=by
    have:=y9 hok hfl (E0 l e).a
    rwa [← ef] at this
   have hco:∀ p t,co p t (E0 l e).f.toNat=p.g (E0 l e).f.toNat:=fun p t=>iW p t (by omega)
   refine ⟨fun j x hj=>?_,fun x hx=>?_,fun x hx=>?_,fun p t hh=>?_,h.lo,h.hi⟩
   ·rw [vag,U2] at hj;split at hj
    ·exact h.at_ j x (fR hj)
    ·rename_i hc;have h1:=ha.1;rcases DD (j - (e.todo.length - 1)) 1 with h0 | h0
     ·have:j - (e.todo.length - 1)=0:=by omega
      rw [this] at hj;simp only [BZ,AC] at hj;subst hj;rw [X7];omega
     ·rcases DD (j - (e.todo.length - 1)) 2 with h2 | h2
      ·have:j - (e.todo.length - 1)=1:=by omega
       rw [this] at hj;simp only [C5,BZ,AC] at hj;subst hj;rw [X7];omega
      ·rw [B1 (by simpa using h2)] at hj;cases hj
   ·rcases AX.1 hx with hx | hx
    ·exact h.ok x (hpm x hx)
    ·rcases AP.1 hx with rfl | hx
     ·rw [TG]; exact okL
     ·obtain rfl:=BM.1 hx;rw [TG]; exact okH
   ·rcases AX.1 hx with hx | hx
    ·exact h.val x (hpm x hx)
    ·rcases AP.1 hx with rfl | hx
     ·intro p t hh;rw [TG] at hh;obtain ⟨h1,h2⟩:=(hL p t).1 hh;obtain ⟨h3,h4⟩:=hv p t h1;rw [hco] at h2;rw [X7];exact ⟨h3,by rw [h4,vf,AD h2,DI]⟩
     ·obtain rfl:=BM.1 hx;intro p t hh;rw [TG] at hh;obtain ⟨h1,h2⟩:=(hH p t).1 hh;obtain ⟨h3,h4⟩:=hv p t h1;rw [hco] at h2;rw [X7];exact ⟨h3,by rw [h4,vf,AL (by omega),DJ]⟩
   ·rcases h.all p t hh with ⟨x,hx,hxh⟩ | hr
    ·rcases s6 hl hx with hx | rfl
     ·exact .inl ⟨x,AX.2 (.inl hx),hxh⟩
     ·by_cases hc:co p t (E0 l e).f.toNat≤(E0 l e).a
      ·exact .inl ⟨_,AX.2 (.inr (AO ..)),by rw [TG]; exact (hL p t).2 ⟨hxh,hc⟩⟩
      ·exact .inl ⟨_,AX.2 (.inr (AY _ (AO ..))),by rw [TG]; exact (hH p t).2 ⟨hxh,by omega⟩⟩
    ·exact .inr hr
theorem Wd {l:LI} (ht:TreeOK l) {b:Bx} (hb:b.ok):EnI l b (n8 b):=by
 have h1:=ht.len.1;refine ⟨fun j x hj=>?_,fun x hx=>?_,fun x hx=>?_,fun p t hh=>.inl ⟨_,AO ..,by rw [TG]; exact hh⟩,(fun h=>by cases h),(fun h=>by cases h)⟩
 ·match j,hj with
  | 0,hj=>
   obtain rfl:QJ 0 b=x:=by simpa [n8] using hj
   rw [X7];simp only [ic];omega
  | j+1,hj=>simp [n8] at hj
 ·obtain rfl:=BM.1 hx;rw [TG]; exact hb
 ·obtain rfl:=BM.1 hx;intro p t hh;rw [TG] at hh;exact ⟨hh,rfl⟩
def PZ (l:LI):Nat:=(l.map fun x=>3 ^ (31 - (H3 x).toNat)).sum
theorem EnI.depth {l:LI} (ht:TreeOK l) {b:Bx} {e:En} (h:EnI l b e):e.todo.length≤31:=by
 by_cases hc:e.todo.length≤31
 ·exact hc
 ·obtain ⟨x,hx⟩:∃ x,e.todo[31]?=some x:=⟨_,A8 (by omega)⟩
  have:=h.at_ 31 x hx
  have h2:=ht.len.2;simp only [ic] at this;omega
theorem Wa {l:LI} (hl:0 < l.length):PZ l=PZ (F3 l)+3 ^ (31 - (H3 (E1 l)).toNat):=by
 have e:l=F3 l++[E1 l]:=by
  have h2:=(VE hl).2;have h3:l[l.length - 1]=E1 l:=CS ((A8 (by omega)).symm.trans h2);unfold F3;rw [← h3,List.take_append_getElem,CV (by omega)]
 unfold PZ
 conv=>lhs; rw [e]
 rw [List.map_append,List.sum_append];simp
theorem ziR {a b c:Nat} (h1:a < b) (h2:a < c) (ha:a < 31):3 ^ (31 - b)+3 ^ (31 - c)+1≤3 ^ (31 - a):=by
 have e:3 ^ (31 - a)=3*3 ^ (30 - a):=by
  rw [show 31 - a=(30 - a)+1 by omega,Nat.pow_succ]; omega
 have e1:3 ^ (31 - b)≤3 ^ (30 - a):=Nat.pow_le_pow_right (by omega) (by omega);have e2:3 ^ (31 - c)≤3 ^ (30 - a):=Nat.pow_le_pow_right (by omega) (by omega);have e3:0 < 3 ^ (30 - a):=Nat.pow_pos (by omega);omega
theorem Wc {l:LI} (ht:TreeOK l) {b:Bx} {e:En} (h:EnI l b e) (hl:0 < e.todo.length):PZ (eB l e).todo+1≤PZ e.todo:=by
 obtain ⟨hm,hg⟩:=VE hl;have ha:=h.at_ _ _ hg;have h31:=ht.len.2;have hlt:(H3 (E1 e.todo)).toNat < l.length:=by have:=ha.2; simp only [ic] at this; omega
 have hpos:0 < 3 ^ (31 - (H3 (E1 e.todo)).toNat):=Nat.pow_pos (by omega);rw [Wa hl];unfold eB;cases !GC (l.getD (H3 (E1 e.todo)).toNat default).toInt||(JR (E1 e.todo)).emp with
 | true=>rw [DI]; show PZ (F3 e.todo)+1≤_; omega
 | false=>
  rw [DJ];cases hlf:(E0 l e).lf with
  | true=>rw [A3,DJ]; show PZ (F3 e.todo)+1≤_; omega
  | false=>
   rw [A7,DI];obtain ⟨_,_,⟨l1,l2⟩,⟨r1,r2⟩,_⟩:=ht.fork _ hlt hlf;replace l1:((H3 (E1 e.todo)).toNat:Int) < (E0 l e).l:=l1;replace r1:((H3 (E1 e.todo)).toNat:Int) < (E0 l e).r:=r1
   have:=ziR (a:=(H3 (E1 e.todo)).toNat) (b:=(E0 l e).l.toNat) (c:=(E0 l e).r.toNat) (by omega) (by omega) (by omega)
   unfold PZ at *;rw [List.map_append,List.sum_append];simp only [A0,CA,va3,List.sum_nil,X7];omega
theorem Wb {l:LI} (hT:GV l 4=true) {b:Bx} (hb:b.emp=false) (hok:b.ok) {e:En} (h:EnI l b e) (hl:e.todo=[]):e.lo=IB l b∧e.hi=IA l b:=by
 obtain ⟨t1,⟨p1,u1,q1,q2⟩,⟨p2,u2,q3,q4⟩⟩:=X2 hT hb hok;have hall:∀ p t,b.has p t=true→e.any=true∧e.lo≤HD l p∧HD l p≤e.hi:=fun p t hh=>by
  rcases h.all p t hh with ⟨x,hx,_⟩ | hr
  ·rw [hl] at hx; cases hx
  ·exact hr
 have hany:=(hall _ _ q1).1;obtain ⟨p3,u3,q5,q6⟩:=h.lo hany;obtain ⟨p4,u4,q7,q8⟩:=h.hi hany;have a1:=hall _ _ q1;have a2:=hall _ _ q3;have a3:=t1 _ _ q5;have a4:=t1 _ _ q7;omega
theorem ziK {l:LI} (hT:GV l 4=true) {b c:Bx} (hb:b.emp=false) (hok:b.ok) (hc:c.emp=false) (hokc:c.ok) (h:∀ p,(∃ t,b.has p t=true)↔∃ t,c.has p t=true):IB l b=IB l c∧IA l b=IA l c:=by
 obtain ⟨t1,⟨p1,u1,q1,q2⟩,⟨p2,u2,q3,q4⟩⟩:=X2 hT hb hok;obtain ⟨s1,⟨p3,u3,q5,q6⟩,⟨p4,u4,q7,q8⟩⟩:=X2 hT hc hokc;obtain ⟨v1,w1⟩:=(h p1).1 ⟨u1,q1⟩;obtain ⟨v2,w2⟩:=(h p2).1 ⟨u2,q3⟩;obtain ⟨v3,w3⟩:=(h p3).2 ⟨u3,q5⟩;obtain ⟨v4,w4⟩:=(h p4).2 ⟨u4,q7⟩;have a1:=s1 _ _ w1;have a2:=s1 _ _ w2;have a3:=t1 _ _ w3;have a4:=t1 _ _ w4;omega
open Go
theorem rF:∀ {l:LI} {st st':LI × LI} {x:IV},JB l st=some st'→JB (l++[x]) st=OA st' x
 | [],st,st',x,h=>by
  obtain rfl:=CS h;rw [C4,JB];cases OA st x <;> rfl
 | y :: r,st,st',x,h=>by
  rw [CT,JB];rw [JB] at h;cases hs:OA st y with
  | none=>rw [hs] at h; cases h
  | some s1=>rw [hs] at h; exact rF h
theorem nY:∀ {l:LI} {st st':Int × Int} {x:IV},KS l st=some st'→KS (l++[x]) st=N3 st' x
 | [],st,st',x,h=>by
  obtain rfl:=CS h;rw [C4,KS];cases N3 st x <;> rfl
 | y :: r,st,st',x,h=>by
  rw [CT,KS];rw [KS] at h;cases hs:N3 st y with
  | none=>rw [hs] at h; cases h
  | some s1=>rw [hs] at h; exact nY h
def LD (m:Md) (q:Qy) (b:Bx):Nat:=(FD m q b 0).length+(FD m q b 1).length+(FD m q b 2).length+(FD m q b 3).length+(FD m q b 4).length
theorem Aj {α:Type} {p q:α→Bool}:∀ {l:List α},(∀ x∈l,p x=true→q x=true)→(l.filter p).length≤(l.filter q).length
 | [],_=>AZ _
 | x :: l,h=>by
  have ih:=Aj (l:=l) (p:=p) (q:=q) fun y hy=>h y (AY _ hy)
  have hx:=h x (AO ..);rw [vbm,vbm];cases hp:p x with
  | true=>rw [hx hp,BP rfl,BP rfl]; simp only [AM]; omega
  | false=>
   rw [BD (by decide)];cases q x with
   | true=>rw [BP rfl]; simp only [AM]; omega
   | false=>rw [BD (by decide)]; exact ih
theorem Al {α:Type} {p q:α→Bool} {a:α}:∀ {l:List α},a∈l→p a=false→q a=true→(∀ x∈l,p x=true→q x=true)→(l.filter p).length < (l.filter q).length
 | [],h,_,_,_=>by cases h
 | x :: l,hm,h1,h2,h=>by
  have hx:=h x (AO ..);have hr:=fun y hy=>h y (AY _ hy)
  rw [vbm,vbm];rcases AP.1 hm with rfl | hm
  ·rw [h1,h2,BD (by decide),BP rfl]
   have:=Aj hr
   simp only [AM]; omega
  ·have ih:=Al hm h1 h2 hr;cases hp:p x with
   | true=>rw [hx hp,BP rfl,BP rfl]; simp only [AM]; omega
   | false=>
    rw [BD (by decide)];cases q x with
    | true=>rw [BP rfl]; simp only [AM]; omega
    | false=>rw [BD (by decide)]; exact ih
theorem Vl {m:Md} {q:Qy} {b c:Bx} {i:Nat} (h:c.g i=b.g i):FD m q c i=FD m q b i:=by unfold FD; rw [h]
theorem zJ {m:Md} {q:Qy} {b c:Bx} {i:Nat} {a:Int} (ha:a∈FD m q b i) (h1:(b.g i).lo≤(c.g i).lo) (h2:(c.g i).hi≤(b.g i).hi) (h3:a < (c.g i).lo∨(c.g i).hi≤a):(FD m q c i).length < (FD m q b i).length:=by
 obtain ⟨hf,hm,hl,hh⟩:=W0.1 ha;unfold FD;rw [AL (by omega),DJ,DJ];unfold K6;refine Al hm ?_ ?_ ?_
 ·simp only [Bool.not_eq_false',vap,AQ]; omega
 ·simp only [B3,vas,BW]; omega
 ·intro x _;simp only [B3,vas,BW]; omega
theorem Fu {m:Md} {q:Qy} {b c:Bx} {j:Nat} (hj:j < 5) (h1:(FD m q c j).length < (FD m q b j).length) (h2:∀ i,i < 5→i≠j→c.g i=b.g i):LD m q c < LD m q b:=by
 have e:∀ i,i < 5→i≠j→(FD m q c i).length=(FD m q b i).length:=fun i hi hn=>by rw [Vl (h2 i hi hn)]
 unfold LD
 match j,hj with
 | 0,_=>have:=e 1 (by omega) (by omega); have:=e 2 (by omega) (by omega); have:=e 3 (by omega) (by omega); have:=e 4 (by omega) (by omega); omega
 | 1,_=>have:=e 0 (by omega) (by omega); have:=e 2 (by omega) (by omega); have:=e 3 (by omega) (by omega); have:=e 4 (by omega) (by omega); omega
 | 2,_=>have:=e 0 (by omega) (by omega); have:=e 1 (by omega) (by omega); have:=e 3 (by omega) (by omega); have:=e 4 (by omega) (by omega); omega
 | 3,_=>have:=e 0 (by omega) (by omega); have:=e 1 (by omega) (by omega); have:=e 2 (by omega) (by omega); have:=e 4 (by omega) (by omega); omega
 | 4,_=>have:=e 0 (by omega) (by omega); have:=e 1 (by omega) (by omega); have:=e 2 (by omega) (by omega); have:=e 3 (by omega) (by omega); omega
 | n+5,h=>omega
theorem Kj {lo hi:Int} (h:lo≤hi):MY lo hi=⟨lo,hi⟩:=by unfold MY; rw [AL (by omega),DJ]
theorem Fs {m:Md} {q:Qy} {b:Bx} {j:Nat} (hj:j < 5) {a:Int} (ha:a∈FD m q b j):LD m q (b.cutL (j:Int) a) < LD m q b:=by
 obtain ⟨hf,hm,hl,hh⟩:=W0.1 ha;have e:∀ i,i < 5→(b.cutL (j:Int) a).g i=if i=j then ⟨(b.g j).lo,a⟩ else b.g i:=fun i hi=>by
  unfold Bx.cutL;rw [BF,LR b _ hj hi];unfold Sp.cutL;rw [show min (b.g j).hi a=a by omega,Kj hl]
 refine Fu hj (zJ ha ?_ ?_ ?_) fun i hi hn=>by rw [e i hi,BD hn]
 ·rw [e j hj,BP rfl]; exact vac _
 ·rw [e j hj,BP rfl]; show a≤_; omega
 ·rw [e j hj,BP rfl]; exact .inr (vac _)
theorem zfC {m:Md} {q:Qy} {b:Bx} (hb:b.good) {j:Nat} (hj:j < 5) {a:Int} (ha:a∈FD m q b j):LD m q (b.cutH (j:Int) a) < LD m q b:=by
 obtain ⟨hf,hm,hl,hh⟩:=W0.1 ha;have hg:=hb j hj;have e:∀ i,i < 5→(b.cutH (j:Int) a).g i=if i=j then ⟨a+1,(b.g j).hi⟩ else b.g i:=fun i hi=>by
  unfold Bx.cutH;rw [BF,LR b _ hj hi];unfold Sp.cutH;rw [AL (by omega),DJ,show FL (a+1)=a+1 from EH (by omega) (by omega),show max (b.g j).lo (a+1)=a+1 by omega,Kj (by omega)]
 refine Fu hj (zJ ha ?_ ?_ ?_) fun i hi hn=>by rw [e i hi,BD hn]
 ·rw [e j hj,BP rfl]; show _≤a+1; omega
 ·rw [e j hj,BP rfl]; exact vac _
 ·rw [e j hj,BP rfl]; exact .inl (by show a < a+1; omega)
structure Rp (m:Md) (q:Qy) (s:Sr):Prop where
 left:ZL s
 pt:∀ (j:Nat) (x:IV),s.left[j]?=some x→LD m q (D7 x)+j≤LD m q (GJ q)
 ps:∃ outs,JB s.proof ([(GJ q).I],[])=some (s.left,outs)∧∀ x∈outs,GQ m q (D7 x)=true
 dp:∃ most,KS s.proof (1,1)=some (ic s.left.length,most)∧1≤most∧most≤(LD m q (GJ q):Int)+1
theorem zgu {m:Md} {q:Qy} (h:FG m q=true):Rp m q ⟨[(GJ q).I],[],Vd.none,0⟩ where
 left:=zcR h
 pt j x hj:=by
  match j,hj with
  | 0,hj=>
   obtain rfl:(GJ q).I=x:=by simpa using hj
   rw [IO]; omega
  | j+1,hj=>simp at hj
 ps:=⟨[],rfl,fun x hx=>by cases hx⟩
 dp:=⟨1,rfl,by omega,by omega⟩
theorem Hq {m:Md} {q:Qy} {s:Sr} (hr:FG m q=true) (h:Rp m q s) (hl:0 < s.left.length) (hn:GQ m q (D0 s.left)=false→HJ m q (D0 s.left).low (D0 s.left).s4.hi=false):Rp m q (GE m q s):=by
 obtain ⟨outs,hps,hout⟩:=h.ps;obtain ⟨most,hdp,hm1,hm2⟩:=h.dp;have hg:=ziz (m:=m) (q:=q) h.left hl;have ht:=lT h.left hl;have htop:s.left[s.left.length - 1]?=some (E1 s.left):=(VE hl).2;have ept:D0 s.left=D7 (E1 s.left):=rfl;have hpt:=h.pt _ _ htop;rw [← ept] at hpt;cases hc:GQ m q (D0 s.left) with
 | true=>
  have e:(GE m q s).left=F3 s.left∧(GE m q s).proof=s.proof++[NN true 0 0]:=by
   unfold GE;rw [hc,DI];exact ⟨rfl,rfl⟩
  refine ⟨hg,fun j x hj=>?_,⟨outs++[(D0 s.left).I],?_,fun x hx=>?_⟩,⟨most,?_,hm1,hm2⟩⟩
  ·rw [e.1] at hj;exact h.pt j x (fR hj)
  ·rw [e.2,rF hps,e.1];rfl
  ·rcases AX.1 hx with hx | hx
   ·exact hout x hx
   ·obtain rfl:=BM.1 hx;rw [IO]; exact hc
  ·rw [e.2,nY hdp,e.1,U2];unfold N3;have h1:(ic s.left.length==0)=false:=A4.2 (by simp only [ic]; omega);show cond ((ic s.left.length==0)||!true) none (some (ic s.left.length - 1,most))=_;rw [h1];show some (ic s.left.length - 1,most)=_;rw [show ic s.left.length - 1=ic (s.left.length - 1) by simp only [ic]; omega]
 | false=>
  have hb:=hn hc;have hs:=Mp hr h.left hl hc hb;obtain ⟨j,hj,ei,_,_,hm⟩:=tA hs;have hcut:=W0.1 hm;have e:(GE m q s).left=F3 s.left++[((D0 s.left).cutH (j:Int) (I4 (EY m q (D0 s.left)))).I,((D0 s.left).cutL (j:Int) (I4 (EY m q (D0 s.left)))).I]∧(GE m q s).proof=s.proof++[NN false (j:Int) (I4 (EY m q (D0 s.left)))]:=by
   unfold GE;rw [hc,DJ,hb,DJ,hs,DI,ei];exact ⟨rfl,rfl⟩
  generalize I4 (EY m q (D0 s.left))=a at hm hcut e;refine ⟨hg,fun k x hk=>?_,⟨outs,?_,hout⟩,⟨max most (ic s.left.length+1),?_,by omega,?_⟩⟩
  ·rw [e.1,vag,U2] at hk;split at hk
   ·exact h.pt k x (fR hk)
   ·rcases DD (k - (s.left.length - 1)) 1 with h0 | h0
    ·rw [show k - (s.left.length - 1)=0 by omega] at hk;simp only [BZ,AC] at hk;subst hk;rw [IO]
     have:=zfC ht hj hm
     omega
    ·rcases DD (k - (s.left.length - 1)) 2 with h2 | h2
     ·rw [show k - (s.left.length - 1)=1 by omega] at hk;simp only [C5,BZ,AC] at hk;subst hk;rw [IO]
      have:=Fs (q:=q) hj hm
      omega
     ·rw [B1 (by simpa using h2)] at hk;cases hk
  ·rw [e.2,rF hps,e.1];unfold OA;show cond false _ (cond (decide (a < ((D0 s.left).g ((j:Int)).toNat).lo)||decide (a≥((D0 s.left).g ((j:Int)).toNat).hi)) none _)=_;rw [DJ,BF,AL (by omega),AL (by omega)];rfl
  ·rw [e.2,nY hdp,e.1];unfold N3;have h1:(ic s.left.length==0)=false:=A4.2 (by simp only [ic]; omega);have h2:KI (NN false (j:Int) a)=true:=by
    show (decide ((0:Int)≤(j:Int))&&decide ((j:Int)≤4))=true;rw [AD (by omega),AD (by omega)]; rfl
   show cond ((ic s.left.length==0)||!(KI (NN false (j:Int) a))) none (some (ic s.left.length+1,max most (ic s.left.length+1)))=_;rw [h1,h2];show some (ic s.left.length+1,max most (ic s.left.length+1))=_;rw [AT,U2]
   have:ic (s.left.length - 1+[((D0 s.left).cutH (j:Int) a).I,((D0 s.left).cutL (j:Int) a).I].length)=ic s.left.length+1:=by simp only [ic,AM,A6]; omega
   rw [this]
  ·have h3:0 < LD m q (D0 s.left):=Nat.lt_of_le_of_lt (B5 _) (Fs (q:=q) hj hm);simp only [ic];omega
open Go
def RH (ts:LI):Nat:=(ts.map fun t=>(FE t).length).sum
theorem ziO (w:IV):(I6 0 w).length+(I6 1 w).length+(I6 2 w).length+(I6 3 w).length≤1:=by
 unfold I6;cases (DL w.toInt).lf with
 | true=>simp
 | false=>
  generalize (DL w.toInt).f=f;by_cases h0:f=0
  ·subst h0; exact AZ _
  by_cases h1:f=1
  ·subst h1; exact AZ _
  by_cases h2:f=2
  ·subst h2; exact AZ _
  by_cases h3:f=3
  ·subst h3; exact AZ _
  rw [A4.2 h0,A4.2 h1,A4.2 h2,A4.2 h3];simp
theorem ziN (f:Int) (w:IV):(I6 f w).length≤1:=by
 unfold I6;cases (!(DL w.toInt).lf&&(DL w.toInt).f==f) <;> simp
theorem Ec:∀ (l:LI),(l.flatMap (I6 0)).length+(l.flatMap (I6 1)).length+(l.flatMap (I6 2)).length+(l.flatMap (I6 3)).length≤l.length
 | []=>AZ _
 | w :: l=>by
  have:=Ec l
  have:=ziO w
  simp only [vaq,AT,AM];omega
theorem Ea (f:Int):∀ (l:LI),(l.flatMap (I6 f)).length≤l.length
 | []=>AZ _
 | w :: l=>by
  have:=Ea f l
  have:=ziN f w
  simp only [vaq,AT,AM];omega
theorem Gu:∀ (ts:LI),(IM ts 0).length+(IM ts 1).length+(IM ts 2).length+(IM ts 3).length≤RH ts
 | []=>AZ _
 | t :: ts=>by
  have:=Gu ts
  have:=Ec (FE t)
  unfold IM RH at *;simp only [vaq,AT,A0,va3];omega
theorem Gt (f:Int):∀ (ts:LI),(IM ts f).length≤RH ts
 | []=>AZ _
 | t :: ts=>by
  have:=Gt f ts
  have:=Ea f (FE t)
  unfold IM RH at *;simp only [vaq,AT,A0,va3];omega
theorem d6 (m:Md) (q:Qy) (b:Bx) (i:Nat):(FD m q b i).length≤(IM m.ts (IS q (i:Int))).length:=by
 unfold FD;cases decide (IS q (i:Int) < 0) with
 | true=>rw [DI]; exact B5 _
 | false=>
  rw [DJ];unfold K6 JO;refine C1 (List.length_filter_le ..) ?_;rw [← (TA (IM m.ts (IS q (i:Int)))).length_eq];exact iV _
theorem zfD (m:Md) (q:Qy) (b:Bx):LD m q b≤2*RH m.ts:=by
 have h0:=d6 m q b 0;have h1:=d6 m q b 1;have h2:=d6 m q b 2;have h3:=d6 m q b 3;have h4:=d6 m q b 4;have h5:=Gt (IS q ((4:Nat):Int)) m.ts;have h6:=Gu m.ts;rw [oI (by omega)] at h0 h1 h2 h3;unfold LD;simp only [Int.natCast_zero] at *;have e1:((1:Nat):Int)=1:=rfl;have e2:((2:Nat):Int)=2:=rfl;have e3:((3:Nat):Int)=3:=rfl;rw [e1] at h1;rw [e2] at h2;rw [e3] at h3;omega
theorem Zi (f:Ft):RH f.M.ts≤60:=by
 have hd:=Y8 f.d;have key:∀ (l:LI),RH (l.map (aB f.d f.c))≤15*l.length:=by
  intro l
  induction l with
  | nil=>exact AZ _
  | cons t l ih=>
   obtain ⟨i,hi,hn⟩:=Ei (t.cell 1).toList (t.cell 2).toList (t.cell 3).toList (t.cell 4).toList (dim:=N2 f.d) ⟨hd.1,by omega⟩;have e:(FE (aB f.d f.c t)).length=2*i+1:=by
    show ((O7 (t.cell 1).toList (t.cell 2).toList (t.cell 3).toList (t.cell 4).toList (N2 f.d)).nodes.map S4).length=_;rw [BG,hn.len]
   unfold RH at *;simp only [A0,va3,AM];rw [e];omega
 have h4:(f.ts.take 4).length≤4:=by rw [BB]; omega
 have:=key (f.ts.take 4)
 show RH ((f.ts.take 4).map (aB f.d f.c))≤60;omega
open Go
def ziF (q:Qy) (s:Sr):Prop:=∀ x∈s.left,∀ p t,(D7 x).has p t=true→(GJ q).has p t=true
structure Ri (m:Md) (q:Qy) (s:Sr):Prop where
 sp:0≤s.spent∧s.spent≤q.bu
 opn:s.v.kind=0→Rp m q s∧0 < s.left.length∧s.spent=ic s.proof.length∧s.v.proof=[]∧ziF q s
 holds:s.v.kind=1→Rp m q s∧s.left=[]∧s.spent=ic s.proof.length∧s.v.proof=s.proof
 fails:s.v.kind=2→s.v.proof=[]∧1≤s.spent∧(GJ q).has ⟨s.v.w0,s.v.w1,s.v.w2,s.v.w3⟩ s.v.twin=true∧HJ m q ⟨s.v.w0,s.v.w1,s.v.w2,s.v.w3⟩ s.v.twin=true
 kinds:s.v.kind=0∨s.v.kind=1∨s.v.kind=2
theorem Hl {m:Md} {q:Qy} (h:FG m q=true):Ri m q ⟨[(GJ q).I],[],Vd.none,0⟩ where
 sp:=⟨vac _,(XT h).2.2.1.1⟩
 opn _:=⟨zgu h,by simp,rfl,rfl,fun x hx p t hh=>by
  obtain rfl:=BM.1 hx;rw [IO] at hh; exact hh⟩
 holds h:=absurd (show (0:Int)=1 from h) (by decide)
 fails h:=absurd (show (0:Int)=2 from h) (by decide)
 kinds:=.inl rfl
theorem zgk {m:Md} {q:Qy} {s:Sr} (hr:FG m q=true) (h:Ri m q s) (ho:JN q s=false):Ri m q (GE m q s):=by
 unfold JN at ho;rw [vas] at ho;have hk:s.v.kind=0:=by simpa using ho.1
 have hs:¬ s.spent≥q.bu:=BH ho.2;obtain ⟨hrp,hl,hsp,hvp,hsub⟩:=h.opn hk;have hsp0:=h.sp;have ht:=lT hrp.left hl;have htm:E1 s.left∈s.left:=(VE hl).1;have ept:D0 s.left=D7 (E1 s.left):=rfl;cases hc:GQ m q (D0 s.left) with
 | true=>
  have hrp':=Hq hr hrp hl (fun h=>by rw [hc] at h; cases h);have e:GE m q s=⟨F3 s.left,s.proof++[NN true 0 0],cond (ic (s.left.length - 1)==0) ⟨1,s.proof++[NN true 0 0],0,0,0,0,0,0⟩ s.v,s.spent+1⟩:=by
   unfold GE;rw [hc,DI]
  rw [e] at hrp' ⊢;have hlen:s.spent+1=ic (s.proof++[NN true 0 0]).length:=by
   rw [hsp]; simp only [ic,AT,AM,A6]; omega
  cases he:(ic (s.left.length - 1)==0) with
  | true=>
   rw [he] at hrp';have h1:s.left.length=1:=by
    have:ic (s.left.length - 1)=0:=by simpa using he
    simp only [ic] at this; omega
   have hnil:F3 s.left=[]:=List.length_eq_zero_iff.1 (by rw [U2]; omega);exact ⟨⟨by show 0≤s.spent+1; omega,by show s.spent+1≤_; omega⟩,fun h=>absurd (show (1:Int)=0 from h) (by decide),fun _=>⟨hrp',hnil,hlen,rfl⟩,fun h=>absurd (show (1:Int)=2 from h) (by decide),.inr (.inl rfl)⟩
  | false=>
   rw [he] at hrp';have h1:s.left.length - 1≠0:=fun h=>by rw [h] at he; exact absurd he (by decide)
   refine ⟨⟨by show 0≤s.spent+1; omega,by show s.spent+1≤_; omega⟩,fun _=>⟨hrp',?_,hlen,hvp,fun x hx=>hsub x (ZU hx)⟩,fun h=>?_,fun h=>?_,.inl hk⟩
   ·show 0 < (F3 s.left).length;rw [U2]; omega
   ·replace h:s.v.kind=1:=h;omega
   ·replace h:s.v.kind=2:=h;omega
 | false=>
  cases hb:HJ m q (D0 s.left).low (D0 s.left).s4.hi with
  | true=>
   have e:GE m q s=⟨F3 s.left,s.proof,⟨2,[],(D0 s.left).s0.lo,(D0 s.left).s1.lo,(D0 s.left).s2.lo,(D0 s.left).s3.lo,(D0 s.left).s4.hi,0⟩,s.spent+1⟩:=by
    unfold GE;rw [hc,DJ,hb,DI]
   rw [e];refine ⟨⟨by show 0≤s.spent+1; omega,by show s.spent+1≤_; omega⟩,fun h=>absurd (show (2:Int)=0 from h) (by decide),fun h=>absurd (show (2:Int)=1 from h) (by decide),fun _=>⟨rfl,by show 1≤s.spent+1; omega,?_,hb⟩,.inr (.inr rfl)⟩;exact hsub _ htm _ _ (by rw [← ept]; exact YY _ ht.emp)
  | false=>
   have hrp':=Hq hr hrp hl (fun _=>hb);have hs2:=Mp hr hrp.left hl hc hb;obtain ⟨j,hj,ei,_,_,hm⟩:=tA hs2;have hcut:=W0.1 hm;have hg:=ht j hj;have e:GE m q s=⟨F3 s.left++[((D0 s.left).cutH (j:Int) (I4 (EY m q (D0 s.left)))).I,((D0 s.left).cutL (j:Int) (I4 (EY m q (D0 s.left)))).I],
     s.proof++[NN false (j:Int) (I4 (EY m q (D0 s.left)))],s.v,s.spent+1⟩:=by
    unfold GE;rw [hc,DJ,hb,DJ,hs2,DI,ei]
   rw [e] at hrp' ⊢;generalize I4 (EY m q (D0 s.left))=a at hm hcut hrp';refine ⟨⟨by show 0≤s.spent+1; omega,by show s.spent+1≤_; omega⟩,fun _=>⟨hrp',by simp,?_,hvp,fun x hx p t hh=>?_⟩,fun h=>?_,fun h=>?_,.inl hk⟩
   ·show s.spent+1=_;rw [hsp]; simp only [ic,AT,AM,A6]; omega
   ·rcases AX.1 hx with hx | hx
    ·exact hsub x (ZU hx) p t hh
    ·rcases AP.1 hx with rfl | hx
     ·rw [IO] at hh;exact hsub _ htm p t (by rw [← ept]; exact ((nO ht.ok hj (by omega)).1 hh).1)
     ·obtain rfl:=BM.1 hx;rw [IO] at hh;exact hsub _ htm p t (by rw [← ept]; exact ((nQ hj).1 hh).1)
   ·replace h:s.v.kind=1:=h;omega
   ·replace h:s.v.kind=2:=h;omega
theorem rV {m:Md} {q:Qy} (hr:FG m q=true):∀ (d:Nat) (s:Sr),Ri m q s→q.bu < s.spent+d→Ri m q (LJ m q d s)∧JN q (LJ m q d s)=true
 | 0,s,h,hd=>⟨h,by
  unfold JN
  have:LJ m q 0 s=s:=rfl
  rw [this,AD (show s.spent≥q.bu by omega)];simp⟩
 | d+1,s,h,hd=>by
  rw [LJ];cases ho:JN q s with
  | true=>rw [DI]; exact ⟨h,ho⟩
  | false=>
   rw [DJ];refine rV hr d (GE m q s) (zgk hr h ho) ?_
   have:(GE m q s).spent=s.spent+1:=by
    unfold GE;cases GQ m _ _ <;> cases HJ m _ _ _ <;> cases (EY m _ _).isSome <;> rfl
   omega
theorem zgE {m:Md} {q:Qy} (hr:FG m q=true) (hp:LD m q (GJ q)≤199) :
  ((E8 m q).kind=1→O9 m q (E8 m q)=true∧ic (E8 m q).proof.length=(E8 m q).spent∧0 < LW (E8 m q).proof) ∧
  ((E8 m q).kind=2→O9 m q (E8 m q)=true∧(E8 m q).proof=[]∧1≤(E8 m q).spent) ∧
  ((E8 m q).kind=3→(E8 m q).spent=q.bu∧(E8 m q).proof=[]) ∧
  ((E8 m q).kind=1∨(E8 m q).kind=2∨(E8 m q).kind=3)∧0≤(E8 m q).spent∧(E8 m q).spent≤q.bu:=by
 have h3:=(XT hr).2.2.1;have hnew:RI m q=⟨[(GJ q).I],[],Vd.none,0⟩:=by unfold RI; rw [hr,DI]
 obtain ⟨hi,ho⟩:=rV hr (q.bu.toNat+1) _ (Hl hr) (by show q.bu < 0+_; omega);unfold E8;rw [hnew];generalize LJ m q (q.bu.toNat+1) _=s at hi ho;rcases hi.kinds with hk | hk | hk
 ·have ek:(GK s).kind=3:=by simp [GK,hk]
  have hsp:s.spent=q.bu:=by
   unfold JN at ho;rw [hk] at ho
   have:s.spent≥q.bu:=by simpa using ho
   have:=hi.sp
   omega
  exact ⟨fun h=>by omega,fun h=>by omega,fun _=>⟨hsp,(hi.opn hk).2.2.2.1⟩,.inr (.inr ek),hi.sp.1,hi.sp.2⟩
 ·have ek:(GK s).kind=1:=by simp [GK,hk]
  obtain ⟨hrp,hl,hsp,hvp⟩:=hi.holds hk;obtain ⟨outs,hps,hout⟩:=hrp.ps;obtain ⟨most,hdp,hm1,hm2⟩:=hrp.dp;have hlen:=hi.sp;rw [hl] at hps hdp;have hdeep:LW s.proof=most:=by
   unfold LW;rw [AL (by omega),DJ,hdp];show cond (!((ic ([]:LI).length)==0)||decide (most > 200)) 0 most=most;rw [AL (by omega)];rfl
  have epr:(GK s).proof=s.proof:=hvp;refine ⟨fun _=>⟨?_,?_,?_⟩,fun h=>by omega,fun h=>by omega,.inl ek,hi.sp.1,hi.sp.2⟩
  ·unfold O9;rw [hr,ek,epr];show (true&&cond true (match LE (GJ q) s.proof with | some l=>l.all fun x=>GQ m q (D7 x) | none=>false) _)=true;unfold LE;rw [hdeep,AD (show most > 0 by omega),DI,hps];show (true&&(outs.all fun x=>GQ m q (D7 x)))=true;rw [BC,CR];exact hout
  ·rw [epr]; exact hsp.symm
  ·rw [epr,hdeep]; omega
 ·have ek:(GK s).kind=2:=by simp [GK,hk]
  obtain ⟨hvp,hsp,hh,hb⟩:=hi.fails hk;refine ⟨fun h=>by omega,fun _=>⟨?_,hvp,hsp⟩,fun h=>by omega,.inr (.inl ek),hi.sp.1,hi.sp.2⟩;unfold O9;rw [hr,ek];show (true&&((GJ q).has ⟨s.v.w0,s.v.w1,s.v.w2,s.v.w3⟩ s.v.twin&&HJ m q ⟨s.v.w0,s.v.w1,s.v.w2,s.v.w3⟩ s.v.twin))=true;rw [hh,hb];rfl
open Go
theorem Zn {s:Sp}:W7 s=true↔s.good:=by
 unfold W7 Sp.good;simp only [AI,AQ]
theorem ZF {b:Bx}:F2 b=true↔b.good:=by
 unfold F2;simp only [AI,Zn];constructor
 ·rintro ⟨h0,h1,h2,h3,h4⟩ i hi
  match i,hi with
  | 0,_=>exact h0
  | 1,_=>exact h1
  | 2,_=>exact h2
  | 3,_=>exact h3
  | 4,_=>exact h4
  | n+5,hi=>omega
 ·intro h;exact ⟨h 0 (by omega),h 1 (by omega),h 2 (by omega),h 3 (by omega),h 4 (by omega)⟩
theorem zi8 {b:Bx} (h4:b.s4.lo≤b.s4.hi) (p:Pt):(∃ t,(b.p ⟨0,0⟩ 4).has p t=true)↔∃ t,b.has p t=true:=by
 constructor
 ·rintro ⟨t,h⟩;refine ⟨b.s4.lo,?_⟩;unfold Bx.has at h ⊢;simp only [AI] at h ⊢;exact ⟨h.1,h.2.1,h.2.2.1,h.2.2.2.1,PC.2 ⟨vac _,h4⟩⟩
 ·rintro ⟨t,h⟩;refine ⟨0,?_⟩;unfold Bx.has at h ⊢;simp only [AI] at h ⊢;exact ⟨h.1,h.2.1,h.2.2.1,h.2.2.2.1,PC.2 ⟨vac _,vac _⟩⟩
theorem tI {g g':LI→Int} (k:Int):∀ (ts:LI) (s:Int),(∀ t∈ts,g (FE t)=g' (FE t))→I5 g k ts s=I5 g' k ts s
 | [],_,_=>rfl
 | t :: ts,s,h=>by
  rw [I5,I5,h t (AO ..)];exact tI k ts _ fun u hu=>h u (AY _ hu)
theorem Hv {m:Md} (hm:EW m=true) (k:Int) {b:Bx} (hb:b.good):EA m k (b.p ⟨0,0⟩ 4)=EA m k b∧D8 m k (b.p ⟨0,0⟩ 4)=D8 m k b:=by
 have hg:(b.p ⟨0,0⟩ 4).good:=U0 hb ⟨by decide,by decide,by decide⟩ (by omega);have ht:∀ t∈m.ts,IB (FE t) (b.p ⟨0,0⟩ 4)=IB (FE t) b∧IA (FE t) (b.p ⟨0,0⟩ 4)=IA (FE t) b:=fun t ht=>
  ziK (aC hm ht) hg.emp hg.ok hb.emp hb.ok (zi8 (hb 4 (by omega)).2.1)
 have es:G4 m k (b.p ⟨0,0⟩ 4)=G4 m k b:=by unfold G4; rw [hg.emp,hb.emp]
 unfold EA D8;rw [es];cases G4 m k b with
 | false=>exact ⟨rfl,rfl⟩
 | true=>
  rw [DI,DI,DI,DI];exact ⟨tI k m.ts _ fun t h=>(ht t h).1,tI k m.ts _ fun t h=>(ht t h).2⟩
def WS (m:Md) (q:Qy) (b:Bx):Nat→Nat→Bool
 | 0,_=>true
 | d+1,i=>cond (!((i:Int)==q.c)&&decide (D8 m (i:Int) b≥EA m q.c b)) false (WS m q b d (i+1))
def KX (q:Qy) (b:Bx):Bx:=b.p b.s4 q.ft.toNat
def sG (m:Md) (q:Qy) (b:Bx):Bool:=
 cond b.emp true
  (cond (q.k==1) (decide (q.lo≤EA m q.c b)&&decide (D8 m q.c b≤q.hi))
   (cond (q.k==2) (WS m q b m.c.toNat 0)
    (cond (decide ((b.g q.ft.toNat).lo≥b.s4.hi)) true
     (cond q.fl (decide (D8 m q.c (KX q b)≤EA m q.c b)) (decide (EA m q.c (KX q b)≥D8 m q.c b))))))
theorem vL {m:Md} {q:Qy} {b:Bx}:∀ (d i:Nat),WS m q b d i=true↔∀ j:Nat,i≤j→j < i+d→(j:Int)≠q.c→D8 m (j:Int) b < EA m q.c b
 | 0,i=>⟨fun _ j h1 h2=>by omega,fun _=>rfl⟩
 | d+1,i=>by
  rw [WS];cases hc:(!((i:Int)==q.c)&&decide (D8 m (i:Int) b≥EA m q.c b)) with
  | true=>
   rw [DI];simp only [AI,B3,A4,AQ] at hc;refine ⟨(fun h=>by cases h),fun h=>?_⟩
   have:=h i (AZ _) (by omega) hc.1
   omega
  | false=>
   rw [DJ,vL d (i+1)];rw [Bool.and_eq_false_iff,Bool.not_eq_false',B8,BW] at hc;constructor
   ·intro h j h1 h2 hn;rcases DD i j with h3 | h3
    ·exact h j h3 (by omega) hn
    ·have:j=i:=by omega
     subst this;rcases hc with hc | hc
     ·exact absurd hc hn
     ·omega
   ·intro h j h1 h2 hn;exact h j (by omega) (by omega) hn
theorem zgO {m:Md} {q:Qy} {b:Bx} (hr:FG m q=true) (hb:b.emp=true∨b.good):sG m q b=GQ m q b:=by
 unfold sG GQ;rw [hr,BC];cases he:b.emp with
 | true=>rfl
 | false=>
  rw [DJ,DJ];have hg:b.good:=by
   rcases hb with h | h
   ·rw [he] at h; cases h
   ·exact h
  obtain ⟨hm,⟨c0,c1⟩,_,_,hk⟩:=XT hr;have hcl:=nJ c0 c1;have hs:=XW hm hcl he;rcases j4 hk with ⟨e,_⟩ | ⟨e,h2,_⟩ | ⟨e,hf,_⟩
  ·rw [e];show (decide (q.lo≤EA m q.c b)&&decide (D8 m q.c b≤q.hi))=(G4 m q.c b&&(decide (q.lo≤EA m q.c b)&&decide (D8 m q.c b≤q.hi)));rw [hs,BC]
  ·rw [e];show WS m q b m.c.toNat 0=(NG m q.c b&&decide (UU m q.c b > 0));have hmg:NG m q.c b=true:=by unfold NG; rw [hs,AD (by omega)]; rfl
   rw [hmg,BC,va2,vL,AQ]
   have:=Cx hmg
   constructor
   ·intro h;exact this.2 fun j hj hn=>h j (B5 _) (by omega) hn
   ·intro h j _ h2 hn;exact this.1 h j (by omega) hn
  ·rw [e];have hp:=qQ hm e hf;have h44:=hg 4 (by omega);have hg2:(KX q b).good:=U0 hg h44 (by have:=hf; have:=(XT hr).1; rcases RO hp with e | e | e | e <;> rw [e] <;> decide);have s1:=Hv hm q.c hg;have s2:=Hv hm q.c hg2;have f1:JY q b=b.p ⟨0,0⟩ 4:=by unfold JY; rw [hp,DI]
   have f2:J4 q b=(KX q b).p ⟨0,0⟩ 4:=by unfold J4; rw [hp,DI]; rfl
   have hch:K4 m q b=true:=by
    unfold K4;rw [hp,f1,f2,XW hm hcl (U0 hg ⟨by decide,by decide,by decide⟩ (by omega)).emp,XW hm hcl (U0 hg2 ⟨by decide,by decide,by decide⟩ (by omega)).emp];rfl
   have e1:SO m q b=D8 m q.c (KX q b) - EA m q.c b:=by unfold SO; rw [hch,DI,f1,f2,s1.1,s2.2]
   have e2:SP m q b=EA m q.c (KX q b) - D8 m q.c b:=by unfold SP; rw [hch,DI,f1,f2,s1.2,s2.1]
   have eo:P7 q b=!decide ((b.g q.ft.toNat).lo≥b.s4.hi):=by
    unfold P7;rw [hp,he];by_cases h:(b.g q.ft.toNat).lo < b.s4.hi
    ·rw [AD h,AL (by omega)]; rfl
    ·rw [AL h,AD (by omega)]; rfl
   show cond (decide ((b.g q.ft.toNat).lo≥b.s4.hi)) true _=cond (!(P7 q b)) true (cond q.fl (K4 m q b&&decide (SO m q b≤0)) (K4 m q b&&decide (SP m q b≥0)));rw [eo,Bool.not_not,hch,BC,BC,e1,e2];have d1:decide (D8 m q.c (KX q b) - EA m q.c b≤0)=decide (D8 m q.c (KX q b)≤EA m q.c b):=by
    rw [va2,AQ,AQ]; omega
   have d2:decide (EA m q.c (KX q b) - D8 m q.c b≥0)=decide (EA m q.c (KX q b)≥D8 m q.c b):=by
    rw [va2,AQ,AQ]; omega
   rw [d1,d2]
open Go
theorem nZ {x:IV} {left most:Int} {st:Int × Int} (h:N3 (left,most) x=some st):left≠0∧KI x=true∧((GS x=true∧st=(left - 1,most))∨(GS x=false∧st=(left+1,max most (left+1)))):=by
 unfold N3 at h;cases hz:(left==0) with
 | true=>simp only [hz,Bool.true_or,BJ] at h; cases h
 | false=>
  have hne:left≠0:=by simpa using hz
  simp only [hz,vaz] at h;cases hr:KI x with
  | false=>rw [hr] at h; cases h
  | true=>
   rw [hr] at h;simp only [A3,A9] at h;cases hs:GS x with
   | true=>rw [hs] at h; exact ⟨hne,rfl,.inl ⟨rfl,(CS h).symm⟩⟩
   | false=>rw [hs] at h; exact ⟨hne,rfl,.inr ⟨rfl,(CS h).symm⟩⟩
theorem rW {x:IV} (h:KI x=true) (hs:GS x=false):0≤E9 x∧E9 x≤4:=by
 unfold KI at h;rw [hs,DJ,AI,AQ,AQ] at h;exact h
theorem Gi {x:IV} {left out:LI} {most:Int} {st:Int × Int} {lo:LI × LI} (hl:∀ y∈left,(D7 y).good) (ho:∀ y∈out,(D7 y).good) (hd:N3 (ic left.length,most) x=some st) (hp:OA (left,out) x=some lo) :
  (∀ y∈lo.1,(D7 y).good)∧(∀ y∈lo.2,(D7 y).good)∧st.1=ic lo.1.length:=by
 obtain ⟨hne,hr,hd⟩:=nZ hd;have hlen:0 < left.length:=by simp only [ic] at hne; omega
 have ht:(D0 left).good:=hl _ (VE hlen).1;unfold OA at hp;rcases hd with ⟨hs,rfl⟩ | ⟨hs,rfl⟩
 ·rw [hs] at hp;obtain rfl:=CS hp;refine ⟨fun y hy=>hl y (ZU hy),fun y hy=>?_,?_⟩
  ·rcases AX.1 hy with hy | hy
   ·exact ho y hy
   ·obtain rfl:=BM.1 hy;rw [IO]; exact ht
  ·show ic left.length - 1=ic (F3 left).length;rw [U2]; simp only [ic]; omega
 ·rw [hs] at hp;have hpl:=rW hr hs;have ej:E9 x=(((E9 x).toNat:Nat):Int):=by omega
  cases hc:(decide (FP x < ((D0 left).g (E9 x).toNat).lo)||decide (FP x≥((D0 left).g (E9 x).toNat).hi)) with
  | true=>simp only [hc,A9,BJ] at hp; cases hp
  | false=>
   simp only [hc,A9] at hp;obtain rfl:=CS hp;simp only [vas,BW] at hc;refine ⟨fun y hy=>?_,ho,?_⟩
   ·rcases AX.1 hy with hy | hy
    ·exact hl y (ZU hy)
    ·rcases AP.1 hy with rfl | hy
     ·rw [IO,ej]; exact y8 ht (by omega) (by omega) (by omega)
     ·obtain rfl:=BM.1 hy;rw [IO,ej]; exact zC ht (by omega) (by omega) (by omega)
   ·show ic left.length+1=ic (F3 left++[_,_]).length;rw [AT,U2];simp only [ic,AM,A6]; omega
theorem Gg:∀ {l:LI} {left out:LI} {most:Int} {st:Int × Int} {lo:LI × LI},(∀ y∈left,(D7 y).good)→(∀ y∈out,(D7 y).good)→KS l (ic left.length,most)=some st→JB l (left,out)=some lo→∀ y∈lo.2,(D7 y).good
 | [],left,out,most,st,lo,_,ho,_,hp=>by
  obtain rfl:=CS hp;exact ho
 | x :: l,left,out,most,st,lo,hl,ho,hd,hp=>by
  rw [KS] at hd;rw [JB] at hp;cases h1:N3 (ic left.length,most) x with
  | none=>rw [h1] at hd; cases hd
  | some s1=>
   cases h2:OA (left,out) x with
   | none=>rw [h2] at hp; cases hp
   | some l1=>
    rw [h1] at hd;rw [h2] at hp;obtain ⟨g1,g2,g3⟩:=Gi hl ho h1 h2;obtain ⟨a,b⟩:=l1;obtain ⟨c,d⟩:=s1;obtain rfl:c=ic a.length:=g3;exact Gg g1 g2 hd hp
theorem zN {l:LI} (h:LW l > 0):∃ st,KS l (1,1)=some st:=by
 unfold LW at h;cases hc:decide (ic l.length > 65536) with
 | true=>rw [hc,DI] at h; omega
 | false=>
  rw [hc,DJ] at h;cases hd:KS l (1,1) with
  | none=>rw [hd] at h; exact absurd h (by decide)
  | some st=>exact ⟨st,rfl⟩
theorem zfP {b:Bx} (hb:b.good) {l outs:LI} (h:LE b l=some outs):∀ y∈outs,(D7 y).good:=by
 unfold LE at h;cases hd:decide (LW l > 0) with
 | false=>rw [hd,DJ] at h; cases h
 | true=>
  rw [hd,DI] at h;obtain ⟨st,hst⟩:=zN (A1 hd);cases hp:JB l ([b.I],[]) with
  | none=>rw [hp] at h; cases h
  | some lo=>
   rw [hp] at h;obtain rfl:=CS h;refine Gg (left:=[b.I]) (out:=[]) (most:=1) (fun y hy=>?_) (fun y hy=>by cases hy) hst hp;obtain rfl:=BM.1 hy;rw [IO]; exact hb
open Go Go.Proofs
def YK (N:Nat):Env:=D5 [(111,PO),(112,K2),(55,MI)] [(3,⟨[0,4,5,6,7,8,9],[500],[⟨.tmp 9,500,252,true,jZ⟩]⟩)] 88 N
open Go Go.Proofs
set_option maxRecDepth 100000
def Q7 (l O:LI) (n:Nat) (lo hi:Int) (any:Bool):St:=⟨[(0,.list false [.int .u64] l),(4,.int .i64 0),(5,.int .i64 0),(6,.int .i64 lo),(7,.int .i64 hi),(8,.bool any),(9,.row 500 0 n)],[(500,some (.row true 252 true jZ O))]⟩
abbrev pB:KP:=⟨[0,4,5,6,7,8,9],[500],[⟨.tmp 9,500,252,true,jZ⟩]⟩
noncomputable abbrev o8 (N:Nat):Out→St→DO:=DQ 0 (DS (YK N) (DK Y0 [1,1,1,1]) (DT (YK N) none [.tmp 4,.tmp 5] [[.z],[.z]]))
def eW (n:Nat):Int:=AA AB (ic (n - 0) - 1)
def eX (O:LI) (n:Nat):IV:=O.getD (0+(eW n).toNat) default
def JK (l:LI) (x:IV):Int:=(l.getD (H3 x).toNat default).toInt
theorem zdP (N:Nat) (l:LI) (b:Bx):DZ (YK N) Y0 [.tmp 4,.tmp 5] [[.z],[.z]] [.list false [.int .u64] l,b.V] =
 DY (YK N) (DK Y0 [1,1,1,0,0,0]) pB N (Q7 l [QJ 0 b] 1 0 0 false) (o8 N):=by kernel_rfl
theorem Lw (N:Nat) (l O:LI) (n:Nat) (lo hi:Int) (any:Bool) (again:St→DO) (k:Out→St→DO):EZ (YK N) (DK Y0 [1,1,1,0,0,0]) (Q7 l O n lo hi any) (EN again pB k) =
 cond (decide (ic (n - 0) > 0)) (cond (decide (0≤eW n)&&decide (eW n < ic (n - 0))) (cond (decide (0≤eW n)&&decide (eW n≤ic (n - 0)))
 (cond (decide (0≤H3 (eX O n))&&decide (H3 (eX O n) < ic l.length))
 (cond (!(GC (JK l (eX O n)))) (again (Q7 l O (0+(eW n).toNat) lo hi any))
 (cond (JR (eX O n)).emp (again (Q7 l O (0+(eW n).toNat) lo hi any))
 (cond (!(DL (JK l (eX O n))).lf)
 (cond (H8 (DL (JK l (eX O n))).f) (cond (decide ((0+(eW n).toNat+2)*88≤EE))
 (again (Q7 l (O.take (0+(eW n).toNat)++[QJ (DL (JK l (eX O n))).l ((JR (eX O n)).cutL (DL (JK l (eX O n))).f (DL (JK l (eX O n))).a),QJ (DL (JK l (eX O n))).r ((JR (eX O n)).cutH (DL (JK l (eX O n))).f (DL (JK l (eX O n))).a)]) (0+(eW n).toNat+2) lo hi any)) none) none)
 (cond (!any) (again (Q7 l O (0+(eW n).toNat) (min (DL (JK l (eX O n))).v (DL (JK l (eX O n))).v) (max (DL (JK l (eX O n))).v (DL (JK l (eX O n))).v) true))
 (again (Q7 l O (0+(eW n).toNat) (min lo (DL (JK l (eX O n))).v) (max hi (DL (JK l (eX O n))).v) any)))))) none) none) none)
 (k (.exit 0) (Q7 l O n lo hi any)):=by kernel_rfl
theorem Xs (N:Nat) (l O:LI) (n:Nat) (lo hi:Int) (any:Bool):o8 N (.exit 0) (Q7 l O n lo hi any)=some (.tup [.int .i64 lo,.int .i64 hi],[]):=by kernel_rfl
theorem ZA (N:Nat) {l:LI} (hT:GV l 4=true) {b:Bx} (hb:b.good):∀ (c:Nat) (O:LI) (n:Nat) (lo hi:Int) (any:Bool),n≤O.length→EnI l b ⟨O.take n,lo,hi,any⟩→PZ (O.take n) < c →
  DY (YK N) (DK Y0 [1,1,1,0,0,0]) pB c (Q7 l O n lo hi any) (o8 N)=some (.tup [.int .i64 (IB l b),.int .i64 (IA l b)],[])
 | 0,_,_,_,_,_,_,_,h=>absurd h (by omega)
 | c+1,O,0,lo,hi,any,hn,h,hc=>by
  obtain ⟨e1,e2⟩:=Wb hT hb.emp hb.ok h rfl;replace e1:lo=IB l b:=e1;replace e2:hi=IA l b:=e2;rw [D4,Lw,show decide (ic (0 - 0) > 0)=false from rfl,DJ,Xs,e1,e2]
 | c+1,O,j+1,lo,hi,any,hn,h,hc=>by
  have ht:=tT hT;have hlen:(O.take (j+1)).length=j+1:=by rw [BB]; omega
  have hl:0 < (En.mk (O.take (j+1)) lo hi any).todo.length:=by show 0 < (O.take (j+1)).length; omega
  have hd:=h.depth ht;replace hd:(O.take (j+1)).length≤31:=hd;have hs:=We ht h hl;have hw:=Wc ht h hl;have htop:E1 (O.take (j+1))=O.getD j default:=by
   unfold E1;rw [hlen,BV,BV,CM,BP (by omega)];rfl
  have hpop:F3 (O.take (j+1))=O.take j:=by
   unfold F3;rw [hlen,List.take_take];congr 1;omega
  have ew:eW (j+1)=(j:Int):=by
   unfold eW;rw [show ic (j+1 - 0) - 1=(j:Int) by simp only [ic]; omega];exact EH (by omega) (by omega)
  have ej:0+(eW (j+1)).toNat=j:=by rw [ew]; omega
  have ex:eX O (j+1)=E1 (O.take (j+1)):=by unfold eX; rw [ej,htop]
  have ha:=h.at_ _ _ (VE hl).2;replace ha:((((O.take (j+1)).length - 1:Nat)):Int)≤H3 (E1 (O.take (j+1)))∧H3 (E1 (O.take (j+1))) < ic l.length:=ha;have i1:decide (ic (j+1 - 0) > 0)=true:=AD (by simp only [ic]; omega);have i2:(decide (0≤eW (j+1))&&decide (eW (j+1) < ic (j+1 - 0)))=true:=by rw [ew,AD (by omega),AD (by simp only [ic]; omega)]; rfl
  have i3:(decide (0≤eW (j+1))&&decide (eW (j+1)≤ic (j+1 - 0)))=true:=by rw [ew,AD (by omega),AD (by simp only [ic]; omega)]; rfl
  rw [D4,Lw,i1,DI,i2,DI,i3,DI,ej,ex,AD (show 0≤H3 (E1 (O.take (j+1))) by omega),AD ha.2,B4,DI];unfold eB at hs hw;simp only [E0,hpop] at hs hw;have eWdef:JK l (E1 (O.take (j+1)))=(l.getD (H3 (E1 (O.take (j+1)))).toNat default).toInt:=rfl;rw [← eWdef] at hs hw;have hfk:(DL (JK l (E1 (O.take (j+1))))).lf=false→H8 (DL (JK l (E1 (O.take (j+1))))).f=true:=fun hf=>by
   have hk:(H3 (E1 (O.take (j+1)))).toNat < l.length:=by have:=ha.2; simp only [ic] at this; omega
   have:=(ht.fork _ hk hf).1
   replace this:0≤(DL (JK l (E1 (O.take (j+1))))).f∧(DL (JK l (E1 (O.take (j+1))))).f < 4:=this;unfold H8;rw [AD this.1,AD (by omega)];rfl
  generalize JK l (E1 (O.take (j+1)))=wd at hs hw hfk ⊢;generalize JR (E1 (O.take (j+1)))=vb at hs hw ⊢;cases hnb:GC wd with
  | false=>
   rw [A7,DI];simp only [hnb,A7,Bool.true_or,BJ] at hs hw;exact ZA N hT hb c O j lo hi any (by omega) hs (by omega)
  | true=>
   rw [A3,DJ];simp only [hnb,A3,vaz] at hs hw;cases he:vb.emp with
   | true=>
    rw [DI];simp only [he,BJ] at hs hw;exact ZA N hT hb c O j lo hi any (by omega) hs (by omega)
   | false=>
    rw [DJ];simp only [he,A9] at hs hw;cases hlf:(DL wd).lf with
    | true=>
     rw [A3,DJ];simp only [hlf,A3,A9] at hs hw;cases any with
     | false=>
      rw [A7,DI];exact ZA N hT hb c O j _ _ true (by omega) hs (by omega)
     | true=>
      rw [A3,DJ];exact ZA N hT hb c O j _ _ true (by omega) hs (by omega)
    | false=>
     rw [A7,DI];simp only [hlf,A7,BJ] at hs hw;have e2:∀ v1 v2:IV,(O.take j++[v1,v2]).take (j+2)=O.take j++[v1,v2]:=fun v1 v2=>CV (by simp only [AT,BB,AM,A6]; omega)
     rw [hfk hlf,DI,AD (show (j+2)*88≤EE by unfold EE; omega),DI];refine ZA N hT hb c _ (j+2) lo hi any (by simp only [AT,BB,AM,A6]; omega) ?_ ?_
     ·rw [e2]; exact hs
     ·rw [e2]; omega
theorem zhd:DX PR B0 158 bO:=by
 refine D6 [(111,PO),(112,K2),(55,MI)] [(3,⟨[0,4,5,6,7,8,9],[500],[⟨.tmp 9,500,252,true,jZ⟩]⟩)] bO [[.z],[.z]] Tryz.func158 zav ⟨lD,XY,Z7,trivial⟩ ?_;intro vs r hwf h;unfold bO at h;split at h
 ·rename_i l b;replace h:=JS h;obtain ⟨b,rfl,h⟩:=h;cases hg:(GV l 4&&F2 b) with
  | false=>rw [hg] at h; simp [R.get] at h
  | true=>
  rw [hg,R.get_br,DI,R.get_ok] at h;rw [AI] at hg;refine ⟨3 ^ 31+1,(zdP (3 ^ 31+1) l b).trans ?_⟩;rw [← h];have hgd:=ZF.1 hg.2;refine ZA (3 ^ 31+1) hg.1 hgd (3 ^ 31+1) [QJ 0 b] 1 0 0 false (AZ _) (Wd (tT hg.1) hgd.ok) ?_;show PZ [QJ 0 b] < 3 ^ 31+1;unfold PZ;simp only [A0,CA,va3,List.sum_nil,X7];show 3 ^ 31+0 < 3 ^ 31+1;omega
 ·simp [R.get] at h
open Go Go.Proofs
def YL (N:Nat):Env:=D5 [(111,PO),(110,cU)] [(6,⟨[4,5,6,7,19,20,21],[500,501],[⟨.tmp 6,500,36,true,E6⟩,⟨.tmp 7,501,36,true,E6⟩]⟩)] 75 N
end Go.FM
