/-
  A small machine that reckons what a call comes to; the functions of the program, one by one. (WHAT span's, box's, couple's, leaves', bound's, grid's, quer, NORMAL FORMS: what the functions' runs come to (written by a, NORMAL FORMS: what the functions' runs come to (written by a, and so on.)
-/
import Derived.Test.YtehhekmihbaghaaGreatDoorYc
set_option linter.all false
set_option maxRecDepth 100000
open Array renaming getElem?_eq_some_iff→DE,getElem?_toList→vaw,getElem?_modify→va3
open Bool renaming and_eq_true→AH,not_true→A2,not_false→A6,true_and→A8,false_and→BM,not_eq_true'→B1,and_self→B3,and_true→B9,and_false→vad,or_eq_true→vao,or_eq_false_iff→vas,false_or→vax,eq_iff_iff→vaZ
open Go.Addr.mk renaming injEq→DH
open Go.IntKind renaming wrap→AA,i64→AB
open Go.Lib renaming compactUpTo→vbs
open Go.ResultVar renaming tmp→CF,cell→va5
open Go.Sort renaming ahead→vbH
open Go.Value renaming ownBlock→CD
open Go.Value.slice renaming injEq→CI
open Go.World renaming cell?→vaL
open Int renaming toNat→AF,toNat_natCast→BD,le_refl→vab
open List renaming length→AG,getD→AI,take→AK,length_cons→AM,mem_cons_self→AN,mem_cons→AP,length_append→AS,drop→AT,mem_append→AV,mem_cons_of_mem→AW,map_cons→A0,map→A4,length_nil→A7,length_take→BC,getElem?_eq_getElem→BE,drop_eq_getElem_cons→BF,mem_singleton→BJ,length_map→BK,replicate→BN,take_length→BR,getElem?_eq_some_iff→BS,getD_eq_getElem?_getD→BW,getElem?_cons_zero→BY,getElem?_eq_none→BZ,drop_zero→B5,getElem?_map→CA,map_nil→CB,mem_map→CK,getElem?_take→CM,drop_of_length_le→CR,cons_append→CS,all_eq_true→CU,take_of_length_le→CV,getElem_mem→C1,length_singleton→C3,append_nil→C9,nil_append→DA,getElem?_cons_succ→DI,getElem?_append→vae,mem_of_getElem?→vaf,flatMap_cons→vap,drop_length→vaB,length_set→vaF,mem_of_mem_take→vaH,range→vaI,append_assoc→va1,sum_cons→vba,filter_cons→vbk,mem_range→vbn,pairwise_cons→vbF
open List.Perm renaming refl→vbL
open Nat renaming le_of_ble_eq_true→AO,le_refl→AX,zero_add→BL,beq→BQ,blt→BU,zero_le→B4,ble→B6,le_trans→C2,ble_eq_true_of_le→C6,add_zero→C8,lt_or_ge→DC,min_eq_left→vaz,add_assoc→vaS,sub_zero→va2,beq_refl→vbl
open Option.some renaming injEq→AC,inj→CX
open Prod.mk renaming injEq→AU
namespace Go.FM
open Go
def Nd.cs (x:Nd):List FM.V:=[.bool x.lf,.int .i64 x.v,.int .i64 x.f,.int .i64 x.a,.int .i64 x.l,.int .i64 x.r]
def Nd.V (x:Nd):FM.V:=.agg x.cs
def Md.cs (m:Md):List FM.V:=[.int .i64 m.d,.int .i64 m.c,.int .i64 m.b0,.int .i64 m.b1,.int .i64 m.b2,.list true [.z,.list false [.int .u64]] m.ts]
def Md.V (m:Md):FM.V:=.agg m.cs
def Qy.cs (q:Qy):List FM.V:=[.int .i64 q.k,.int .i64 q.c,.int .i64 q.a0,.int .i64 q.b0,.int .i64 q.a1,.int .i64 q.b1,.int .i64 q.a2,.int .i64 q.b2,.int .i64 q.a3,.int .i64 q.b3,.int .i64 q.a4,.int .i64 q.b4,.int .i64 q.lo,.int .i64 q.hi,.int .i64 q.ft,.bool q.fl,.int .i64 q.bu]
def Vd.cs (v:Vd):List FM.V:=[.int .i64 v.kind,.list true [.bool,.z,.z] v.proof,.int .i64 v.w0,.int .i64 v.w1,.int .i64 v.w2,.int .i64 v.w3,.int .i64 v.twin,.int .i64 v.spent]
def Ak.cs (a:Ak):List FM.V:=[.int .i64 a.k,.int .i64 a.c,.int .i64 a.lo,.int .i64 a.size,.int .i64 a.ft,.int .i64 a.bu,.bool a.fl,.list false [.z] a.sp]
def Ak.V (a:Ak):FM.V:=.agg a.cs
structure Sp where
 lo:Int
 hi:Int
def Sp.cs (s:Sp):List FM.V:=[.int .i64 s.lo,.int .i64 s.hi]
def Sp.V (s:Sp):FM.V:=.agg s.cs
structure Bx where
 s0:Sp
 s1:Sp
 s2:Sp
 s3:Sp
 s4:Sp
def Bx.g (b:Bx):Nat→Sp
 | 0=>b.s0
 | 1=>b.s1
 | 2=>b.s2
 | 3=>b.s3
 | _=>b.s4
def Bx.p (b:Bx) (s:Sp):Nat→Bx
 | 0=>⟨s,b.s1,b.s2,b.s3,b.s4⟩
 | 1=>⟨b.s0,s,b.s2,b.s3,b.s4⟩
 | 2=>⟨b.s0,b.s1,s,b.s3,b.s4⟩
 | 3=>⟨b.s0,b.s1,b.s2,s,b.s4⟩
 | _=>⟨b.s0,b.s1,b.s2,b.s3,s⟩
def Bx.cs (b:Bx):List FM.V:=[.int .i64 b.s0.lo,.int .i64 b.s0.hi,.int .i64 b.s1.lo,.int .i64 b.s1.hi,.int .i64 b.s2.lo,.int .i64 b.s2.hi,.int .i64 b.s3.lo,.int .i64 b.s3.hi,.int .i64 b.s4.lo,.int .i64 b.s4.hi]
def Bx.V (b:Bx):FM.V:=.agg b.cs
structure Pt where
 p0:Int
 p1:Int
 p2:Int
 p3:Int
def Pt.cs (p:Pt):List FM.V:=[.int .i64 p.p0,.int .i64 p.p1,.int .i64 p.p2,.int .i64 p.p3]
def Pt.V (p:Pt):FM.V:=.agg p.cs
def Pt.g (p:Pt):Nat→Int
 | 0=>p.p0
 | 1=>p.p1
 | 2=>p.p2
 | _=>p.p3
def spOf?:List FM.V→Option Sp
 | [.int .i64 a,.int .i64 b]=>some ⟨a,b⟩
 | _=>none
def ptOf?:List FM.V→Option Pt
 | [.int .i64 a,.int .i64 b,.int .i64 c,.int .i64 d]=>some ⟨a,b,c,d⟩
 | _=>none
def bxOf?:List FM.V→Option Bx
 | [.int .i64 a0,.int .i64 b0,.int .i64 a1,.int .i64 b1,.int .i64 a2,.int .i64 b2,.int .i64 a3,.int .i64 b3,.int .i64 a4,.int .i64 b4]=>some ⟨⟨a0,b0⟩,⟨a1,b1⟩,⟨a2,b2⟩,⟨a3,b3⟩,⟨a4,b4⟩⟩
 | _=>none
def mdOf?:List FM.V→Option Md
 | [.int .i64 d,.int .i64 c,.int .i64 b0,.int .i64 b1,.int .i64 b2,.list true [.z,.list false [.int .u64]] ts]=>some ⟨d,c,b0,b1,b2,ts⟩
 | _=>none
def qyOf?:List FM.V→Option Qy
 | [.int .i64 k,.int .i64 c,.int .i64 a0,.int .i64 b0,.int .i64 a1,.int .i64 b1,.int .i64 a2,.int .i64 b2,.int .i64 a3,.int .i64 b3,.int .i64 a4,.int .i64 b4,.int .i64 lo,.int .i64 hi,.int .i64 ft,.bool fl,.int .i64 bu]=>
  some ⟨k,c,a0,b0,a1,b1,a2,b2,a3,b3,a4,b4,lo,hi,ft,fl,bu⟩
 | _=>none
def vdOf?:List FM.V→Option Vd
 | [.int .i64 k,.list true [.bool,.z,.z] p,.int .i64 a,.int .i64 b,.int .i64 c,.int .i64 d,.int .i64 t,.int .i64 s]=>some ⟨k,p,a,b,c,d,t,s⟩
 | _=>none
def RY {α:Type} (of:List FM.V→Option α) (v:FM.V) (k:α→R):R:=
 match v with
 | .agg l=>match of l with | some x=>k x | none=>.no
 | _=>.no
abbrev lY (v:FM.V) (k:Sp→R):R:=RY spOf? v k
abbrev VO (v:FM.V) (k:Pt→R):R:=RY ptOf? v k
abbrev JH (v:FM.V) (k:Bx→R):R:=RY bxOf? v k
abbrev JI (v:FM.V) (k:Md→R):R:=RY mdOf? v k
abbrev KF (v:FM.V) (k:Qy→R):R:=RY qyOf? v k
abbrev uK (v:FM.V) (k:Vd→R):R:=RY vdOf? v k
theorem VN {α:Type} {of:List FM.V→Option α} {v:FM.V} {k:α→R} {z:FM.V × List (List FM.V)} (h:(RY of v k).get=some z):∃ l x,v = .agg l∧of l=some x∧(k x).get=some z:=by
 unfold RY at h;split at h
 ·rename_i l;split at h
  ·rename_i x hx;exact ⟨l,x,rfl,hx,h⟩
  ·simp [R.get] at h
 ·simp [R.get] at h
theorem uJ {v:FM.V} {k:Sp→R} {z:FM.V × List (List FM.V)} (h:(lY v k).get=some z):∃ x:Sp,v=x.V∧(k x).get=some z:=by
 obtain ⟨l,x,rfl,hx,h⟩:=VN h;unfold spOf? at hx;split at hx
 ·simp only [AC] at hx;subst hx;exact ⟨_,rfl,h⟩
 ·cases hx
theorem YH {v:FM.V} {k:Pt→R} {z:FM.V × List (List FM.V)} (h:(VO v k).get=some z):∃ x:Pt,v=x.V∧(k x).get=some z:=by
 obtain ⟨l,x,rfl,hx,h⟩:=VN h;unfold ptOf? at hx;split at hx
 ·simp only [AC] at hx;subst hx;exact ⟨_,rfl,h⟩
 ·cases hx
theorem JY {v:FM.V} {k:Bx→R} {z:FM.V × List (List FM.V)} (h:(JH v k).get=some z):∃ x:Bx,v=x.V∧(k x).get=some z:=by
 obtain ⟨l,x,rfl,hx,h⟩:=VN h;unfold bxOf? at hx;split at hx
 ·simp only [AC] at hx;subst hx;exact ⟨_,rfl,h⟩
 ·cases hx
theorem JZ {v:FM.V} {k:Md→R} {z:FM.V × List (List FM.V)} (h:(JI v k).get=some z):∃ x:Md,v=x.V∧(k x).get=some z:=by
 obtain ⟨l,x,rfl,hx,h⟩:=VN h;unfold mdOf? at hx;split at hx
 ·simp only [AC] at hx;subst hx;exact ⟨_,rfl,h⟩
 ·cases hx
theorem KU {v:FM.V} {k:Qy→R} {z:FM.V × List (List FM.V)} (h:(KF v k).get=some z):∃ x:Qy,v=x.V∧(k x).get=some z:=by
 obtain ⟨l,x,rfl,hx,h⟩:=VN h;unfold qyOf? at hx;split at hx
 ·simp only [AC] at hx;subst hx;exact ⟨_,rfl,h⟩
 ·cases hx
theorem Pc {v:FM.V} {k:Vd→R} {z:FM.V × List (List FM.V)} (h:(uK v k).get=some z):∃ x:Vd,v=x.V∧(k x).get=some z:=by
 obtain ⟨l,x,rfl,hx,h⟩:=VN h;unfold vdOf? at hx;split at hx
 ·simp only [AC] at hx;subst hx;exact ⟨_,rfl,h⟩
 ·cases hx
def Sp.emp (s:Sp):Bool:=decide (s.lo > s.hi)
def Sp.has (s:Sp) (n:Int):Bool:=decide (s.lo≤n)&&decide (n≤s.hi)
def M7 (lo hi:Int):Sp:=cond (decide (lo > hi)) ⟨1,0⟩ ⟨lo,hi⟩
def Sp.cutL (s:Sp) (a:Int):Sp:=M7 s.lo (min s.hi a)
def Sp.cutH (s:Sp) (a:Int):Sp:=cond (decide (a≥s.hi)) ⟨1,0⟩ (M7 (max s.lo (FR (a+1))) s.hi)
def WL:DW
 | []=>.ok (.agg [.int .i64 1,.int .i64 0]) []
 | _=>.no
def dI:DW
 | [.int .i64 lo,.int .i64 hi]=>.ok (M7 lo hi).V []
 | _=>.no
def WJ:DW
 | [s]=>lY s fun s=>.ok (.bool (s.emp)) []
 | _=>.no
def WK:DW
 | [s,.int .i64 n]=>lY s fun s=>.ok (.bool (s.has n)) []
 | _=>.no
def g9:DW
 | [s,.int .i64 n]=>lY s fun s=>.ok (.tup [(s.cutL n).V,(s.cutH n).V]) []
 | _=>.no
def Bx.I (b:Bx):IV:=.agg [.int b.s0.lo,.int b.s0.hi,.int b.s1.lo,.int b.s1.hi,.int b.s2.lo,.int b.s2.hi,.int b.s3.lo,.int b.s3.hi,.int b.s4.lo,.int b.s4.hi]
abbrev cI (x:IV) (j:Nat):Int:=(x.cell j).toInt
def D9 (x:IV):Bx:=⟨⟨cI x 0,cI x 1⟩,⟨cI x 2,cI x 3⟩,⟨cI x 4,cI x 5⟩,⟨cI x 6,cI x 7⟩,⟨cI x 8,cI x 9⟩⟩
abbrev E9:List Kd:=[.z,.z,.z,.z,.z,.z,.z,.z,.z,.z]
def Bx.emp (b:Bx):Bool:=b.s0.emp||(b.s1.emp||(b.s2.emp||(b.s3.emp||b.s4.emp)))
def Y0:Bx:=⟨⟨0,0⟩,⟨0,0⟩,⟨0,0⟩,⟨0,0⟩,⟨0,0⟩⟩
def H6 (i:Int):Bool:=decide (0≤i)&&decide (i < 5)
def Bx.cutL (b:Bx) (i a:Int):Bx:=b.p ((b.g i.toNat).cutL a) i.toNat
def Bx.cutH (b:Bx) (i a:Int):Bx:=b.p ((b.g i.toNat).cutH a) i.toNat
def Pt.p (p:Pt) (x:Int):Nat→Pt
 | 0=>⟨x,p.p1,p.p2,p.p3⟩
 | 1=>⟨p.p0,x,p.p2,p.p3⟩
 | 2=>⟨p.p0,p.p1,x,p.p3⟩
 | _=>⟨p.p0,p.p1,p.p2,x⟩
def Bx.low (b:Bx):Pt:=⟨b.s0.lo,b.s1.lo,b.s2.lo,b.s3.lo⟩
def Bx.has (b:Bx) (p:Pt) (t:Int):Bool:=b.s0.has p.p0&&(b.s1.has p.p1&&(b.s2.has p.p2&&(b.s3.has p.p3&&b.s4.has t)))
def LB:DW
 | [b]=>JH b fun b=>.ok (.bool (b.emp)) []
 | _=>.no
def bH:DW
 | [b]=>JH b fun b=>.ok b.low.V []
 | _=>.no
def bG:DW
 | [b,p,.int .i64 t]=>JH b fun b=>VO p fun p=>.ok (.bool (b.has p t)) []
 | _=>.no
def PP:DW
 | [b,.int .i64 i,.int .i64 a]=>JH b fun b=>.br (H6 i) (.ok (.tup [(b.cutL i a).V,(b.cutH i a).V]) []) .no
 | _=>.no
def IR (l:LI) (p:Pt):Nat→Int→Int × Nd
 | 0,_=>(-1,Nd.zero)
 | n+1,a=>
  cond (decide (a≥ic l.length)) (-1,Nd.zero)
   (cond (!(GK (l.getD a.toNat default).toInt)) (-1,Nd.zero)
    (cond (DM (l.getD a.toNat default).toInt).lf (a,DM (l.getD a.toNat default).toInt)
     (cond (decide (p.g (DM (l.getD a.toNat default).toInt).f.toNat≤(DM (l.getD a.toNat default).toInt).a)) (IR l p n (DM (l.getD a.toNat default).toInt).l) (IR l p n (DM (l.getD a.toNat default).toInt).r))))
def Wl (l:LI) (p:Pt):Int:=(IR l p 31 0).1
def jA (l:LI) (p:Pt):Nd:=(IR l p 31 0).2
def dM:DW
 | [.list false [.int .u64] l,p]=>VO p fun p=>.ok (.tup [.int .i64 (Wl l p),(jA l p).V]) []
 | _=>.no
def HE (l:LI) (p:Pt):Int:=(jA l p).v
def dL:DW
 | [.list false [.int .u64] l,p]=>VO p fun p=>.ok (.int .i64 (HE l p)) []
 | _=>.no
def L0 (m:Md) (c:Int):Int:=cond (c==0) m.b0 (cond (c==1) m.b1 m.b2)
abbrev VE (t:IV):Int:=cI t 0
abbrev FH (t:IV):LI:=(t.cell 1).toList
def P1 (c:Int) (p:Pt):LI→Int→Int
 | [],s=>s
 | t :: r,s=>P1 c p r (cond (VE t==c) (s+HE (FH t) p) s)
def IC (m:Md) (c:Int):Bool:=decide (0≤c)&&decide (c < m.c)
def cP:DW
 | [m,.int .i64 k,p]=>JI m fun m=>VO p fun p=>.br (E0 m&&IC m k) (.ok (.int .i64 (P1 k p m.ts (L0 m k))) []) .no
 | _=>.no
def EU (m:Md) (k:Int) (p:Pt):Int:=cond (E0 m&&IC m k) (P1 k p m.ts (L0 m k)) 0
def cN:DW
 | [m,.int .i64 k,p]=>JI m fun m=>VO p fun p=>.ok (.int .i64 (EU m k p)) []
 | _=>.no
def XA (x:Int):List Int→List Int
 | []=>[x]
 | y :: r=>cond (decide (x≤y)) (x :: y :: r) (y :: XA x r)
def K7:List Int→List Int
 | []=>[]
 | x :: r=>XA x (K7 r)
def MU:Int→List Int→List Int
 | _,[]=>[]
 | p,x :: r=>cond (x==p) (MU x r) (x :: MU x r)
def KI:List Int→List Int
 | []=>[]
 | x :: r=>x :: MU x r
def I4 (f:Int) (w:IV):List Int:=cond (!(DM w.toInt).lf&&(DM w.toInt).f==f) [(DM w.toInt).a] []
def IM (ts:LI) (f:Int):List Int:=ts.flatMap fun t=>(FH t).flatMap (I4 f)
def JT (ts:LI) (f:Int):List Int:=KI (K7 (IM ts f))
def iZ (l:List Int):LI:=l.map IV.int
def cO:DW
 | [m,.int .i64 f]=>JI m fun m=>.br (E0 m) (.ok (.vec 3 false [.z] (iZ (JT m.ts f))) []) .no
 | _=>.no
def jO:Ip:=⟨3,false,fun rs l=>match rs with
 | []=>some (iZ (K7 (l.map IV.toInt)))
 | _=>none⟩
def jM:Ip:=⟨3,true,fun rs l=>match rs with
 | []=>some (iZ (KI (l.map IV.toInt)))
 | _=>none⟩
def LF (a b:Int) (l:List Int):List Int:=l.filter fun t=>!(decide (t < a)||decide (t≥b))
def jN:Ip:=⟨3,true,fun rs l=>match rs with
 | [.clo f [.bor [.int .i64 a,.int .i64 b]]]=>cond (BQ f 169) (some (iZ (LF a b (l.map IV.toInt)))) none
 | _=>none⟩
def Qy.bx (q:Qy):Bx:=⟨⟨q.a0,q.b0⟩,⟨q.a1,q.b1⟩,⟨q.a2,q.b2⟩,⟨q.a3,q.b3⟩,⟨q.a4,q.b4⟩⟩
def K8 (d i:Int) (s:Sp):Bool:=!(decide (i≥d)&&!((s.lo==0)&&(s.hi==0)))&&(!s.emp&&(E5 s.lo&&E5 s.hi))
def P9 (b:Bx) (d:Int):Bool:=K8 d 0 b.s0&&(K8 d 1 b.s1&&(K8 d 2 b.s2&&(K8 d 3 b.s3&&K8 d 4 b.s4)))
def cZ:DW
 | [b,.int .i64 d]=>JH b fun b=>.ok (.bool (P9 b d)) []
 | _=>.no
def RA (m:Md) (q:Qy):Bool:=
 cond (q.k==1) (decide (q.lo≤q.hi)&&((q.ft==0)&&!q.fl))
  (cond (q.k==2) (decide (m.c≥2)&&((q.lo==0)&&((q.hi==0)&&((q.ft==0)&&!q.fl))))
   (cond (q.k==3) (decide (q.ft≥0)&&(decide (q.ft < m.d)&&((q.lo==0)&&(q.hi==0)))) false))
def FB (m:Md) (q:Qy):Bool:=E0 m&&(decide (q.c≥0)&&(decide (q.c < m.c)&&(decide (q.bu≥0)&&(decide (q.bu≤65536)&&(P9 q.bx m.d&&RA m q)))))
def HC (q:Qy):Bool:=(q.k==3)&&(decide (q.ft≥0)&&decide (q.ft < 4))
def GR (q:Qy):Bx:=q.bx.p (cond (HC q) (q.bx.g q.ft.toNat) ⟨0,0⟩) 4
def JG (q:Qy) (p:Pt) (t:Int):Pt:=cond (HC q) (p.p t q.ft.toNat) p
def fP (m:Md) (q:Qy) (p:Pt) (own:Int):Bool:=(vaI m.c.toNat).any fun c=>!((c:Int)==q.c)&&decide (EU m (c:Int) p≥own)
def HJ (m:Md) (q:Qy) (p:Pt) (t:Int):Bool:=
 FB m q &&
  cond (q.k==1) (!(Sp.has ⟨q.lo,q.hi⟩ (EU m q.c p)))
   (cond (q.k==2) (fP m q p (EU m q.c p))
    (cond (decide (p.g q.ft.toNat≥t)) false
     (cond q.fl (decide (EU m q.c (JG q p t) > EU m q.c p)) (decide (EU m q.c (JG q p t) < EU m q.c p)))))
def O6 (n:Nd) (i:Nat) (own:LI):LI:=
 cond n.lf own ((own.set n.l.toNat ((D9 (own.getD i default)).cutL n.f n.a).I).set n.r.toNat ((D9 (own.getD i default)).cutH n.f n.a).I)
def fT (b:Bx) (v:Int):IV:=.agg [.int b.s0.lo,.int b.s0.hi,.int b.s1.lo,.int b.s1.hi,.int b.s2.lo,.int b.s2.hi,.int b.s3.lo,.int b.s3.hi,.int b.s4.lo,.int b.s4.hi,.int v]
abbrev HP (x:IV):Int:=cI x 10
abbrev MW:List Kd:=[.z,.z,.z,.z,.z,.z,.z,.z,.z,.z,.z]
def OE:LI→Nat→LI→LI→LI
 | [],_,_,out=>out
 | w :: r,i,own,out=>OE r (i+1) (O6 (DM w.toInt) i own) (cond ((DM w.toInt).lf&&!(D9 (own.getD i default)).emp) (out++[fT (D9 (own.getD i default)) (DM w.toInt).v]) out)
def IT (l:LI) (b:Bx):LI:=cond (G4 l 4&&!b.emp) (OE l 0 ((BN l.length Y0.I).set 0 b.I) []) []
def cM:DW
 | [.list false [.int .u64] l,b]=>JH b fun b=>.ok (.list true MW (IT l b)) []
 | _=>.no
def O8:LI→Int→Int
 | [],a=>a
 | x :: r,a=>O8 r (min a (HP x))
def O7:LI→Int→Int
 | [],a=>a
 | x :: r,a=>O7 r (max a (HP x))
def fX (ps:LI):Int:=O8 ps (HP (ps.getD 0 default))
def fW (ps:LI):Int:=O7 ps (HP (ps.getD 0 default))
def X4 (l:LI) (b:Bx):Bool:=!((IT l b).isEmpty)
def H9 (l:LI) (b:Bx):Int:=cond (X4 l b) (fX (IT l b)) 0
def H8 (l:LI) (b:Bx):Int:=cond (X4 l b) (fW (IT l b)) 0
def bE:DW
 | [.list false [.int .u64] l,b]=>JH b fun b=>.ok (.tup [.int .i64 (H9 l b),.int .i64 (H8 l b),.bool (X4 l b)]) []
 | _=>.no
def I3 (h:LI→Int) (c:Int):LI→Int→Int
 | [],s=>s
 | t :: r,s=>I3 h c r (cond (VE t==c) (s+h (FH t)) s)
def HA (m:Md) (c:Int) (b:Bx):Bool:=E0 m&&(IC m c&&!b.emp)
def ED (m:Md) (c:Int) (b:Bx):Int:=cond (HA m c b) (I3 (fun l=>H9 l b) c m.ts (L0 m c)) 0
def EB (m:Md) (c:Int) (b:Bx):Int:=cond (HA m c b) (I3 (fun l=>H8 l b) c m.ts (L0 m c)) 0
def SB:DW
 | [m,.int .i64 k,b]=>JI m fun m=>JH b fun b=>.ok (.tup [.int .i64 (ED m k b),.int .i64 (EB m k b),.bool (HA m k b)]) []
 | _=>.no
def RF (m:Md) (c lo:Int) (b:Bx):Nat→Int→Int→Bool→Int
 | 0,_,a,_=>a
 | n+1,i,a,z=>cond (i==c) (RF m c lo b n (i+1) a z)
  (cond (!z||decide (lo - EB m i b < a)) (RF m c lo b n (i+1) (lo - EB m i b) true) (RF m c lo b n (i+1) a z))
def NR (m:Md) (c:Int) (b:Bx):Bool:=HA m c b&&decide (m.c≥2)
def UW (m:Md) (c:Int) (b:Bx):Int:=cond (NR m c b) (RF m c (ED m c b) b m.c.toNat 0 0 false) 0
def bD:DW
 | [m,.int .i64 k,b]=>JI m fun m=>JH b fun b=>.ok (.tup [.int .i64 (UW m k b),.bool (NR m k b)]) []
 | _=>.no
def J4 (q:Qy) (b:Bx):Bx:=cond (HC q) (b.p ⟨0,0⟩ 4) b
def KB (q:Qy) (b:Bx):Bx:=cond (HC q) ((b.p b.s4 q.ft.toNat).p ⟨0,0⟩ 4) b
def P7 (q:Qy) (b:Bx):Bool:=HC q&&(!b.emp&&decide ((b.g q.ft.toNat).lo < b.s4.hi))
def LC (m:Md) (q:Qy) (b:Bx):Bool:=HC q&&(HA m q.c (J4 q b)&&HA m q.c (KB q b))
def SR (m:Md) (q:Qy) (b:Bx):Int:=cond (LC m q b) (ED m q.c (KB q b) - EB m q.c (J4 q b)) 0
def SQ (m:Md) (q:Qy) (b:Bx):Int:=cond (LC m q b) (EB m q.c (KB q b) - ED m q.c (J4 q b)) 0
def G0 (m:Md) (q:Qy) (b:Bx):Bool:=
 FB m q &&
  cond b.emp true
   (cond (q.k==1) (HA m q.c b&&(decide (q.lo≤ED m q.c b)&&decide (EB m q.c b≤q.hi)))
    (cond (q.k==2) (NR m q.c b&&decide (UW m q.c b > 0))
     (cond (!(P7 q b)) true
      (cond q.fl (LC m q b&&decide (SQ m q b≤0)) (LC m q b&&decide (SR m q b≥0))))))
def IS (q:Qy) (i:Int):Int:=cond (decide (i≥0)&&decide (i < 4)) i (cond ((i==4)&&(q.k==3)) q.ft (-1))
def FF (m:Md) (q:Qy) (b:Bx) (i:Nat):List Int:=
 cond (decide (IS q (i:Int) < 0)) [] (LF (b.g i).lo (b.g i).hi (JT m.ts (IS q (i:Int))))
def LT (m:Md) (q:Qy) (b:Bx):Nat→Nat→Option (Int × Int)
 | 0,_=>none
 | n+1,i=>cond (decide ((FF m q b i).length > 0)) (some ((i:Int),(FF m q b i).getD (((FF m q b i).length - 1) / 2) 0)) (LT m q b n (i+1))
def E2 (m:Md) (q:Qy) (b:Bx):Option (Int × Int):=LT m q b 5 0
def cY:DW
 | [m,q]=>JI m fun m=>KF q fun q=>.ok (.bool (RA m q)) []
 | _=>.no
def MR:DW
 | [m,q]=>JI m fun m=>KF q fun q=>.ok (.bool (FB m q)) []
 | _=>.no
def WI:DW
 | [q]=>KF q fun q=>.ok (.bool (HC q)) []
 | _=>.no
def PQ:DW
 | [q]=>KF q fun q=>.ok (.bool (HC q)) []
 | _=>.no
def WH:DW
 | [q]=>KF q fun q=>.ok (GR q).V []
 | _=>.no
def cX:DW
 | [q,p,.int .i64 t]=>KF q fun q=>VO p fun p=>.ok (JG q p t).V []
 | _=>.no
def WG:DW
 | [m,q,p,.int .i64 t]=>JI m fun m=>KF q fun q=>VO p fun p=>.ok (.bool (HJ m q p t)) []
 | _=>.no
def cA:DW
 | [q,b]=>KF q fun q=>JH b fun b=>.ok (J4 q b).V []
 | _=>.no
def cC:DW
 | [q,b]=>KF q fun q=>JH b fun b=>.ok (KB q b).V []
 | _=>.no
def cB:DW
 | [q,b]=>KF q fun q=>JH b fun b=>.ok (.bool (P7 q b)) []
 | _=>.no
def bZ:DW
 | [m,q,b]=>JI m fun m=>KF q fun q=>JH b fun b=>.ok (.tup [.int .i64 (SR m q b),.int .i64 (SQ m q b),.bool (LC m q b)]) []
 | _=>.no
def cE:DW
 | [m,q,b]=>JI m fun m=>KF q fun q=>JH b fun b=>.ok (.bool (G0 m q b)) []
 | _=>.no
def cF:DW
 | [b]=>JH b fun b=>.ok (.tup [b.low.V,.int .i64 b.s4.hi]) []
 | _=>.no
def cJ:DW
 | [q,.int .i64 i]=>KF q fun q=>.ok (.int .i64 (IS q i)) []
 | _=>.no
def cH:DW
 | [m,q,b,.int .i64 i]=>JI m fun m=>KF q fun q=>JH b fun b=>.br (E0 m&&H6 i) (.ok (.list false [.z] (iZ (FF m q b i.toNat))) []) .no
 | _=>.no
def KD (o:Option (Int × Int)):Int:=match o with | none=>0 | some (i,_)=>i
def I2 (o:Option (Int × Int)):Int:=match o with | none=>0 | some (_,a)=>a
def cG:DW
 | [m,q,b]=>JI m fun m=>KF q fun q=>JH b fun b=>.br (E0 m) (.ok (.tup [.int .i64 (KD (E2 m q b)),.int .i64 (I2 (E2 m q b)),.bool (E2 m q b).isSome]) []) .no
 | _=>.no
structure Sr where
 left:LI
 proof:LI
 v:Vd
 spent:Int
def NV (s:Bool) (p a:Int):IV:=.agg [.bool s,.int p,.int a]
def D2 (l:LI):Bx:=D9 (l.getD (l.length - 1) default)
def GB (l:LI):LI:=l.take (l.length - 1)
def GM (m:Md) (q:Qy) (s:Sr):Sr:=
 cond (G0 m q (D2 s.left)) ⟨GB s.left,s.proof++[NV true 0 0],cond (ic (s.left.length - 1)==0) ⟨1,s.proof++[NV true 0 0],0,0,0,0,0,0⟩ s.v,s.spent+1⟩
  (cond (HJ m q (D2 s.left).low (D2 s.left).s4.hi) ⟨GB s.left,s.proof,⟨2,[],(D2 s.left).s0.lo,(D2 s.left).s1.lo,(D2 s.left).s2.lo,(D2 s.left).s3.lo,(D2 s.left).s4.hi,0⟩,s.spent+1⟩
   (cond (E2 m q (D2 s.left)).isSome
    ⟨GB s.left++[((D2 s.left).cutH (KD (E2 m q (D2 s.left))) (I2 (E2 m q (D2 s.left)))).I,((D2 s.left).cutL (KD (E2 m q (D2 s.left))) (I2 (E2 m q (D2 s.left)))).I],
     s.proof++[NV false (KD (E2 m q (D2 s.left))) (I2 (E2 m q (D2 s.left)))],s.v,s.spent+1⟩
    ⟨GB s.left,s.proof,⟨3,[],0,0,0,0,0,0⟩,s.spent+1⟩))
def JR (q:Qy) (s:Sr):Bool:=!(s.v.kind==0)||decide (s.spent≥q.bu)
def LR (m:Md) (q:Qy):Nat→Sr→Sr
 | 0,s=>s
 | n+1,s=>cond (JR q s) s (LR m q n (GM m q s))
def RH (m:Md) (q:Qy):Sr:=cond (FB m q) ⟨[(GR q).I],[],Vd.none,0⟩ ⟨[],[],⟨4,[],0,0,0,0,0,0⟩,0⟩
def GS (s:Sr):Vd:=⟨cond (s.v.kind==0) 3 s.v.kind,s.v.proof,s.v.w0,s.v.w1,s.v.w2,s.v.w3,s.v.twin,s.spent⟩
def FN (m:Md) (q:Qy):Vd:=GS (LR m q (q.bu.toNat+1) (RH m q))
def F8 (m:Md) (q:Qy) (r:List FM.V):List FM.V:=m.cs++(q.cs++r)
def seOf? (l:List FM.V):Option (Md × Qy × List FM.V):=
 match mdOf? (l.take 6),qyOf? ((l.drop 6).take 17) with
 | some m,some q=>some (m,q,(l.drop 6).drop 17)
 | _,_=>none
abbrev pD (l:LI):FM.V:=.vec 36 true E9 l
abbrev zcg (l:LI):FM.V:=.vec 127 true EE l
abbrev jF (l:LI):FM.V:=.list true EE l
def aH (v:Vd) (vp:FM.V) (sp:Int):List FM.V:=[.int .i64 v.kind,vp,.int .i64 v.w0,.int .i64 v.w1,.int .i64 v.w2,.int .i64 v.w3,.int .i64 v.twin,.int .i64 v.spent,.int .i64 sp]
def PG (t:Nat) (m:Md) (q:Qy) (s:Sr):List FM.V:=
 F8 m q (match t with
  | 0=>pD s.left :: zcg s.proof :: aH s.v .zs s.spent
  | 1=>pD s.left :: .zs :: aH s.v .zs s.spent
  | 2=>pD s.left :: jF s.proof :: aH s.v (jF s.v.proof) s.spent
  | _=>.zs :: .zs :: aH s.v .zs s.spent)
def srT?:List FM.V→Option (Nat × Sr)
 | [.vec 36 true [.z,.z,.z,.z,.z,.z,.z,.z,.z,.z] l,.vec 127 true [.bool,.z,.z] p,.int .i64 k,.zs,.int .i64 a,.int .i64 b,.int .i64 c,.int .i64 d,.int .i64 t,.int .i64 vs,.int .i64 sp]=>some (0,⟨l,p,⟨k,[],a,b,c,d,t,vs⟩,sp⟩)
 | [.vec 36 true [.z,.z,.z,.z,.z,.z,.z,.z,.z,.z] l,.zs,.int .i64 k,.zs,.int .i64 a,.int .i64 b,.int .i64 c,.int .i64 d,.int .i64 t,.int .i64 vs,.int .i64 sp]=>some (1,⟨l,[],⟨k,[],a,b,c,d,t,vs⟩,sp⟩)
 | [.vec 36 true [.z,.z,.z,.z,.z,.z,.z,.z,.z,.z] l,.list true [.bool,.z,.z] p,.int .i64 k,.list true [.bool,.z,.z] vp,.int .i64 a,.int .i64 b,.int .i64 c,.int .i64 d,.int .i64 t,.int .i64 vs,.int .i64 sp]=>some (2,⟨l,p,⟨k,vp,a,b,c,d,t,vs⟩,sp⟩)
 | [.zs,.zs,.int .i64 k,.zs,.int .i64 a,.int .i64 b,.int .i64 c,.int .i64 d,.int .i64 t,.int .i64 vs,.int .i64 sp]=>some (3,⟨[],[],⟨k,[],a,b,c,d,t,vs⟩,sp⟩)
 | _=>none
def lZ (v:FM.V) (k:Nat→Md→Qy→Sr→R):R:=
 match v with
 | .bor l=>match seOf? l with
  | some (m,q,r)=>match srT? r with
   | some (t,s)=>k t m q s
   | none=>.no
  | none=>.no
 | _=>.no
def lK (m:Md) (q:Qy) (t:Nat) (s:Sr):Nat:=
 cond (G0 m q (D2 s.left)) (cond (ic (s.left.length - 1)==0) 2 0)
  (cond (HJ m q (D2 s.left).low (D2 s.left).s4.hi) t (cond (E2 m q (D2 s.left)).isSome 0 t))
def dA:DW
 | [m,q]=>JI m fun m=>KF q fun q=>.br (FB m q) (.ok (.bor (PG 1 m q ⟨[(GR q).I],[],Vd.none,0⟩)) []) (.ok (.bor (PG 3 m q ⟨[],[],⟨4,[],0,0,0,0,0,0⟩,0⟩)) [])
 | _=>.no
def dD:DW
 | [x]=>lZ x fun t m q s=>
  .br (JR q s) (.ok (.bool false) [PG t m q s])
   (.br (B6 t 1&&(FB m q&&(decide (0≤s.spent)&&(BU 0 s.left.length&&(B6 s.left.length 100000&&B6 s.proof.length 100000)))))
    (.br (G0 m q (D2 s.left)) (.br (ic (s.left.length - 1)==0) (.ok (.bool true) [PG 2 m q (GM m q s)]) (.ok (.bool true) [PG 0 m q (GM m q s)]))
     (.br (HJ m q (D2 s.left).low (D2 s.left).s4.hi) (.ok (.bool true) [PG t m q (GM m q s)])
      (.br (E2 m q (D2 s.left)).isSome (.ok (.bool true) [PG 0 m q (GM m q s)]) (.ok (.bool true) [PG t m q (GM m q s)])))) .no)
 | _=>.no
def dE:DW
 | [x]=>lZ x fun t m q s=>.br (B6 s.v.proof.length 100000) (.ok (GS s).V [PG t m q s]) .no
 | _=>.no
def dC:DW
 | [m,q]=>JI m fun m=>KF q fun q=>.ok (FN m q).V []
 | _=>.no
def g7:DW
 | [.list true [.bool,.z,.z] l]=>.br (B6 l.length 100000) (.ok (.vec 127 true EE l) []) .no
 | _=>.no
open Go Go.Proofs
def Sa (N:Nat):Env:=D6 [] [] 2 N
theorem zer (N:Nat):D1 (Sa N) yJ [.cell 0 34] [[.z,.z]] []=(some ((.agg [.i 1,.i 0]),[])):=by kernel_rfl
def Sb (N:Nat):Env:=D6 [(194,WL)] [] 12 N
theorem zes (N:Nat) (lo hi:Int):D1 (Sb N) yK [.cell 4 34] [[.z,.z]] [.i lo,.i hi]=(cond (decide (lo > hi)) (some ((.agg [.i 1,.i 0]),[])) (some ((.agg [.i lo,.i hi]),[]))):=by kernel_rfl
def Ry (N:Nat):Env:=D6 [] [] 8 N
theorem zep (N:Nat) (s:Sp):D1 (Ry N) yH [.tmp 2] [[.bool]] [(Sp.V s)]=(some ((.bool (decide (Sp.lo s > Sp.hi s))),[])):=by kernel_rfl
def Rz (N:Nat):Env:=D6 [] [] 15 N
theorem zeq (N:Nat) (s:Sp) (n:Int):D1 (Rz N) yI [.tmp 4] [[.bool]] [(Sp.V s),.i n]=(cond (decide (Sp.lo s≤n)) (some ((.bool (decide (n≤Sp.hi s))),[])) (some ((.bool false),[]))):=by kernel_rfl
def Rx (N:Nat):Env:=D6 [(194,WL),(193,dI)] [] 29 N
theorem zeo (N:Nat) (s:Sp) (atv:Int):D1 (Rx N) yG [.cell 4 34,.cell 5 34] [[.z,.z],[.z,.z]] [(Sp.V s),.i atv]=(cond (decide (atv≥Sp.hi s)) (some ((.tup [(Sp.V (M7 (Sp.lo s) (min (Sp.hi s) atv))),.agg [.i 1,.i 0]]),[])) (some ((.tup [(Sp.V (M7 (Sp.lo s) (min (Sp.hi s) atv))),(Sp.V (M7 (max (Sp.lo s) (AA AB (atv+1))) (Sp.hi s)))]),[]))):=by kernel_rfl
def KV (N:Nat):Env:=D6 [(55,MQ)] [(3,⟨[0,3,4,5,6,9],[3,5],[]⟩)] 46 N
abbrev MN (p:Pt) (l0:LI) (x4 x6 x9:Int) (u00:Bool) (u01 u02 u03 u04 u05:Int):St:=⟨[(0,(.list false [.int .u64] l0)),(3,(.ptr 3 0 0)),(4,(.i x4)),(5,(.ptr 5 0 0)),(6,(.i x6)),(9,(.i x9))],[(3,(some (.box (Pt.cs p)))),(5,(some (.box [.bool u00,.i u01,.i u02,.i u03,.i u04,.i u05])))]⟩
theorem zeE (N:Nat) (l:LI) (p:Pt):D1 (KV N) N8 [.tmp 4,.cell 5 111] [[.z],[.bool,.z,.z,.z,.z,.z]] [.list false [.int .u64] l,(Pt.V p)]=(D0 (KV N) (DL N8 [1,1,0,1,0,0]) ⟨[0,3,4,5,6,9],[3,5],[]⟩ N (MN p l 0 0 0 false 0 0 0 0 0) (DS 0 (DT (KV N) (DL N8 [1,1,1]) (DV (KV N) none [.tmp 4,.cell 5 111] [[.z],[.bool,.z,.z,.z,.z,.z]])))):=by kernel_rfl
theorem Mw (N:Nat) (p:Pt) (l0:LI) (x4 x6 x9:Int) (u00:Bool) (u01 u02 u03 u04 u05:Int) (again:St→DP) (k:Out→St→DP):FG (KV N) (DL N8 [1,1,0,1,0,0]) (MN p l0 x4 x6 x9 u00 u01 u02 u03 u04 u05) (EW again ⟨[0,3,4,5,6,9],[3,5],[]⟩ k)=(cond (decide (x9 < 31)) (cond (decide (x6≥ic (AG l0))) (k (.exit 0) (MN p l0 x4 x6 x9 u00 u01 u02 u03 u04 u05)) (cond (decide (0≤x6)&&decide (x6 < ic (AG l0))) (cond (!GK (IV.toInt (AI l0 (AF x6) default))) (k .ret (MN p l0 (-1) x6 x9 false 0 0 0 0 0)) (cond (Nd.lf (DM (IV.toInt (AI l0 (AF x6) default)))) (k .ret ⟨[(0,(.list false [.int .u64] l0)),(3,(.ptr 3 0 0)),(4,(.i x6)),(5,(.ptr 5 0 0)),(6,(.i x6)),(9,(.i x9))],[(3,(some (.box (Pt.cs p)))),(5,(some (.box (Nd.cs (DM (IV.toInt (AI l0 (AF x6) default)))))))]⟩) (cond (decide (Nd.f (DM (IV.toInt (AI l0 (AF x6) default)))=ic 0)) (cond (decide (Pt.p0 p≤Nd.a (DM (IV.toInt (AI l0 (AF x6) default))))) (again (MN p l0 x4 (Nd.l (DM (IV.toInt (AI l0 (AF x6) default)))) (AA AB (x9+1)) u00 u01 u02 u03 u04 u05)) (again (MN p l0 x4 (Nd.r (DM (IV.toInt (AI l0 (AF x6) default)))) (AA AB (x9+1)) u00 u01 u02 u03 u04 u05))) (cond (decide (Nd.f (DM (IV.toInt (AI l0 (AF x6) default)))=ic 1)) (cond (decide (Pt.p1 p≤Nd.a (DM (IV.toInt (AI l0 (AF x6) default))))) (again (MN p l0 x4 (Nd.l (DM (IV.toInt (AI l0 (AF x6) default)))) (AA AB (x9+1)) u00 u01 u02 u03 u04 u05)) (again (MN p l0 x4 (Nd.r (DM (IV.toInt (AI l0 (AF x6) default)))) (AA AB (x9+1)) u00 u01 u02 u03 u04 u05))) (cond (decide (Nd.f (DM (IV.toInt (AI l0 (AF x6) default)))=ic 2)) (cond (decide (Pt.p2 p≤Nd.a (DM (IV.toInt (AI l0 (AF x6) default))))) (again (MN p l0 x4 (Nd.l (DM (IV.toInt (AI l0 (AF x6) default)))) (AA AB (x9+1)) u00 u01 u02 u03 u04 u05)) (again (MN p l0 x4 (Nd.r (DM (IV.toInt (AI l0 (AF x6) default)))) (AA AB (x9+1)) u00 u01 u02 u03 u04 u05))) (cond (decide (Nd.f (DM (IV.toInt (AI l0 (AF x6) default)))=ic 3)) (cond (decide (Pt.p3 p≤Nd.a (DM (IV.toInt (AI l0 (AF x6) default))))) (again (MN p l0 x4 (Nd.l (DM (IV.toInt (AI l0 (AF x6) default)))) (AA AB (x9+1)) u00 u01 u02 u03 u04 u05)) (again (MN p l0 x4 (Nd.r (DM (IV.toInt (AI l0 (AF x6) default)))) (AA AB (x9+1)) u00 u01 u02 u03 u04 u05))) none)))))) none)) (k (.exit 0) (MN p l0 x4 x6 x9 u00 u01 u02 u03 u04 u05))):=by kernel_rfl
theorem Ai (N:Nat) (p:Pt) (l0:LI) (x4 x6 x9:Int) (u00:Bool) (u01 u02 u03 u04 u05:Int):(DS 0 (DT (KV N) (DL N8 [1,1,1]) (DV (KV N) none [.tmp 4,.cell 5 111] [[.z],[.bool,.z,.z,.z,.z,.z]]))) (.exit 0) (MN p l0 x4 x6 x9 u00 u01 u02 u03 u04 u05)=(some ((.tup [.i (-1),.agg [.bool false,.i 0,.i 0,.i 0,.i 0,.i 0]]),[])):=by kernel_rfl
theorem Yx (N:Nat) (p:Pt) (l0:LI) (x4 x6 x9:Int) (u00:Bool) (u01 u02 u03 u04 u05:Int):(DS 0 (DT (KV N) (DL N8 [1,1,1]) (DV (KV N) none [.tmp 4,.cell 5 111] [[.z],[.bool,.z,.z,.z,.z,.z]]))) .ret (MN p l0 x4 x6 x9 u00 u01 u02 u03 u04 u05)=(some ((.tup [.i x4,.agg [.bool u00,.i u01,.i u02,.i u03,.i u04,.i u05]]),[])):=by kernel_rfl
def Sj (N:Nat):Env:=D6 [(217,dM)] [] 15 N
theorem zeD (N:Nat) (l:LI) (p:Pt):D1 (Sj N) yS [.tmp 4] [[.z]] [.list false [.int .u64] l,(Pt.V p)]=(some ((.i (Nd.v (jA l p))),[])):=by kernel_rfl
def LW (N:Nat):Env:=D6 [(195,dL)] [(3,⟨[1,5,6,7,15,16,17],[5],[]⟩)] 33 N
abbrev TS (p:Pt) (x1 x6 x7:Int) (l15:LI) (x16 x17:Int):St:=⟨[(1,(.i x1)),(5,(.ptr 5 0 0)),(6,(.i x6)),(7,(.i x7)),(15,(.list true MX l15)),(16,(.i x16)),(17,(.i x17))],[(5,(some (.box (Pt.cs p))))]⟩
theorem zdX (N:Nat) (m:Md) (u00:Int) (p:Pt):D1 (LW N) OX [.tmp 6] [[.z]] [(Md.V m),.i u00,(Pt.V p)]=(cond (decide (u00=ic 0)) (D0 (LW N) (DL OX [1,1,0,1,0,0]) ⟨[1,5,6,7,15,16,17],[5],[]⟩ N (TS p u00 0 (Md.b0 m) (Md.ts m) (ic (AG (Md.ts m))) 0) (DS 0 (DT (LW N) (DL OX [1,1,1]) (DV (LW N) none [.tmp 6] [[.z]])))) (cond (decide (u00=ic 1)) (D0 (LW N) (DL OX [1,1,0,1,0,0]) ⟨[1,5,6,7,15,16,17],[5],[]⟩ N (TS p u00 0 (Md.b1 m) (Md.ts m) (ic (AG (Md.ts m))) 0) (DS 0 (DT (LW N) (DL OX [1,1,1]) (DV (LW N) none [.tmp 6] [[.z]])))) (cond (decide (u00=ic 2)) (D0 (LW N) (DL OX [1,1,0,1,0,0]) ⟨[1,5,6,7,15,16,17],[5],[]⟩ N (TS p u00 0 (Md.b2 m) (Md.ts m) (ic (AG (Md.ts m))) 0) (DS 0 (DT (LW N) (DL OX [1,1,1]) (DV (LW N) none [.tmp 6] [[.z]])))) none))):=by kernel_rfl
theorem Ml (N:Nat) (p:Pt) (x1 x6 x7:Int) (l15:LI) (x16 x17:Int) (again:St→DP) (k:Out→St→DP):FG (LW N) (DL OX [1,1,0,1,0,0]) (TS p x1 x6 x7 l15 x16 x17) (EW again ⟨[1,5,6,7,15,16,17],[5],[]⟩ k)=(cond (decide (x17 < x16)) (cond (decide (0≤x17)&&decide (x17 < ic (AG l15))) (cond (IV.toInt (IV.cell (AI l15 (AF x17) default) 0)==x1) (again (TS p x1 x6 (AA AB (x7+HE (IV.toList (IV.cell (AI l15 (AF x17) default) 1)) p)) l15 x16 (AA AB (x17+1)))) (again (TS p x1 x6 x7 l15 x16 (AA AB (x17+1))))) none) (k (.exit 0) (TS p x1 x6 x7 l15 x16 x17))):=by kernel_rfl
theorem Yc (N:Nat) (p:Pt) (x1 x6 x7:Int) (l15:LI) (x16 x17:Int):(DS 0 (DT (LW N) (DL OX [1,1,1]) (DV (LW N) none [.tmp 6] [[.z]]))) (.exit 0) (TS p x1 x6 x7 l15 x16 x17)=(some ((.i x7),[])):=by kernel_rfl
def Re (N:Nat):Env:=D6 [(53,MP),(159,cP)] [] 24 N
theorem zdT (N:Nat) (m:Md) (u00:Int) (p:Pt):D1 (Re N) xP [.tmp 6] [[.z]] [(Md.V m),.i u00,(Pt.V p)]=(cond (!E0 m) (some ((.i 0),[])) (cond (decide (u00 < 0)) (some ((.i 0),[])) (cond (decide (u00≥Md.c m)) (some ((.i 0),[])) (cond (E0 m&&IC m u00) (some ((.i (P1 u00 p (Md.ts m) (L0 m u00))),[])) none)))):=by kernel_rfl
def Px (N:Nat):Env:=D6 [(155,WJ)] [(2,⟨[2,5,6],[],[]⟩)] 12 N
def Pz (N:Nat):Env:=D6 [] [(3,⟨[1,2,3,5],[1,2,3],[]⟩)] 16 N
open Go Go.Proofs
def N4 (N:Nat):Env:=kB [(53,MP),(55,MQ)] [(202,jM),(201,jO)] [(5,⟨[1,4,5,16,17,18],[500],[⟨.tmp 5,500,3,false,[.z]⟩]⟩),(8,⟨[1,4,5,16,17,18,23,24,25],[500],[⟨.tmp 5,500,3,false,[.z]⟩]⟩)] 54 N
abbrev aQ (x1:Int) (n5:Nat) (l16:LI) (x17 x18:Int) (u00:LI):St:=⟨[(1,(.i x1)),(4,.zs),(5,(.row 500 0 n5)),(16,(.list true MX l16)),(17,(.i x17)),(18,(.i x18))],[(500,(some (.row true 3 false [.z] u00)))]⟩
abbrev VW (x1:Int) (n5:Nat) (l16:LI) (x17 x18:Int) (l23:LI) (x24 x25:Int) (u00:LI):St:=⟨[(1,(.i x1)),(4,.zs),(5,(.row 500 0 n5)),(16,(.list true MX l16)),(17,(.i x17)),(18,(.i x18)),(23,(.list false [.int .u64] l23)),(24,(.i x24)),(25,(.i x25))],[(500,(some (.row true 3 false [.z] u00)))]⟩
theorem zdW (N:Nat) (m:Md) (u00:Int):D1 (N4 N) OW [.tmp 4] [] [(Md.V m),.i u00]=(cond (!E0 m) (some (.any,[])) (D0 (N4 N) (DL OW [1,1,1,0,1,0,0]) ⟨[1,4,5,16,17,18],[500],[⟨(.tmp 5),500,3,false,[.z]⟩]⟩ N (aQ u00 0 (Md.ts m) (ic (AG (Md.ts m))) 0 []) (DS 0 (DT (N4 N) (DL OW [1,1,1,1]) (DV (N4 N) none [.tmp 4] []))))):=by kernel_rfl
theorem Mj (N:Nat) (x1:Int) (n5:Nat) (l16:LI) (x17 x18:Int) (u00:LI) (again:St→DP) (k:Out→St→DP):FG (N4 N) (DL OW [1,1,1,0,1,0,0]) (aQ x1 n5 l16 x17 x18 u00) (EW again ⟨[1,4,5,16,17,18],[500],[⟨(.tmp 5),500,3,false,[.z]⟩]⟩ k)=(cond (decide (x18 < x17)) (cond (decide (0≤x18)&&decide (x18 < ic (AG l16))) (D0 (N4 N) (DL OW [1,1,1,0,1,0,0,1,1,0,0,1,1,0,0]) ⟨[1,4,5,16,17,18,23,24,25],[500],[⟨(.tmp 5),500,3,false,[.z]⟩]⟩ N (VW x1 n5 l16 x17 x18 (IV.toList (IV.cell (AI l16 (AF x18) default) 1)) (ic (AG (IV.toList (IV.cell (AI l16 (AF x18) default) 1)))) 0 u00) (DS 2 (DS 1 (DT (N4 N) (DL OW [1,1,1,0,1,0,0,1,1,1]) (EW again ⟨[1,4,5,16,17,18],[500],[⟨(.tmp 5),500,3,false,[.z]⟩]⟩ k))))) none) (k (.exit 0) (aQ x1 n5 l16 x17 x18 u00))):=by kernel_rfl
theorem Mk (N:Nat) (x1:Int) (n5:Nat) (l16:LI) (x17 x18:Int) (l23:LI) (x24 x25:Int) (u00:LI) (again:St→DP) (k:Out→St→DP):FG (N4 N) (DL OW [1,1,1,0,1,0,0,1,1,0,0,1,1,0,0]) (VW x1 n5 l16 x17 x18 l23 x24 x25 u00) (EW again ⟨[1,4,5,16,17,18,23,24,25],[500],[⟨(.tmp 5),500,3,false,[.z]⟩]⟩ k)=(cond (decide (x25 < x24)) (cond (decide (0≤x25)&&decide (x25 < ic (AG l23))) (cond (!Nd.lf (DM (IV.toInt (AI l23 (AF x25) default)))) (cond (Nd.f (DM (IV.toInt (AI l23 (AF x25) default)))==x1) (cond (decide ((n5+1)*8≤EG)) (again (VW x1 (n5+1) l16 x17 x18 l23 x24 (AA AB (x25+1)) (AK n5 u00++[IV.int (Nd.a (DM (IV.toInt (AI l23 (AF x25) default))))]))) none) (again (VW x1 n5 l16 x17 x18 l23 x24 (AA AB (x25+1)) u00))) (again (VW x1 n5 l16 x17 x18 l23 x24 (AA AB (x25+1)) u00))) none) (k (.exit 2) (VW x1 n5 l16 x17 x18 l23 x24 x25 u00))):=by kernel_rfl
theorem Ya (N:Nat) (x1:Int) (n5:Nat) (l16:LI) (x17 x18:Int) (u00:LI):(DS 0 (DT (N4 N) (DL OW [1,1,1,1]) (DV (N4 N) none [.tmp 4] []))) (.exit 0) (aQ x1 n5 l16 x17 x18 u00)=(cond (BQ n5 (AG u00)) (cond (BQ (AG (iZ (K7 (A4 IV.toInt u00)))) (AG u00)) (cond (BQ n5 (AG (iZ (K7 (A4 IV.toInt u00))))) (cond (B6 (AG (iZ (KI (A4 IV.toInt (iZ (K7 (A4 IV.toInt u00))))))) (AG (iZ (K7 (A4 IV.toInt u00))))) (some ((.vec 3 false [.z] (AK (AG (iZ (KI (A4 IV.toInt (iZ (K7 (A4 IV.toInt u00))))))) (iZ (KI (A4 IV.toInt (iZ (K7 (A4 IV.toInt u00)))))))),[])) none) none) none) none):=by kernel_rfl
theorem Yb (N:Nat) (again:St→DP) (k:Out→St→DP) (x1:Int) (n5:Nat) (l16:LI) (x17 x18:Int) (l23:LI) (x24 x25:Int) (u00:LI):(DS 2 (DS 1 (DT (N4 N) (DL OW [1,1,1,0,1,0,0,1,1,1]) (EW again ⟨[1,4,5,16,17,18],[500],[⟨(.tmp 5),500,3,false,[.z]⟩]⟩ k)))) (.exit 2) (VW x1 n5 l16 x17 x18 l23 x24 x25 u00)=(again (aQ x1 n5 l16 x17 (AA AB (x18+1)) u00)):=by kernel_rfl
def Rb (N:Nat):Env:=D6 [] [] 23 N
theorem zdO (N:Nat) (q:Qy) (u00:Int):D1 (Rb N) xM [.tmp 4] [[.z]] [(Qy.V q),.i u00]=(cond (decide (u00≥0)) (cond (decide (u00 < 4)) (some ((.i u00),[])) (cond (u00==4) (cond (Qy.k q==3) (some ((.i (Qy.ft q)),[])) (some ((.i (-1)),[]))) (some ((.i (-1)),[])))) (cond (u00==4) (cond (Qy.k q==3) (some ((.i (Qy.ft q)),[])) (some ((.i (-1)),[]))) (some ((.i (-1)),[])))):=by kernel_rfl
def uT (N:Nat):Env:=kB [(166,cJ),(168,cO)] [(167,jN)] [] 24 N
def Rs (N:Nat):Env:=D6 [] [] 71 N
theorem zeb (N:Nat) (m:Md) (a1:Qy):D1 (Rs N) yB [.tmp 4] [[.bool]] [(Md.V m),(Qy.V a1)]=(cond (Qy.k a1==1) (cond (decide (Qy.lo a1≤Qy.hi a1)) (cond (Qy.ft a1==0) (some ((.bool (!Qy.fl a1)),[])) (some ((.bool false),[]))) (some ((.bool false),[]))) (cond (Qy.k a1==2) (cond (decide (Md.c m≥2)) (cond (Qy.lo a1==0) (cond (Qy.hi a1==0) (cond (Qy.ft a1==0) (some ((.bool (!Qy.fl a1)),[])) (some ((.bool false),[]))) (some ((.bool false),[]))) (some ((.bool false),[]))) (some ((.bool false),[]))) (cond (Qy.k a1==3) (cond (decide (Qy.ft a1≥0)) (cond (decide (Qy.ft a1 < Md.d m)) (cond (Qy.lo a1==0) (some ((.bool (Qy.hi a1==0)),[])) (some ((.bool false),[]))) (some ((.bool false),[]))) (some ((.bool false),[]))) (some ((.bool false),[]))))):=by kernel_rfl
def Ro (N:Nat):Env:=D6 [(53,MP),(108,cY),(107,cZ)] [] 41 N
theorem zd8 (N:Nat) (m:Md) (q:Qy):D1 (Ro N) xY [.tmp 4] [[.bool]] [(Md.V m),(Qy.V q)]=(cond (E0 m) (cond (decide (Qy.c q≥0)) (cond (decide (Qy.c q < Md.c m)) (cond (decide (Qy.bu q≥0)) (cond (decide (Qy.bu q≤65536)) (cond (P9 {s0:={lo:=Qy.a0 q,hi:=Qy.b0 q},s1:={lo:=Qy.a1 q,hi:=Qy.b1 q},s2:={lo:=Qy.a2 q,hi:=Qy.b2 q},s3:={lo:=Qy.a3 q,hi:=Qy.b3 q},s4:={lo:=Qy.a4 q,hi:=Qy.b4 q}} (Md.d m)) (some ((.bool (RA m q)),[])) (some ((.bool false),[]))) (some ((.bool false),[]))) (some ((.bool false),[]))) (some ((.bool false),[]))) (some ((.bool false),[]))) (some ((.bool false),[]))):=by kernel_rfl
def Rt (N:Nat):Env:=D6 [] [] 16 N
theorem zec (N:Nat) (q:Qy):D1 (Rt N) yC [.tmp 2] [[.bool]] [(Qy.V q)]=(cond (Qy.k q==3) (cond (decide (Qy.ft q≥0)) (some ((.bool (decide (Qy.ft q < 4))),[])) (some ((.bool false),[]))) (some ((.bool false),[]))):=by kernel_rfl
def Rr (N:Nat):Env:=D6 [(109,WI)] [] 16 N
theorem zea (N:Nat) (q:Qy):D1 (Rr N) yA [.cell 2 36] [[.z,.z,.z,.z,.z,.z,.z,.z,.z,.z]] [(Qy.V q)]=(cond (HC q) (cond (decide (Qy.ft q=ic 0)) (some ((.agg [.i (Qy.a0 q),.i (Qy.b0 q),.i (Qy.a1 q),.i (Qy.b1 q),.i (Qy.a2 q),.i (Qy.b2 q),.i (Qy.a3 q),.i (Qy.b3 q),.i (Qy.a0 q),.i (Qy.b0 q)]),[])) (cond (decide (Qy.ft q=ic 1)) (some ((.agg [.i (Qy.a0 q),.i (Qy.b0 q),.i (Qy.a1 q),.i (Qy.b1 q),.i (Qy.a2 q),.i (Qy.b2 q),.i (Qy.a3 q),.i (Qy.b3 q),.i (Qy.a1 q),.i (Qy.b1 q)]),[])) (cond (decide (Qy.ft q=ic 2)) (some ((.agg [.i (Qy.a0 q),.i (Qy.b0 q),.i (Qy.a1 q),.i (Qy.b1 q),.i (Qy.a2 q),.i (Qy.b2 q),.i (Qy.a3 q),.i (Qy.b3 q),.i (Qy.a2 q),.i (Qy.b2 q)]),[])) (cond (decide (Qy.ft q=ic 3)) (some ((.agg [.i (Qy.a0 q),.i (Qy.b0 q),.i (Qy.a1 q),.i (Qy.b1 q),.i (Qy.a2 q),.i (Qy.b2 q),.i (Qy.a3 q),.i (Qy.b3 q),.i (Qy.a3 q),.i (Qy.b3 q)]),[])) (cond (decide (Qy.ft q=ic 4)) (some ((.agg [.i (Qy.a0 q),.i (Qy.b0 q),.i (Qy.a1 q),.i (Qy.b1 q),.i (Qy.a2 q),.i (Qy.b2 q),.i (Qy.a3 q),.i (Qy.b3 q),.i 0,.i 0]),[])) none))))) (some ((.agg [.i (Qy.a0 q),.i (Qy.b0 q),.i (Qy.a1 q),.i (Qy.b1 q),.i (Qy.a2 q),.i (Qy.b2 q),.i (Qy.a3 q),.i (Qy.b3 q),.i 0,.i 0]),[]))):=by kernel_rfl
def Rq (N:Nat):Env:=D6 [(109,WI)] [] 14 N
theorem zd9 (N:Nat) (q:Qy) (p:Pt) (twin:Int):D1 (Rq N) xZ [.cell 6 53] [[.z,.z,.z,.z]] [(Qy.V q),(Pt.V p),.i twin]=(cond (HC q) (cond (decide (Qy.ft q=ic 0)) (some ((.agg [.i twin,.i (Pt.p1 p),.i (Pt.p2 p),.i (Pt.p3 p)]),[])) (cond (decide (Qy.ft q=ic 1)) (some ((.agg [.i (Pt.p0 p),.i twin,.i (Pt.p2 p),.i (Pt.p3 p)]),[])) (cond (decide (Qy.ft q=ic 2)) (some ((.agg [.i (Pt.p0 p),.i (Pt.p1 p),.i twin,.i (Pt.p3 p)]),[])) (cond (decide (Qy.ft q=ic 3)) (some ((.agg [.i (Pt.p0 p),.i (Pt.p1 p),.i (Pt.p2 p),.i twin]),[])) none)))) (some ((Pt.V p),[]))):=by kernel_rfl
def LX (N:Nat):Env:=D6 [(115,cN),(65,MR),(116,cX),(114,WK)] [(9,⟨[4,5,6,8,9,36,37],[4,5,6],[]⟩)] 75 N
abbrev TT (m:Md) (a1:Qy) (a2:Pt) (b8:Bool) (x9 x36 x37:Int):St:=⟨[(4,(.ptr 4 0 0)),(5,(.ptr 5 0 0)),(6,(.ptr 6 0 0)),(8,(.bool b8)),(9,(.i x9)),(36,(.i x36)),(37,(.i x37))],[(4,(some (.box (Md.cs m)))),(5,(some (.box (Qy.cs a1)))),(6,(some (.box (Pt.cs a2))))]⟩
theorem zd7 (N:Nat) (m:Md) (a1:Qy) (a2:Pt) (a3:Int):D1 (LX N) N7 [.tmp 8] [[.bool]] [(Md.V m),(Qy.V a1),(Pt.V a2),.i a3]=(cond (!FB m a1) (some ((.bool false),[])) (cond (Qy.k a1==1) (some ((.bool (!Sp.has {lo:=Qy.lo a1,hi:=Qy.hi a1} (EU m (Qy.c a1) a2))),[])) (cond (Qy.k a1==2) (D0 (LX N) (DL N7 [1,1,1,0,1,0,1,1,1,0,0,1,0,0]) ⟨[4,5,6,8,9,36,37],[4,5,6],[]⟩ N (TT m a1 a2 false (EU m (Qy.c a1) a2) (Md.c m) 0) (DS 1 (DT (LX N) (DL N7 [1,1,1,0,1,0,1,1,1,0,1]) (DS 0 (DT (LX N) (DL N7 [1,1,1,1]) (DV (LX N) none [.tmp 8] [[.bool]])))))) (cond (decide (Qy.ft a1=ic 0)) (cond (decide (Pt.p0 a2≥a3)) (some ((.bool false),[])) (cond (Qy.fl a1) (some ((.bool (decide (EU m (Qy.c a1) (JG a1 a2 a3) > EU m (Qy.c a1) a2))),[])) (some ((.bool (decide (EU m (Qy.c a1) (JG a1 a2 a3) < EU m (Qy.c a1) a2))),[])))) (cond (decide (Qy.ft a1=ic 1)) (cond (decide (Pt.p1 a2≥a3)) (some ((.bool false),[])) (cond (Qy.fl a1) (some ((.bool (decide (EU m (Qy.c a1) (JG a1 a2 a3) > EU m (Qy.c a1) a2))),[])) (some ((.bool (decide (EU m (Qy.c a1) (JG a1 a2 a3) < EU m (Qy.c a1) a2))),[])))) (cond (decide (Qy.ft a1=ic 2)) (cond (decide (Pt.p2 a2≥a3)) (some ((.bool false),[])) (cond (Qy.fl a1) (some ((.bool (decide (EU m (Qy.c a1) (JG a1 a2 a3) > EU m (Qy.c a1) a2))),[])) (some ((.bool (decide (EU m (Qy.c a1) (JG a1 a2 a3) < EU m (Qy.c a1) a2))),[])))) (cond (decide (Qy.ft a1=ic 3)) (cond (decide (Pt.p3 a2≥a3)) (some ((.bool false),[])) (cond (Qy.fl a1) (some ((.bool (decide (EU m (Qy.c a1) (JG a1 a2 a3) > EU m (Qy.c a1) a2))),[])) (some ((.bool (decide (EU m (Qy.c a1) (JG a1 a2 a3) < EU m (Qy.c a1) a2))),[])))) none))))))):=by kernel_rfl
theorem Mo (N:Nat) (m:Md) (a1:Qy) (a2:Pt) (b8:Bool) (x9 x36 x37:Int) (again:St→DP) (k:Out→St→DP):FG (LX N) (DL N7 [1,1,1,0,1,0,1,1,1,0,0,1,0,0]) (TT m a1 a2 b8 x9 x36 x37) (EW again ⟨[4,5,6,8,9,36,37],[4,5,6],[]⟩ k)=(cond (decide (x37 < x36)) (cond (x37 != Qy.c a1) (cond (decide (EU m x37 a2≥x9)) (k .ret (TT m a1 a2 true x9 x36 x37)) (again (TT m a1 a2 b8 x9 x36 (AA AB (x37+1))))) (again (TT m a1 a2 b8 x9 x36 (AA AB (x37+1))))) (k (.exit 1) (TT m a1 a2 b8 x9 x36 x37))):=by kernel_rfl
theorem Yg (N:Nat) (m:Md) (a1:Qy) (a2:Pt) (b8:Bool) (x9 x36 x37:Int):(DS 1 (DT (LX N) (DL N7 [1,1,1,0,1,0,1,1,1,0,1]) (DS 0 (DT (LX N) (DL N7 [1,1,1,1]) (DV (LX N) none [.tmp 8] [[.bool]]))))) (.exit 1) (TT m a1 a2 b8 x9 x36 x37)=(some ((.bool false),[])):=by kernel_rfl
theorem Yh (N:Nat) (m:Md) (a1:Qy) (a2:Pt) (b8:Bool) (x9 x36 x37:Int):(DS 1 (DT (LX N) (DL N7 [1,1,1,0,1,0,1,1,1,0,1]) (DS 0 (DT (LX N) (DL N7 [1,1,1,1]) (DV (LX N) none [.tmp 8] [[.bool]]))))) .ret (TT m a1 a2 b8 x9 x36 x37)=(some ((.bool b8),[])):=by kernel_rfl
def Ru (N:Nat):Env:=D6 [(93,R9),(155,WJ)] [(2,⟨[1,4,7,8],[],[]⟩)] 35 N
open Go Go.Proofs
def QY (N:Nat):Env:=D6 [(111,PP),(112,LB),(55,MQ),(96,WR)] [(7,⟨[4,5,6,24,25,26],[20,500],[⟨.tmp 6,500,275,true,[.z,.z,.z,.z,.z,.z,.z,.z,.z,.z,.z]⟩]⟩)] 79 N
abbrev VV (n5 n6:Nat) (l24:LI) (x25 x26:Int) (lo20 u00:LI):St:=⟨[(4,.zs),(5,(.row 20 0 n5)),(6,(.row 500 0 n6)),(24,(.list false [.int .u64] l24)),(25,(.i x25)),(26,(.i x26))],[(20,(some (.row true 36 true E9 lo20))),(500,(some (.row true 275 true MW u00)))]⟩
theorem zdS (N:Nat) (l:LI) (a1:Bx):D1 (QY N) UK [.tmp 4] [[.list true [.z,.z,.z,.z,.z,.z,.z,.z,.z,.z,.z]]] [.list false [.int .u64] l,(Bx.V a1)]=(cond (!G4 l 4) (some ((.list true MW []),[])) (cond (Bx.emp a1) (some ((.list true MW []),[])) (cond (true&&(true&&decide (0≤ic (AG l)))&&(decide (ic (AG l)=ic (AG l))&&decide (ic (AG l)*ic 80≤ic EG))) (cond (decide (0≤0)&&decide (0 < ic (AF (ic (AG l)) - 0))) (D0 (QY N) (DL UK [1,1,1,1,1,0,1,0,0]) ⟨[4,5,6,24,25,26],[20,500],[⟨(.tmp 6),500,275,true,MW⟩]⟩ N (VV (AF (ic (AG l))) 0 l (ic (AG l)) 0 (List.set (BN (AF (ic (AG l))) (IV.agg [IV.int 0,IV.int 0,IV.int 0,IV.int 0,IV.int 0,IV.int 0,IV.int 0,IV.int 0,IV.int 0,IV.int 0])) 0 (Bx.I a1)) []) (DS 0 (DT (QY N) (DL UK [1,1,1,1,1,1]) (DV (QY N) none [.tmp 4] [[.list true MW]])))) none) none))):=by kernel_rfl
theorem Mh (N n5 n6:Nat) (l24:LI) (x25 x26:Int) (lo20 u00:LI) (again:St→DP) (k:Out→St→DP):FG (QY N) (DL UK [1,1,1,1,1,0,1,0,0]) (VV n5 n6 l24 x25 x26 lo20 u00) (EW again ⟨[4,5,6,24,25,26],[20,500],[⟨(.tmp 6),500,275,true,MW⟩]⟩ k)=(cond (decide (x26 < x25)) (cond (decide (0≤x26)&&decide (x26 < ic (AG l24))) (cond (!Nd.lf (DM (IV.toInt (AI l24 (AF x26) default)))) (cond (decide (0≤x26)&&decide (x26 < ic (n5 - 0))) (cond (H6 (Nd.f (DM (IV.toInt (AI l24 (AF x26) default))))) (cond (decide (0≤Nd.l (DM (IV.toInt (AI l24 (AF x26) default))))&&decide (Nd.l (DM (IV.toInt (AI l24 (AF x26) default))) < ic (n5 - 0))) (cond (decide (0≤Nd.r (DM (IV.toInt (AI l24 (AF x26) default))))&&decide (Nd.r (DM (IV.toInt (AI l24 (AF x26) default))) < ic (n5 - 0))) (again (VV n5 n6 l24 x25 (AA AB (x26+1)) (List.set (List.set lo20 (0+AF (Nd.l (DM (IV.toInt (AI l24 (AF x26) default))))) (Bx.I (Bx.cutL (D9 (AI lo20 (0+AF x26) default)) (Nd.f (DM (IV.toInt (AI l24 (AF x26) default)))) (Nd.a (DM (IV.toInt (AI l24 (AF x26) default))))))) (0+AF (Nd.r (DM (IV.toInt (AI l24 (AF x26) default))))) (Bx.I (Bx.cutH (D9 (AI lo20 (0+AF x26) default)) (Nd.f (DM (IV.toInt (AI l24 (AF x26) default)))) (Nd.a (DM (IV.toInt (AI l24 (AF x26) default))))))) u00)) none) none) none) none) (cond (decide (0≤x26)&&decide (x26 < ic (n5 - 0))) (cond (!Bx.emp (D9 (AI lo20 (0+AF x26) default))) (cond (decide (0≤x26)&&decide (x26 < ic (n5 - 0))) (cond (decide ((n6+1)*88≤EG)) (again (VV n5 (n6+1) l24 x25 (AA AB (x26+1)) lo20 (AK n6 u00++[(fT (D9 (AI lo20 (0+AF x26) default)) (Nd.v (DM (IV.toInt (AI l24 (AF x26) default)))))]))) none) none) (again (VV n5 n6 l24 x25 (AA AB (x26+1)) lo20 u00))) none)) none) (k (.exit 0) (VV n5 n6 l24 x25 x26 lo20 u00))):=by kernel_rfl
theorem Xx (N n5 n6:Nat) (l24:LI) (x25 x26:Int) (lo20 u00:LI):(DS 0 (DT (QY N) (DL UK [1,1,1,1,1,1]) (DV (QY N) none [.tmp 4] [[.list true MW]]))) (.exit 0) (VV n5 n6 l24 x25 x26 lo20 u00)=(some ((.list true MW (AT 0 (AK n6 u00))),[])):=by kernel_rfl
def QV (N:Nat):Env:=D6 [(218,cM)] [(6,⟨[4,5,6,8,9,26,27,28],[],[]⟩)] 43 N
abbrev aN (x4 x5:Int) (b6:Bool) (x8 x9:Int) (l26:LI) (x27 x28:Int):St:=⟨[(4,(.i x4)),(5,(.i x5)),(6,(.bool b6)),(8,(.i x8)),(9,(.i x9)),(26,(.list true MW l26)),(27,(.i x27)),(28,(.i x28))],[]⟩
theorem zc8 (N:Nat) (l:LI) (b:Bx):D1 (QV N) UG [.tmp 4,.tmp 5,.tmp 6] [[.z],[.z],[.bool]] [.list false [.int .u64] l,(Bx.V b)]=(cond (ic (AG (IT l b))==0) (some ((.tup [.i 0,.i 0,.bool false]),[])) (cond (decide (0≤0)&&decide (0 < ic (AG (IT l b)))) (cond (decide (0≤0)&&decide (0 < ic (AG (IT l b)))) (D0 (QV N) (DL UG [1,1,1,1,0,1,0,0]) ⟨[4,5,6,8,9,26,27,28],[],[]⟩ N (aN 0 0 false (IV.toInt (IV.cell (AI (IT l b) (AF 0) default) 10)) (IV.toInt (IV.cell (AI (IT l b) (AF 0) default) 10)) (IT l b) (ic (AG (IT l b))) 0) (DS 0 (DT (QV N) (DL UG [1,1,1,1,1]) (DV (QV N) none [.tmp 4,.tmp 5,.tmp 6] [[.z],[.z],[.bool]])))) none) none)):=by kernel_rfl
theorem Lq (N:Nat) (x4 x5:Int) (b6:Bool) (x8 x9:Int) (l26:LI) (x27 x28:Int) (again:St→DP) (k:Out→St→DP):FG (QV N) (DL UG [1,1,1,1,0,1,0,0]) (aN x4 x5 b6 x8 x9 l26 x27 x28) (EW again ⟨[4,5,6,8,9,26,27,28],[],[]⟩ k)=(cond (decide (x28 < x27)) (cond (decide (0≤x28)&&decide (x28 < ic (AG l26))) (again (aN x4 x5 b6 (min x8 (IV.toInt (IV.cell (AI l26 (AF x28) default) 10))) (max x9 (IV.toInt (IV.cell (AI l26 (AF x28) default) 10))) l26 x27 (AA AB (x28+1)))) none) (k (.exit 0) (aN x4 x5 b6 x8 x9 l26 x27 x28))):=by kernel_rfl
theorem Wz (N:Nat) (x4 x5:Int) (b6:Bool) (x8 x9:Int) (l26:LI) (x27 x28:Int):(DS 0 (DT (QV N) (DL UG [1,1,1,1,1]) (DV (QV N) none [.tmp 4,.tmp 5,.tmp 6] [[.z],[.z],[.bool]]))) (.exit 0) (aN x4 x5 b6 x8 x9 l26 x27 x28)=(some ((.tup [.i x8,.i x9,.bool true]),[])):=by kernel_rfl
def G5 (N:Nat):Env:=D6 [(196,bE),(112,LB),(53,MP)] [(5,⟨[1,5,6,7,8,9,10,42,43,44],[5],[]⟩)] 69 N
abbrev NB (a2:Bx) (x1 x6 x7:Int) (b8:Bool) (x9 x10:Int) (l42:LI) (x43 x44:Int):St:=⟨[(1,(.i x1)),(5,(.ptr 5 0 0)),(6,(.i x6)),(7,(.i x7)),(8,(.bool b8)),(9,(.i x9)),(10,(.i x10)),(42,(.list true MX l42)),(43,(.i x43)),(44,(.i x44))],[(5,(some (.box (Bx.cs a2))))]⟩
theorem zc7 (N:Nat) (m:Md) (a1:Int) (a2:Bx):D1 (G5 N) IP [.tmp 6,.tmp 7,.tmp 8] [[.z],[.z],[.bool]] [(Md.V m),.i a1,(Bx.V a2)]=(cond (!E0 m) (some ((.tup [.i 0,.i 0,.bool false]),[])) (cond (decide (a1 < 0)) (some ((.tup [.i 0,.i 0,.bool false]),[])) (cond (decide (a1≥Md.c m)) (some ((.tup [.i 0,.i 0,.bool false]),[])) (cond (Bx.emp a2) (some ((.tup [.i 0,.i 0,.bool false]),[])) (cond (decide (a1=ic 0)) (cond (decide (a1=ic 0)) (D0 (G5 N) (DL IP [1,1,1,0,1,0,0]) ⟨[1,5,6,7,8,9,10,42,43,44],[5],[]⟩ N (NB a2 a1 0 0 false (Md.b0 m) (Md.b0 m) (Md.ts m) (ic (AG (Md.ts m))) 0) (DS 0 (DT (G5 N) (DL IP [1,1,1,1]) (DV (G5 N) none [.tmp 6,.tmp 7,.tmp 8] [[.z],[.z],[.bool]])))) (cond (decide (a1=ic 1)) (D0 (G5 N) (DL IP [1,1,1,0,1,0,0]) ⟨[1,5,6,7,8,9,10,42,43,44],[5],[]⟩ N (NB a2 a1 0 0 false (Md.b0 m) (Md.b1 m) (Md.ts m) (ic (AG (Md.ts m))) 0) (DS 0 (DT (G5 N) (DL IP [1,1,1,1]) (DV (G5 N) none [.tmp 6,.tmp 7,.tmp 8] [[.z],[.z],[.bool]])))) (cond (decide (a1=ic 2)) (D0 (G5 N) (DL IP [1,1,1,0,1,0,0]) ⟨[1,5,6,7,8,9,10,42,43,44],[5],[]⟩ N (NB a2 a1 0 0 false (Md.b0 m) (Md.b2 m) (Md.ts m) (ic (AG (Md.ts m))) 0) (DS 0 (DT (G5 N) (DL IP [1,1,1,1]) (DV (G5 N) none [.tmp 6,.tmp 7,.tmp 8] [[.z],[.z],[.bool]])))) none))) (cond (decide (a1=ic 1)) (cond (decide (a1=ic 0)) (D0 (G5 N) (DL IP [1,1,1,0,1,0,0]) ⟨[1,5,6,7,8,9,10,42,43,44],[5],[]⟩ N (NB a2 a1 0 0 false (Md.b1 m) (Md.b0 m) (Md.ts m) (ic (AG (Md.ts m))) 0) (DS 0 (DT (G5 N) (DL IP [1,1,1,1]) (DV (G5 N) none [.tmp 6,.tmp 7,.tmp 8] [[.z],[.z],[.bool]])))) (cond (decide (a1=ic 1)) (D0 (G5 N) (DL IP [1,1,1,0,1,0,0]) ⟨[1,5,6,7,8,9,10,42,43,44],[5],[]⟩ N (NB a2 a1 0 0 false (Md.b1 m) (Md.b1 m) (Md.ts m) (ic (AG (Md.ts m))) 0) (DS 0 (DT (G5 N) (DL IP [1,1,1,1]) (DV (G5 N) none [.tmp 6,.tmp 7,.tmp 8] [[.z],[.z],[.bool]])))) (cond (decide (a1=ic 2)) (D0 (G5 N) (DL IP [1,1,1,0,1,0,0]) ⟨[1,5,6,7,8,9,10,42,43,44],[5],[]⟩ N (NB a2 a1 0 0 false (Md.b1 m) (Md.b2 m) (Md.ts m) (ic (AG (Md.ts m))) 0) (DS 0 (DT (G5 N) (DL IP [1,1,1,1]) (DV (G5 N) none [.tmp 6,.tmp 7,.tmp 8] [[.z],[.z],[.bool]])))) none))) (cond (decide (a1=ic 2)) (cond (decide (a1=ic 0)) (D0 (G5 N) (DL IP [1,1,1,0,1,0,0]) ⟨[1,5,6,7,8,9,10,42,43,44],[5],[]⟩ N (NB a2 a1 0 0 false (Md.b2 m) (Md.b0 m) (Md.ts m) (ic (AG (Md.ts m))) 0) (DS 0 (DT (G5 N) (DL IP [1,1,1,1]) (DV (G5 N) none [.tmp 6,.tmp 7,.tmp 8] [[.z],[.z],[.bool]])))) (cond (decide (a1=ic 1)) (D0 (G5 N) (DL IP [1,1,1,0,1,0,0]) ⟨[1,5,6,7,8,9,10,42,43,44],[5],[]⟩ N (NB a2 a1 0 0 false (Md.b2 m) (Md.b1 m) (Md.ts m) (ic (AG (Md.ts m))) 0) (DS 0 (DT (G5 N) (DL IP [1,1,1,1]) (DV (G5 N) none [.tmp 6,.tmp 7,.tmp 8] [[.z],[.z],[.bool]])))) (cond (decide (a1=ic 2)) (D0 (G5 N) (DL IP [1,1,1,0,1,0,0]) ⟨[1,5,6,7,8,9,10,42,43,44],[5],[]⟩ N (NB a2 a1 0 0 false (Md.b2 m) (Md.b2 m) (Md.ts m) (ic (AG (Md.ts m))) 0) (DS 0 (DT (G5 N) (DL IP [1,1,1,1]) (DV (G5 N) none [.tmp 6,.tmp 7,.tmp 8] [[.z],[.z],[.bool]])))) none))) none))))))):=by kernel_rfl
theorem Lo (N:Nat) (a2:Bx) (x1 x6 x7:Int) (b8:Bool) (x9 x10:Int) (l42:LI) (x43 x44:Int) (again:St→DP) (k:Out→St→DP):FG (G5 N) (DL IP [1,1,1,0,1,0,0]) (NB a2 x1 x6 x7 b8 x9 x10 l42 x43 x44) (EW again ⟨[1,5,6,7,8,9,10,42,43,44],[5],[]⟩ k)=(cond (decide (x44 < x43)) (cond (decide (0≤x44)&&decide (x44 < ic (AG l42))) (cond (IV.toInt (IV.cell (AI l42 (AF x44) default) 0) != x1) (again (NB a2 x1 x6 x7 b8 x9 x10 l42 x43 (AA AB (x44+1)))) (again (NB a2 x1 x6 x7 b8 (AA AB (x9+H9 (IV.toList (IV.cell (AI l42 (AF x44) default) 1)) a2)) (AA AB (x10+H8 (IV.toList (IV.cell (AI l42 (AF x44) default) 1)) a2)) l42 x43 (AA AB (x44+1))))) none) (k (.exit 0) (NB a2 x1 x6 x7 b8 x9 x10 l42 x43 x44))):=by kernel_rfl
theorem Wy (N:Nat) (a2:Bx) (x1 x6 x7:Int) (b8:Bool) (x9 x10:Int) (l42:LI) (x43 x44:Int):(DS 0 (DT (G5 N) (DL IP [1,1,1,1]) (DV (G5 N) none [.tmp 6,.tmp 7,.tmp 8] [[.z],[.z],[.bool]]))) (.exit 0) (NB a2 x1 x6 x7 b8 x9 x10 l42 x43 x44)=(some ((.tup [.i x9,.i x10,.bool true]),[])):=by kernel_rfl
def QU (N:Nat):Env:=D6 [(162,SB)] [(6,⟨[1,3,5,6,7,8,11,12,33,34],[3,5],[]⟩)] 62 N
abbrev TM (m:Md) (b:Bx) (x1 x6:Int) (b7:Bool) (x8 x11:Int) (b12:Bool) (x33 x34:Int):St:=⟨[(1,(.i x1)),(3,(.ptr 3 0 0)),(5,(.ptr 5 0 0)),(6,(.i x6)),(7,(.bool b7)),(8,(.i x8)),(11,(.i x11)),(12,(.bool b12)),(33,(.i x33)),(34,(.i x34))],[(3,(some (.box (Md.cs m)))),(5,(some (.box (Bx.cs b))))]⟩
theorem zc6 (N:Nat) (m:Md) (u00:Int) (b:Bx):D1 (QU N) UF [.tmp 6,.tmp 7] [[.z],[.bool]] [(Md.V m),.i u00,(Bx.V b)]=(cond (!HA m u00 b) (some ((.tup [.i 0,.bool false]),[])) (cond (decide (Md.c m < 2)) (some ((.tup [.i 0,.bool false]),[])) (D0 (QU N) (DL UF [1,1,1,1,0,1,0,0]) ⟨[1,3,5,6,7,8,11,12,33,34],[3,5],[]⟩ N (TM m b u00 0 false (ED m u00 b) 0 false (Md.c m) 0) (DS 0 (DT (QU N) (DL UF [1,1,1,1,1]) (DV (QU N) none [.tmp 6,.tmp 7] [[.z],[.bool]])))))):=by kernel_rfl
theorem Ln (N:Nat) (m:Md) (b:Bx) (x1 x6:Int) (b7:Bool) (x8 x11:Int) (b12:Bool) (x33 x34:Int) (again:St→DP) (k:Out→St→DP):FG (QU N) (DL UF [1,1,1,1,0,1,0,0]) (TM m b x1 x6 b7 x8 x11 b12 x33 x34) (EW again ⟨[1,3,5,6,7,8,11,12,33,34],[3,5],[]⟩ k)=(cond (decide (x34 < x33)) (cond (x34==x1) (again (TM m b x1 x6 b7 x8 x11 b12 x33 (AA AB (x34+1)))) (cond (!b12) (again (TM m b x1 x6 b7 x8 (AA AB (x8 - EB m x34 b)) true x33 (AA AB (x34+1)))) (cond (decide (AA AB (x8 - EB m x34 b) < x11)) (again (TM m b x1 x6 b7 x8 (AA AB (x8 - EB m x34 b)) true x33 (AA AB (x34+1)))) (again (TM m b x1 x6 b7 x8 x11 b12 x33 (AA AB (x34+1))))))) (k (.exit 0) (TM m b x1 x6 b7 x8 x11 b12 x33 x34))):=by kernel_rfl
theorem Wx (N:Nat) (m:Md) (b:Bx) (x1 x6:Int) (b7:Bool) (x8 x11:Int) (b12:Bool) (x33 x34:Int):(DS 0 (DT (QU N) (DL UF [1,1,1,1,1]) (DV (QU N) none [.tmp 6,.tmp 7] [[.z],[.bool]]))) (.exit 0) (TM m b x1 x6 b7 x8 x11 b12 x33 x34)=(some ((.tup [.i x11,.bool true]),[])):=by kernel_rfl
def Qr (N:Nat):Env:=D6 [] [] 16 N
theorem zdD (N:Nat) (q:Qy):D1 (Qr N) xD [.tmp 2] [[.bool]] [(Qy.V q)]=(cond (Qy.k q==3) (cond (decide (Qy.ft q≥0)) (some ((.bool (decide (Qy.ft q < 4))),[])) (some ((.bool false),[]))) (some ((.bool false),[]))):=by kernel_rfl
def Qo (N:Nat):Env:=D6 [(197,PQ)] [] 10 N
theorem zdA (N:Nat) (q:Qy) (b:Bx):D1 (Qo N) xA [.cell 4 36] [[.z,.z,.z,.z,.z,.z,.z,.z,.z,.z]] [(Qy.V q),(Bx.V b)]=(cond (HC q) (some ((.agg [.i (Sp.lo (Bx.s0 b)),.i (Sp.hi (Bx.s0 b)),.i (Sp.lo (Bx.s1 b)),.i (Sp.hi (Bx.s1 b)),.i (Sp.lo (Bx.s2 b)),.i (Sp.hi (Bx.s2 b)),.i (Sp.lo (Bx.s3 b)),.i (Sp.hi (Bx.s3 b)),.i 0,.i 0]),[])) (some ((Bx.V b),[]))):=by kernel_rfl
def Qq (N:Nat):Env:=D6 [(197,PQ)] [] 15 N
theorem zdC (N:Nat) (q:Qy) (b:Bx):D1 (Qq N) xC [.cell 4 36] [[.z,.z,.z,.z,.z,.z,.z,.z,.z,.z]] [(Qy.V q),(Bx.V b)]=(cond (HC q) (cond (decide (Qy.ft q=ic 0)) (some ((.agg [.i (Sp.lo (Bx.s4 b)),.i (Sp.hi (Bx.s4 b)),.i (Sp.lo (Bx.s1 b)),.i (Sp.hi (Bx.s1 b)),.i (Sp.lo (Bx.s2 b)),.i (Sp.hi (Bx.s2 b)),.i (Sp.lo (Bx.s3 b)),.i (Sp.hi (Bx.s3 b)),.i 0,.i 0]),[])) (cond (decide (Qy.ft q=ic 1)) (some ((.agg [.i (Sp.lo (Bx.s0 b)),.i (Sp.hi (Bx.s0 b)),.i (Sp.lo (Bx.s4 b)),.i (Sp.hi (Bx.s4 b)),.i (Sp.lo (Bx.s2 b)),.i (Sp.hi (Bx.s2 b)),.i (Sp.lo (Bx.s3 b)),.i (Sp.hi (Bx.s3 b)),.i 0,.i 0]),[])) (cond (decide (Qy.ft q=ic 2)) (some ((.agg [.i (Sp.lo (Bx.s0 b)),.i (Sp.hi (Bx.s0 b)),.i (Sp.lo (Bx.s1 b)),.i (Sp.hi (Bx.s1 b)),.i (Sp.lo (Bx.s4 b)),.i (Sp.hi (Bx.s4 b)),.i (Sp.lo (Bx.s3 b)),.i (Sp.hi (Bx.s3 b)),.i 0,.i 0]),[])) (cond (decide (Qy.ft q=ic 3)) (some ((.agg [.i (Sp.lo (Bx.s0 b)),.i (Sp.hi (Bx.s0 b)),.i (Sp.lo (Bx.s1 b)),.i (Sp.hi (Bx.s1 b)),.i (Sp.lo (Bx.s2 b)),.i (Sp.hi (Bx.s2 b)),.i (Sp.lo (Bx.s4 b)),.i (Sp.hi (Bx.s4 b)),.i 0,.i 0]),[])) (cond (decide (Qy.ft q=ic 4)) (some ((.agg [.i (Sp.lo (Bx.s0 b)),.i (Sp.hi (Bx.s0 b)),.i (Sp.lo (Bx.s1 b)),.i (Sp.hi (Bx.s1 b)),.i (Sp.lo (Bx.s2 b)),.i (Sp.hi (Bx.s2 b)),.i (Sp.lo (Bx.s3 b)),.i (Sp.hi (Bx.s3 b)),.i 0,.i 0]),[])) none))))) (some ((Bx.V b),[]))):=by kernel_rfl
def Qp (N:Nat):Env:=D6 [(112,LB),(197,PQ)] [] 23 N
theorem zdB (N:Nat) (q:Qy) (b:Bx):D1 (Qp N) xB [.tmp 4] [[.bool]] [(Qy.V q),(Bx.V b)]=(cond (HC q) (cond (!Bx.emp b) (cond (decide (Qy.ft q=ic 0)) (some ((.bool (decide (Sp.lo (Bx.s0 b) < Sp.hi (Bx.s4 b)))),[])) (cond (decide (Qy.ft q=ic 1)) (some ((.bool (decide (Sp.lo (Bx.s1 b) < Sp.hi (Bx.s4 b)))),[])) (cond (decide (Qy.ft q=ic 2)) (some ((.bool (decide (Sp.lo (Bx.s2 b) < Sp.hi (Bx.s4 b)))),[])) (cond (decide (Qy.ft q=ic 3)) (some ((.bool (decide (Sp.lo (Bx.s3 b) < Sp.hi (Bx.s4 b)))),[])) (cond (decide (Qy.ft q=ic 4)) (some ((.bool (decide (Sp.lo (Bx.s4 b) < Sp.hi (Bx.s4 b)))),[])) none))))) (some ((.bool false),[]))) (some ((.bool false),[]))):=by kernel_rfl
def Qn (N:Nat):Env:=D6 [(162,SB),(198,cA),(199,cC),(197,PQ)] [] 54 N
theorem zdz (N:Nat) (m:Md) (q:Qy) (b:Bx):D1 (Qn N) w9 [.tmp 6,.tmp 7,.tmp 8] [[.z],[.z],[.bool]] [(Md.V m),(Qy.V q),(Bx.V b)]=(cond (!HC q) (some ((.tup [.i 0,.i 0,.bool false]),[])) (cond (!HA m (Qy.c q) (J4 q b)) (some ((.tup [.i 0,.i 0,.bool false]),[])) (cond (!HA m (Qy.c q) (KB q b)) (some ((.tup [.i 0,.i 0,.bool false]),[])) (some ((.tup [.i (AA AB (ED m (Qy.c q) (KB q b) - EB m (Qy.c q) (J4 q b))),.i (AA AB (EB m (Qy.c q) (KB q b) - ED m (Qy.c q) (J4 q b))),.bool true]),[]))))):=by kernel_rfl
def Qz (N:Nat):Env:=D6 [(163,bD),(162,SB),(112,LB),(165,bZ),(164,cB),(65,MR)] [] 86 N
theorem zdL (N:Nat) (m:Md) (a1:Qy) (a2:Bx):D1 (Qz N) xK [.tmp 6] [[.bool]] [(Md.V m),(Qy.V a1),(Bx.V a2)]=(cond (!FB m a1) (some ((.bool false),[])) (cond (Bx.emp a2) (some ((.bool true),[])) (cond (Qy.k a1==1) (cond (HA m (Qy.c a1) a2) (cond (decide (Qy.lo a1≤ED m (Qy.c a1) a2)) (some ((.bool (decide (EB m (Qy.c a1) a2≤Qy.hi a1))),[])) (some ((.bool false),[]))) (some ((.bool false),[]))) (cond (Qy.k a1==2) (cond (NR m (Qy.c a1) a2) (some ((.bool (decide (UW m (Qy.c a1) a2 > 0))),[])) (some ((.bool false),[]))) (cond (!P7 a1 a2) (some ((.bool true),[])) (cond (Qy.fl a1) (cond (LC m a1 a2) (some ((.bool (decide (SQ m a1 a2≤0))),[])) (some ((.bool false),[]))) (cond (LC m a1 a2) (some ((.bool (decide (SR m a1 a2≥0))),[])) (some ((.bool false),[]))))))))):=by kernel_rfl
def Ra (N:Nat):Env:=D6 [(81,bH)] [] 9 N
theorem zdM (N:Nat) (b:Bx):D1 (Ra N) xL [.cell 2 53,.tmp 3] [[.z,.z,.z,.z],[.z]] [(Bx.V b)]=(some ((.tup [(Pt.V (Bx.low b)),.i (Sp.hi (Bx.s4 b))]),[])):=by kernel_rfl
def OR (N:Nat):Env:=D6 [(126,cH)] [(2,⟨[3,4,5,6,7,8,11],[3,4,5],[]⟩)] 31 N
abbrev VU (m:Md) (q:Qy) (b:Bx) (x6 x7:Int) (b8:Bool) (x11:Int):St:=⟨[(3,(.ptr 3 0 0)),(4,(.ptr 4 0 0)),(5,(.ptr 5 0 0)),(6,(.i x6)),(7,(.i x7)),(8,(.bool b8)),(11,(.i x11))],[(3,(some (.box (Md.cs m)))),(4,(some (.box (Qy.cs q)))),(5,(some (.box (Bx.cs b))))]⟩
theorem zdN (N:Nat) (m:Md) (q:Qy) (b:Bx):D1 (OR N) SN [.tmp 6,.tmp 7,.tmp 8] [[.z],[.z],[.bool]] [(Md.V m),(Qy.V q),(Bx.V b)]=(D0 (OR N) (DL SN [1,0,1,0,0]) ⟨[3,4,5,6,7,8,11],[3,4,5],[]⟩ N (VU m q b 0 0 false 0) (DS 0 (DT (OR N) (DL SN [1,1]) (DV (OR N) none [.tmp 6,.tmp 7,.tmp 8] [[.z],[.z],[.bool]])))):=by kernel_rfl
theorem Mg (N:Nat) (m:Md) (q:Qy) (b:Bx) (x6 x7:Int) (b8:Bool) (x11:Int) (again:St→DP) (k:Out→St→DP):FG (OR N) (DL SN [1,0,1,0,0]) (VU m q b x6 x7 b8 x11) (EW again ⟨[3,4,5,6,7,8,11],[3,4,5],[]⟩ k)=(cond (decide (x11 < 5)) (cond (E0 m&&H6 x11) (cond (decide (ic (AG (iZ (FF m q b (AF x11)))) > 0)) (cond (decide (0≤AA AB (Int.tdiv (AA AB (ic (AG (iZ (FF m q b (AF x11)))) - 1)) 2))&&decide (AA AB (Int.tdiv (AA AB (ic (AG (iZ (FF m q b (AF x11)))) - 1)) 2) < ic (AG (iZ (FF m q b (AF x11)))))) (k .ret (VU m q b x11 (IV.toInt (AI (iZ (FF m q b (AF x11))) (AF (AA AB (Int.tdiv (AA AB (ic (AG (iZ (FF m q b (AF x11)))) - 1)) 2))) default)) true x11)) none) (again (VU m q b x6 x7 b8 (AA AB (x11+1))))) none) (k (.exit 0) (VU m q b x6 x7 b8 x11))):=by kernel_rfl
theorem Xv (N:Nat) (m:Md) (q:Qy) (b:Bx) (x6 x7:Int) (b8:Bool) (x11:Int):(DS 0 (DT (OR N) (DL SN [1,1]) (DV (OR N) none [.tmp 6,.tmp 7,.tmp 8] [[.z],[.z],[.bool]]))) (.exit 0) (VU m q b x6 x7 b8 x11)=(some ((.tup [.i 0,.i 0,.bool false]),[])):=by kernel_rfl
theorem Xw (N:Nat) (m:Md) (q:Qy) (b:Bx) (x6 x7:Int) (b8:Bool) (x11:Int):(DS 0 (DT (OR N) (DL SN [1,1]) (DV (OR N) none [.tmp 6,.tmp 7,.tmp 8] [[.z],[.z],[.bool]]))) .ret (VU m q b x6 x7 b8 x11)=(some ((.tup [.i x6,.i x7,.bool b8]),[])):=by kernel_rfl
open Go Go.Proofs
set_option maxRecDepth 100000
theorem Bj {i:Int} (h:H6 i=true):i=0∨i=1∨i=2∨i=3∨i=4:=by
 unfold H6 at h;simp only [AH,AQ] at h;omega
theorem Ke:DY PR B0 194 WL:=by
 refine D7 [] [] WL [[.z,.z]] Tryz.func194 zbE trivial ?_;intro vs r hwf h;unfold WL at h;split at h
 ·rw [R.get_ok] at h;exact ⟨0,(zer 0).trans h⟩
 ·simp [R.get] at h
theorem zh2:DY PR B0 193 dI:=by
 refine D7 [(194,WL)] [] dI [[.z,.z]] Tryz.func193 zbF ⟨Ke,trivial⟩ ?_;intro vs r hwf h;unfold dI at h;split at h
 ·rename_i lo hi;rw [R.get_ok] at h;refine ⟨0,?_⟩;rw [← h];refine (zes 0 lo hi).trans ?_;unfold M7;cases decide (lo > hi) <;> rfl
 ·simp [R.get] at h
theorem Kb:DY PR B0 155 WJ:=by
 refine D7 [] [] WJ [[.bool]] Tryz.func155 zbC trivial ?_;intro vs r hwf h;unfold WJ at h;split at h
 ·rename_i s;replace h:=uJ h;obtain ⟨s,rfl,h⟩:=h;rw [R.get_ok] at h;exact ⟨0,(zep 0 s).trans h⟩
 ·simp [R.get] at h
theorem Kc:DY PR B0 114 WK:=by
 refine D7 [] [] WK [[.bool]] Tryz.func114 zbD trivial ?_;intro vs r hwf h;unfold WK at h;split at h
 ·rename_i s n;replace h:=uJ h;obtain ⟨s,rfl,h⟩:=h;rw [R.get_ok] at h;refine ⟨0,?_⟩;rw [← h];refine (zeq 0 s n).trans ?_;unfold Sp.has;cases decide (s.lo≤n) <;> rfl
 ·simp [R.get] at h
theorem zh1:DY PR B0 157 g9:=by
 refine D7 [(194,WL),(193,dI)] [] g9 [[.z,.z],[.z,.z]] Tryz.func157 zbB ⟨Ke,zh2,trivial⟩ ?_;intro vs r hwf h;unfold g9 at h;split at h
 ·rename_i s n;replace h:=uJ h;obtain ⟨s,rfl,h⟩:=h;rw [R.get_ok] at h;refine ⟨0,?_⟩;rw [← h];refine (zeo 0 s n).trans ?_;unfold Sp.cutH;cases decide (n≥s.hi) <;> rfl
 ·simp [R.get] at h
theorem zgy (b:Bx):D1 (Px 6) wL [.tmp 2] [[.bool]] [b.V] =
 cond b.s0.emp (some (.bool true,[])) (cond b.s1.emp (some (.bool true,[])) (cond b.s2.emp (some (.bool true,[])) (cond b.s3.emp (some (.bool true,[])) (cond b.s4.emp (some (.bool true,[])) (some (.bool false,[])))))):=by kernel_rfl
theorem XZ:DY PR B0 112 LB:=by
 refine D7 [(155,WJ)] [(2,⟨[2,5,6],[],[]⟩)] LB [[.bool]] Tryz.func112 zal ⟨Kb,trivial⟩ ?_;intro vs r hwf h;unfold LB at h;split at h
 ·rename_i b;replace h:=JY h;obtain ⟨b,rfl,h⟩:=h;rw [R.get_ok] at h;refine ⟨6,?_⟩;rw [← h];refine (zgy b).trans ?_;unfold Bx.emp;cases b.s0.emp <;> cases b.s1.emp <;> cases b.s2.emp <;> cases b.s3.emp <;> cases b.s4.emp <;> rfl
 ·simp [R.get] at h
theorem zgz (b:Bx):D1 (Pz 5) wN [.cell 2 53] [[.z,.z,.z,.z]] [b.V]=some (b.low.V,[]):=by kernel_rfl
theorem zg3:DY PR B0 81 bH:=by
 refine D7 [] [(3,⟨[1,2,3,5],[1,2,3],[]⟩)] bH [[.z,.z,.z,.z]] Tryz.func81 zan trivial ?_;intro vs r hwf h;unfold bH at h;split at h
 ·rename_i b;replace h:=JY h;obtain ⟨b,rfl,h⟩:=h;rw [R.get_ok] at h;exact ⟨5,(zgz b).trans h⟩
 ·simp [R.get] at h
theorem k9:DY PR B0 111 PP:=by
 refine D7 [(157,g9)] [] PP [[.z,.z,.z,.z,.z,.z,.z,.z,.z,.z],[.z,.z,.z,.z,.z,.z,.z,.z,.z,.z]] Tryz.func111 zak ⟨zh1,trivial⟩ ?_;intro vs r hwf h;unfold PP at h;split at h
 ·rename_i b i a;replace h:=JY h;obtain ⟨b,rfl,h⟩:=h;cases hg:(H6 i) with
  | false=>rw [hg] at h; simp [R.get] at h
  | true=>
  rw [hg,R.get_br,DJ,R.get_ok] at h;refine ⟨0,?_⟩;rw [← h];rcases Bj hg with rfl | rfl | rfl | rfl | rfl <;> kernel_rfl
 ·simp [R.get] at h
theorem Ka:DY PR B0 109 WI:=by
 refine D7 [] [] WI [[.bool]] Tryz.func109 zbs trivial ?_;intro vs r hwf h;unfold WI at h;split at h
 ·rename_i q;replace h:=KU h;obtain ⟨q,rfl,h⟩:=h;rw [R.get_ok] at h;refine ⟨0,?_⟩;rw [← h];refine (zec 0 q).trans ?_;unfold HC;cases (q.k==3) <;> cases decide (q.ft≥0) <;> rfl
 ·simp [R.get] at h
theorem lA:DY PR B0 197 PQ:=by
 refine D7 [] [] PQ [[.bool]] Tryz.func197 zaT trivial ?_;intro vs r hwf h;unfold PQ at h;split at h
 ·rename_i q;replace h:=KU h;obtain ⟨q,rfl,h⟩:=h;rw [R.get_ok] at h;refine ⟨0,?_⟩;rw [← h];refine (zdD 0 q).trans ?_;unfold HC;cases (q.k==3) <;> cases decide (q.ft≥0) <;> rfl
 ·simp [R.get] at h
theorem RN {q:Qy} (h:HC q=true):q.ft=0∨q.ft=1∨q.ft=2∨q.ft=3:=by
 unfold HC at h;simp only [AH,AQ] at h;omega
theorem zhq:DY PR B0 198 cA:=by
 refine D7 [(197,PQ)] [] cA [[.z,.z,.z,.z,.z,.z,.z,.z,.z,.z]] Tryz.func198 zaQ ⟨lA,trivial⟩ ?_;intro vs r hwf h;unfold cA at h;split at h
 ·rename_i q b;replace h:=KU h;obtain ⟨q,rfl,h⟩:=h;replace h:=JY h;obtain ⟨b,rfl,h⟩:=h;rw [R.get_ok] at h;refine ⟨0,?_⟩;rw [← h];refine (zdA 0 q b).trans ?_;unfold J4;cases HC q <;> rfl
 ·simp [R.get] at h
theorem zhs:DY PR B0 199 cC:=by
 refine D7 [(197,PQ)] [] cC [[.z,.z,.z,.z,.z,.z,.z,.z,.z,.z]] Tryz.func199 zaS ⟨lA,trivial⟩ ?_;intro vs r hwf h;unfold cC at h;split at h
 ·rename_i q b;replace h:=KU h;obtain ⟨q,rfl,h⟩:=h;replace h:=JY h;obtain ⟨b,rfl,h⟩:=h;rw [R.get_ok] at h;refine ⟨0,?_⟩;rw [← h];refine (zdC 0 q b).trans ?_;unfold KB;cases hp:HC q with
  | false=>rfl
  | true=>rcases RN hp with e | e | e | e <;> rw [e] <;> rfl
 ·simp [R.get] at h
theorem zhr:DY PR B0 164 cB:=by
 refine D7 [(112,LB),(197,PQ)] [] cB [[.bool]] Tryz.func164 zaR ⟨XZ,lA,trivial⟩ ?_;intro vs r hwf h;unfold cB at h;split at h
 ·rename_i q b;replace h:=KU h;obtain ⟨q,rfl,h⟩:=h;replace h:=JY h;obtain ⟨b,rfl,h⟩:=h;rw [R.get_ok] at h;refine ⟨0,?_⟩;rw [← h];refine (zdB 0 q b).trans ?_;unfold P7;cases hp:HC q with
  | false=>rfl
  | true=>cases b.emp <;> rcases RN hp with e | e | e | e <;> rw [e] <;> rfl
 ·simp [R.get] at h
theorem Jz:DY PR B0 66 WH:=by
 refine D7 [(109,WI)] [] WH [[.z,.z,.z,.z,.z,.z,.z,.z,.z,.z]] Tryz.func66 zbq ⟨Ka,trivial⟩ ?_;intro vs r hwf h;unfold WH at h;split at h
 ·rename_i q;replace h:=KU h;obtain ⟨q,rfl,h⟩:=h;rw [R.get_ok] at h;refine ⟨0,?_⟩;rw [← h];refine (zea 0 q).trans ?_;unfold GR;cases hp:HC q with
  | false=>rfl
  | true=>rcases RN hp with e | e | e | e <;> rw [e] <;> rfl
 ·simp [R.get] at h
theorem zhP:DY PR B0 116 cX:=by
 refine D7 [(109,WI)] [] cX [[.z,.z,.z,.z]] Tryz.func116 zbp ⟨Ka,trivial⟩ ?_;intro vs r hwf h;unfold cX at h;split at h
 ·rename_i q p t;replace h:=KU h;obtain ⟨q,rfl,h⟩:=h;replace h:=YH h;obtain ⟨p,rfl,h⟩:=h;rw [R.get_ok] at h;refine ⟨0,?_⟩;rw [← h];refine (zd9 0 q p t).trans ?_;unfold JG;cases hp:HC q with
  | false=>rfl
  | true=>rcases RN hp with e | e | e | e <;> rw [e] <;> rfl
 ·simp [R.get] at h
def XS (d i:Int) (s:Sp) (rest:DP):DP:=
 cond (decide (i≥d)) (cond (!((s.lo==0)&&((s.hi==0)&&true))) (some (.bool false,[])) (cond s.emp (some (.bool false,[])) (cond (!(E5 s.lo)) (some (.bool false,[])) (cond (!(E5 s.hi)) (some (.bool false,[])) rest))))
  (cond s.emp (some (.bool false,[])) (cond (!(E5 s.lo)) (some (.bool false,[])) (cond (!(E5 s.hi)) (some (.bool false,[])) rest)))
theorem f9 (d i:Int) (s:Sp) (rest:DP):XS d i s rest=cond (K8 d i s) rest (some (.bool false,[])):=by
 unfold XS K8;rw [B9];cases decide (i≥d) <;> cases ((s.lo==0)&&(s.hi==0)) <;> cases s.emp <;> cases E5 s.lo <;> cases E5 s.hi <;> rfl
theorem zgB (b:Bx) (d:Int):D1 (Ru 6) yD [.tmp 4] [[.bool]] [b.V,.int .i64 d]=XS d 0 b.s0 (XS d 1 b.s1 (XS d 2 b.s2 (XS d 3 b.s3 (XS d 4 b.s4 (some (.bool true,[])))))):=by kernel_rfl
theorem zhR:DY PR B0 107 cZ:=by
 refine D7 [(93,R9),(155,WJ)] [(2,⟨[1,4,7,8],[],[]⟩)] cZ [[.bool]] Tryz.func107 zbt ⟨sL,Kb,trivial⟩ ?_;intro vs r hwf h;unfold cZ at h;split at h
 ·rename_i b d;replace h:=JY h;obtain ⟨b,rfl,h⟩:=h;rw [R.get_ok] at h;refine ⟨6,?_⟩;rw [← h];refine (zgB b d).trans ?_;rw [f9,f9,f9,f9,f9];unfold P9;cases K8 d 0 b.s0 <;> cases K8 d 1 b.s1 <;> cases K8 d 2 b.s2 <;> cases K8 d 3 b.s3 <;> cases K8 d 4 b.s4 <;> rfl
 ·simp [R.get] at h
theorem zhQ:DY PR B0 108 cY:=by
 refine D7 [] [] cY [[.bool]] Tryz.func108 zbr trivial ?_;intro vs r hwf h;unfold cY at h;split at h
 ·rename_i m q;replace h:=JZ h;obtain ⟨m,rfl,h⟩:=h;replace h:=KU h;obtain ⟨q,rfl,h⟩:=h;rw [R.get_ok] at h;refine ⟨0,?_⟩;rw [← h];refine (zeb 0 m q).trans ?_;unfold RA;cases (q.k==1) <;> cases (q.k==2) <;> cases (q.k==3) <;> cases decide (q.lo≤q.hi) <;> cases (q.ft==0) <;> cases decide (m.c≥2) <;> cases (q.lo==0) <;> cases (q.hi==0) <;> cases decide (q.ft≥0) <;> cases decide (q.ft < m.d) <;> rfl
 ·simp [R.get] at h
theorem aB:DY PR B0 65 MR:=by
 refine D7 [(53,MP),(108,cY),(107,cZ)] [] MR [[.bool]] Tryz.func65 zbo ⟨Z9,zhQ,zhR,trivial⟩ ?_;intro vs r hwf h;unfold MR at h;split at h
 ·rename_i m q;replace h:=JZ h;obtain ⟨m,rfl,h⟩:=h;replace h:=KU h;obtain ⟨q,rfl,h⟩:=h;rw [R.get_ok] at h;refine ⟨0,?_⟩;rw [← h];refine (zd8 0 m q).trans ?_;unfold FB Qy.bx;generalize P9 _ _=rg;cases E0 m <;> cases decide (q.c≥0) <;> cases decide (q.c < m.c) <;> cases decide (q.bu≥0) <;> cases decide (q.bu≤65536) <;> cases rg <;> rfl
 ·simp [R.get] at h
theorem p8 {w:Int} (hb:GK w=true) (hl:(DM w).lf=false):(0≤(DM w).f∧(DM w).f < 4)∧(1≤(DM w).l∧(DM w).l < 31)∧(1≤(DM w).r∧(DM w).r < 31)∧E5 (DM w).a=true:=by
 have h:=(kF hb).2;unfold M5 at h;rw [hl,DK] at h;unfold Q4 at h;simp only [AH,AQ] at h;exact ⟨⟨h.2.1,h.2.2.1⟩,h.2.2.2.2.1,h.2.2.2.2.2,h.2.2.2.1⟩
theorem Ef (w:Int):E5 (DM w).v=true:=by
 cases hb:GK w with
 | false=>
  have e:DM w=Nd.zero:=by unfold DM; rw [hb]; rfl
  rw [e];rfl
 | true=>
  have h:=(kF hb).2;unfold M5 at h;cases hl:(DM w).lf with
  | true=>
   rw [hl,DJ,AH] at h;exact h.2
  | false=>
   rw [hl,DK,AH,B8] at h;rw [h.1];rfl
abbrev uP (l:LI) (p:Pt) (a j:Int):St:=
 ⟨[(0,(.list false [(.int .u64)] l)),(3,(.ptr 3 0 0)),(4,(.int .i64 0)),(5,(.ptr 5 0 0)),(6,(.int .i64 a)),(9,(.int .i64 j))],[(3,(some (.box (Pt.cs p)))),(5,(some (.box [(.bool false),(.int .i64 0),(.int .i64 0),(.int .i64 0),(.int .i64 0),(.int .i64 0)])))]⟩
theorem nZ (N:Nat) (l:LI) (p:Pt):∀ (m j n:Nat) (a:Int),0≤a→j+m=31→m < n →
  D0 (KV N) (DL N8 [1,1,0,1,0,0]) ⟨[0,3,4,5,6,9],[3,5],[]⟩ n (uP l p a (j:Int)) (DS 0 (DT (KV N) (DL N8 [1,1,1]) (DV (KV N) none [(CF 4),(va5 5 111)] [[.z],[.bool,.z,.z,.z,.z,.z]]))) =
   some (.tup [.int .i64 (IR l p m a).1,(IR l p m a).2.V],[])
 | m,j,0,a,_,_,h=>absurd h (by omega)
 | 0,j,n+1,a,ha,hd,_=>by
  have hj:j=31:=by omega
  subst hj;rw [EA,Mw,AL (show ¬ ((31:Nat):Int) < 31 by omega),DK];exact Ai N p l _ _ _ _ _ _ _ _ _
 | m+1,j,n+1,a,ha,hd,hn=>by
  have ej:AA AB ((j:Int)+1)=((j+1:Nat):Int):=HR (by omega);rw [EA,Mw,AE (show (j:Int) < 31 by omega),DJ,IR,ej];cases hge:decide (a≥ic l.length) with
  | true=>
   rw [DJ,DJ];exact Ai N p l _ _ _ _ _ _ _ _ _
  | false=>
   have hge:=BG hge;rw [DK,DK,AE ha,AE (show a < ic l.length by omega),B3,DJ];generalize (l.getD a.toNat default).toInt=w;cases hb:GK w with
   | false=>
    rw [A6,DJ,DJ];exact Yx N p l _ _ _ _ _ _ _ _ _
   | true=>
    rw [A2,DK,DK];cases hl:(DM w).lf with
    | true=>
     rw [DJ,DJ];rfl
    | false=>
     obtain ⟨⟨f0,f4⟩,⟨l1,l31⟩,⟨r1,r31⟩,_⟩:=p8 hb hl;rw [DK,DK];have step:∀ c:Bool,(cond c (D0 (KV N) (DL N8 [1,1,0,1,0,0]) ⟨[0,3,4,5,6,9],[3,5],[]⟩ n (uP l p (DM w).l ((j+1:Nat):Int)) (DS 0 (DT (KV N) (DL N8 [1,1,1]) (DV (KV N) none [(CF 4),(va5 5 111)] [[.z],[.bool,.z,.z,.z,.z,.z]]))))
       (D0 (KV N) (DL N8 [1,1,0,1,0,0]) ⟨[0,3,4,5,6,9],[3,5],[]⟩ n (uP l p (DM w).r ((j+1:Nat):Int)) (DS 0 (DT (KV N) (DL N8 [1,1,1]) (DV (KV N) none [(CF 4),(va5 5 111)] [[.z],[.bool,.z,.z,.z,.z,.z]]))))) =
       some (.tup [.int .i64 (cond c (IR l p m (DM w).l) (IR l p m (DM w).r)).1,(cond c (IR l p m (DM w).l) (IR l p m (DM w).r)).2.V],[]):=fun c=>by
      cases c with
      | true=>exact nZ N l p m (j+1) n (DM w).l (by omega) (by omega) (by omega)
      | false=>exact nZ N l p m (j+1) n (DM w).r (by omega) (by omega) (by omega)
     obtain e | e | e | e:(DM w).f=0∨(DM w).f=1∨(DM w).f=2∨(DM w).f=3:=by omega
     all_goals
      rw [e];exact step _
theorem zia:DY PR B0 217 dM:=by
 refine D7 [(55,MQ)] [(3,⟨[0,3,4,5,6,9],[3,5],[]⟩)] dM [[.z],[.bool,.z,.z,.z,.z,.z]] Tryz.func217 zbR ⟨aA,trivial⟩ ?_;intro vs r hwf h;unfold dM at h;split at h
 ·rename_i l p;replace h:=YH h;obtain ⟨p,rfl,h⟩:=h;rw [R.get_ok] at h;refine ⟨32,?_⟩;rw [← h];exact (zeE 32 l p).trans (nZ 32 l p 31 0 32 0 (by omega) rfl (by omega))
 ·simp [R.get] at h
theorem zh9:DY PR B0 195 dL:=by
 refine D7 [(217,dM)] [] dL [[.z]] Tryz.func195 zbQ ⟨zia,trivial⟩ ?_;intro vs r hwf h;unfold dL at h;split at h
 ·rename_i l p;replace h:=YH h;obtain ⟨p,rfl,h⟩:=h;rw [R.get_ok] at h;exact ⟨0,(zeD 0 l p).trans h⟩
 ·simp [R.get] at h
theorem NK {n:Int} (h:E5 n=true) : -2147483648≤n∧n≤2147483647:=by
 unfold E5 at h;simpa only [AH,AQ] using h
theorem nY (l:LI) (p:Pt):∀ (n:Nat) (a:Int),E5 (IR l p n a).2.v=true
 | 0,_=>rfl
 | n+1,a=>by
  rw [IR];cases decide (a≥ic l.length) with
  | true=>rfl
  | false=>
   rw [DK];generalize (l.getD a.toNat default).toInt=w;cases GK w with
   | false=>rfl
   | true=>
    rw [A2,DK];cases (DM w).lf with
    | true=>exact Ef w
    | false=>
     rw [DK];cases decide (p.g (DM w).f.toNat≤(DM w).a) with
     | true=>exact nY l p n _
     | false=>exact nY l p n _
theorem zi8 (l:LI) (p:Pt) : -2147483648≤HE l p∧HE l p≤2147483647:=NK (nY l p 31 0)
theorem MD {m:Md} (h:E0 m=true):(1≤m.d∧m.d≤4)∧(1≤m.c∧m.c≤3)∧m.ts.length≤8∧(E5 m.b0=true∧E5 m.b1=true∧E5 m.b2=true)∧m.ts.all (HM m.d m.c)=true:=by
 unfold E0 HU at h;simp only [AH,B1,BO] at h;obtain ⟨⟨h1,h2,h3,h4,h5⟩,⟨h6,h7,h8⟩,h9⟩:=h;exact ⟨⟨by omega,by omega⟩,⟨by omega,by omega⟩,AO h5,⟨h6.1,h7.1,h8.1⟩,h9⟩
theorem y5 {m:Md} {k:Int} (h:IC m k=true):0≤k∧k < m.c:=by
 unfold IC at h;simpa only [AH,AQ] using h
theorem nH {m:Md} {k:Int} (hm:E0 m=true) (h:IC m k=true):k=0∨k=1∨k=2:=by
 have:=y5 h
 have:=(MD hm).2.1
 omega
theorem iJ {m:Md} (hm:E0 m=true) (k:Int) : -2147483648≤L0 m k∧L0 m k≤2147483647:=by
 obtain ⟨h0,h1,h2⟩:=(MD hm).2.2.2.1;unfold L0;cases (k==0) with
 | true=>exact NK h0
 | false=>
  cases (k==1) with
  | true=>exact NK h1
  | false=>exact NK h2
abbrev zjx (ts:LI) (p:Pt) (k s i:Int):St:=
 ⟨[(1,(.int .i64 k)),(5,(.ptr 5 0 0)),(6,(.int .i64 0)),(7,(.int .i64 s)),(15,(.list true [.z,(.list false [(.int .u64)])] ts)),(16,(.int .i64 (ic (AG ts)))),(17,(.int .i64 i))],[(5,(some (.box (Pt.cs p))))]⟩
theorem oC (N:Nat) (ts:LI) (p:Pt) (k:Int) (hts:ts.length≤8):∀ (m i n:Nat) (s:Int),i+m=ts.length→m < n → -2147483648*(i+1)≤s∧s≤2147483648*(i+1) →
  D0 (LW N) (DL OX [1,1,0,1,0,0]) ⟨[1,5,6,7,15,16,17],[5],[]⟩ n (zjx ts p k s (i:Int)) (DS 0 (DT (LW N) (DL OX [1,1,1]) (DV (LW N) none [(CF 6)] [[.z]]))) =
   some (.int .i64 (P1 k p (ts.drop i) s),[])
 | m,i,0,s,_,h,_=>absurd h (by omega)
 | 0,i,n+1,s,hd,_,_=>by
  have hi:i=ts.length:=by omega
  subst hi;rw [EA,Ml,J5 (AX _),DK,vaB];exact Yc N p _ _ _ _ _ _
 | m+1,i,n+1,s,hd,hn,hs=>by
  have hi:i < ts.length:=by omega
  have ei:AA AB ((i:Int)+1)=((i+1:Nat):Int):=HR (by omega);rw [EA,Ml,ei,IK hi,DJ,JP,B3,DJ,JB hi,BF hi,P1];have hv:=zi8 (FH ts[i]) p;cases hc:((ts[i].cell 0).toInt==k) with
  | true=>
   rw [DJ,DJ];have ew:AA AB (s+HE (FH ts[i]) p)=s+HE (FH ts[i]) p:=EO (by omega) (by omega);have ih:=oC N ts p k hts m (i+1) n (s+HE (FH ts[i]) p) (by omega) (by omega) (by omega);rw [← ew] at ih;refine Eq.trans ih ?_;rw [ew]
  | false=>
   rw [DK,DK];exact oC N ts p k hts m (i+1) n s (by omega) (by omega) (by omega)
theorem zhH:DY PR B0 159 cP:=by
 refine D7 [(195,dL)] [(3,⟨[1,5,6,7,15,16,17],[5],[]⟩)] cP [[.z]] Tryz.func159 zbd ⟨zh9,trivial⟩ ?_;intro vs r hwf h;unfold cP at h;split at h
 ·rename_i m k p;replace h:=JZ h;obtain ⟨m,rfl,h⟩:=h;replace h:=YH h;obtain ⟨p,rfl,h⟩:=h;cases hg:(E0 m&&IC m k) with
  | false=>rw [hg] at h; simp [R.get] at h
  | true=>
  rw [hg,R.get_br,DJ,R.get_ok] at h;rw [AH] at hg;have hb:=iJ hg.1 k;have run:=oC 10 m.ts p k (MD hg.1).2.2.1 m.ts.length 0 10 (L0 m k) (by omega) (by have:=(MD hg.1).2.2.1; omega) (by omega);refine ⟨10,?_⟩;rw [← h];refine (zdX 10 m k p).trans ?_;rcases nH hg.1 hg.2 with rfl | rfl | rfl <;> exact run
 ·simp [R.get] at h
theorem zhF:DY PR B0 115 cN:=by
 refine D7 [(53,MP),(159,cP)] [] cN [[.z]] Tryz.func115 za9 ⟨Z9,zhH,trivial⟩ ?_;intro vs r hwf h;unfold cN at h;split at h
 ·rename_i m k p;replace h:=JZ h;obtain ⟨m,rfl,h⟩:=h;replace h:=YH h;obtain ⟨p,rfl,h⟩:=h;rw [R.get_ok] at h;refine ⟨0,?_⟩;rw [← h];refine (zdT 0 m k p).trans ?_;unfold EU IC;cases E0 m with
  | false=>rfl
  | true=>
   cases h0:decide (k < 0) with
   | true=>rw [AL (show ¬ 0≤k by have:=A1 h0; omega)]; rfl
   | false=>
    rw [AE (show 0≤k by have:=BG h0; omega)];cases h1:decide (k≥m.c) with
    | true=>rw [AL (show ¬ k < m.c by have:=A1 h1; omega)]; rfl
    | false=>rw [AE (show k < m.c by have:=BG h1; omega)]; rfl
 ·simp [R.get] at h
abbrev zjq (m:Md) (q:Qy) (p:Pt) (own i:Int):St:=
 ⟨[(4,(.ptr 4 0 0)),(5,(.ptr 5 0 0)),(6,(.ptr 6 0 0)),(8,(.bool false)),(9,(.int .i64 own)),(36,(.int .i64 (Md.c m))),(37,(.int .i64 i))],[(4,(some (.box (Md.cs m)))),(5,(some (.box (Qy.cs q)))),(6,(some (.box (Pt.cs p))))]⟩
def dR (m:Md) (q:Qy) (p:Pt) (own:Int):Nat→Nat→Bool
 | 0,_=>false
 | d+1,i=>(!((i:Int)==q.c)&&decide (EU m (i:Int) p≥own))||dR m q p own d (i+1)
theorem u5 (m:Md) (q:Qy) (p:Pt) (own:Int):∀ d i,dR m q p own d i=(List.range' i d).any fun c=>!((c:Int)==q.c)&&decide (EU m (c:Int) p≥own)
 | 0,_=>rfl
 | d+1,i=>by rw [dR,u5 m q p own d (i+1),List.range'_succ,List.any_cons]
theorem vZ (N:Nat) (m:Md) (q:Qy) (p:Pt) (own:Int) (hc:0≤m.c∧m.c≤3):∀ (d i n:Nat),((i+d:Nat):Int)=m.c→d < n →
  D0 (LX N) (DL N7 [1,1,1,0,1,0,1,1,1,0,0,1,0,0]) ⟨[4,5,6,8,9,36,37],[4,5,6],[]⟩ n (zjq m q p own (i:Int)) (DS 1 (DT (LX N) (DL N7 [1,1,1,0,1,0,1,1,1,0,1]) (DS 0 (DT (LX N) (DL N7 [1,1,1,1]) (DV (LX N) none [(CF 8)] [[.bool]]))))) =
   some (.bool (dR m q p own d i),[])
 | d,i,0,_,h=>absurd h (by omega)
 | 0,i,n+1,hd,_=>by
  rw [EA,Mo,AL (show ¬ (i:Int) < m.c by omega),DK];exact Yg N m q p _ _ _ _
 | d+1,i,n+1,hd,hn=>by
  have ei:AA AB ((i:Int)+1)=((i+1:Nat):Int):=HR (by omega);rw [EA,Mo,ei,AE (show (i:Int) < m.c by omega),DJ,dR];have ih:=vZ N m q p own hc d (i+1) n (by omega) (by omega);have en:((i:Int) != q.c)=!((i:Int)==q.c):=rfl;rw [en];cases ((i:Int)==q.c) with
  | true=>exact ih
  | false=>
   rw [A6,DJ,A8];cases decide (EU m (i:Int) p≥own) with
   | true=>exact Yh N m q p _ _ _ _
   | false=>exact ih
theorem XV {m:Md} {q:Qy} (h:FB m q=true):E0 m=true∧(0≤q.c∧q.c < m.c)∧(0≤q.bu∧q.bu≤65536)∧P9 q.bx m.d=true∧RA m q=true:=by
 unfold FB at h;simp only [AH,AQ] at h;exact ⟨h.1,⟨h.2.1,h.2.2.1⟩,⟨h.2.2.2.1,h.2.2.2.2.1⟩,h.2.2.2.2.2.1,h.2.2.2.2.2.2⟩
theorem jW {m:Md} {q:Qy} (h:RA m q=true):(q.k=1∧q.lo≤q.hi∧q.ft=0∧q.fl=false)∨(q.k=2∧2≤m.c∧q.lo=0∧q.hi=0∧q.ft=0∧q.fl=false)∨(q.k=3∧(0≤q.ft∧q.ft < m.d)∧q.lo=0∧q.hi=0):=by
 unfold RA at h;cases h1:(q.k==1) with
 | true=>
  rw [h1,DJ] at h;simp only [AH,AQ,B8,B1] at h;exact .inl ⟨B8.1 h1,h⟩
 | false=>
  rw [h1,DK] at h;cases h2:(q.k==2) with
  | true=>
   rw [h2,DJ] at h;simp only [AH,AQ,B8,B1,ge_iff_le] at h;exact .inr (.inl ⟨B8.1 h2,h⟩)
  | false=>
   rw [h2,DK] at h;cases h3:(q.k==3) with
   | true=>
    rw [h3,DJ] at h;simp only [AH,AQ,B8,ge_iff_le] at h;exact .inr (.inr ⟨B8.1 h3,⟨h.1,h.2.1⟩,h.2.2⟩)
   | false=>rw [h3,DK] at h; cases h
theorem Jy:DY PR B0 70 WG:=by
 refine D7 [(115,cN),(65,MR),(116,cX),(114,WK)] [(9,⟨[4,5,6,8,9,36,37],[4,5,6],[]⟩)] WG [[.bool]] Tryz.func70 zbn ⟨zhF,aB,zhP,Kc,trivial⟩ ?_;intro vs r hwf h;unfold WG at h;split at h
 ·rename_i m q p t;replace h:=JZ h;obtain ⟨m,rfl,h⟩:=h;replace h:=KU h;obtain ⟨q,rfl,h⟩:=h;replace h:=YH h;obtain ⟨p,rfl,h⟩:=h;rw [R.get_ok] at h;refine ⟨10,?_⟩;rw [← h];refine (zd7 10 m q p t).trans ?_;unfold HJ;cases hr:FB m q with
  | false=>rfl
  | true=>
   obtain ⟨hm,_,_,_,hk⟩:=XV hr;have hmp:=MD hm;rw [A2,DK,A8];cases h1:(q.k==1) with
   | true=>rfl
   | false=>
    rw [DK,DK];cases h2:(q.k==2) with
    | true=>
     rw [DJ,DJ];refine (vZ 10 m q p _ (by omega) m.c.toNat 0 10 (by omega) (by omega)).trans ?_;rw [u5,← List.range_eq_range'];rfl
    | false=>
     rw [DK,DK];rcases jW hk with ⟨e,_⟩ | ⟨e,_⟩ | ⟨_,⟨f0,fd⟩,_⟩
     ·rw [e] at h1; cases h1
     ·rw [e] at h2; cases h2
     ·have step:∀ x:Int,cond (decide (x≥t)) (some (V.bool false,[])) (cond q.fl (some (V.bool (decide (EU m q.c (JG q p t) > EU m q.c p)),[])) (some (V.bool (decide (EU m q.c (JG q p t) < EU m q.c p)),[]))) =
        some (V.bool (cond (decide (x≥t)) false (cond q.fl (decide (EU m q.c (JG q p t) > EU m q.c p)) (decide (EU m q.c (JG q p t) < EU m q.c p)))),([]:List (List V))):=fun x=>by
       cases decide (x≥t) with
       | true=>rfl
       | false=>cases q.fl <;> rfl
      obtain e | e | e | e:q.ft=0∨q.ft=1∨q.ft=2∨q.ft=3:=by omega
      all_goals
       rw [e];exact step _
 ·simp [R.get] at h
open Go Go.Proofs Go.RowKit Go.Sort
theorem oW (x:Int):∀ l,(XA x l).Perm (x :: l)
 | []=>vbL _
 | y :: r=>by
  rw [XA];cases decide (x≤y) with
  | true=>exact vbL _
  | false=>exact ((oW x r).cons y).trans (List.Perm.swap x y r)
theorem TA:∀ l,(K7 l).Perm l
 | []=>vbL _
 | x :: r=>(oW x (K7 r)).trans ((TA r).cons x)
theorem Bn (x:Int):∀ {l:List Int},l.Pairwise (·≤·)→(XA x l).Pairwise (·≤·)
 | [],_=>by simp [XA]
 | y :: r,h=>by
  rw [XA];cases hd:decide (x≤y) with
  | true=>
   have hd:=A1 hd;rw [DJ];rw [vbF] at h ⊢;refine ⟨fun z hz=>?_,by rw [vbF]; exact h⟩;rcases AP.1 hz with rfl | hz
   ·exact hd
   ·exact Int.le_trans hd (h.1 z hz)
  | false=>
   have hd:=BG hd;rw [DK];rw [vbF] at h ⊢;refine ⟨fun z hz=>?_,Bn x h.2⟩;rcases AP.1 ((oW x r).mem_iff.1 hz) with rfl | hz
   ·omega
   ·exact h.1 z hz
theorem Kp:∀ l,(K7 l).Pairwise (·≤·)
 | []=>List.Pairwise.nil
 | x :: r=>Bn x (Kp r)
theorem zcE (l:List Int):(l.mergeSort fun x y=>decide (x≤y))=K7 l:=by
 refine List.Perm.eq_of_pairwise (le:=(·≤·)) (fun a b _ _ h1 h2=>Int.le_antisymm h1 h2) ?_ (Kp l) ((List.mergeSort_perm l _).trans (TA l).symm)
 have:=List.pairwise_mergeSort (le:=fun (x y:Int)=>decide (x≤y)) (fun a b c h1 h2=>AE (Int.le_trans (A1 h1) (A1 h2))) (fun a b=>by
  rcases Int.le_total a b with h | h
  ·rw [AE h]; rfl
  ·rw [AE h,Bool.or_true]) l
 exact this.imp fun h=>by simpa using h
theorem y7 (x:Int):∀ (l:List Int) (p:Int),MU p (l++[x])=MU p l++cond ((l.getLast?.getD p)==x) [] [x]
 | [],p=>by
  show cond (x==p) (MU x []) (x :: MU x [])=_;rw [show ((([]:List Int).getLast?.getD p)==x)=(x==p) by show (p==x)=(x==p); rw [vaZ,B8,B8]; exact eq_comm];cases (x==p) <;> rfl
 | y :: r,p=>by
  rw [CS,MU,MU,y7 x r y];have e:((y :: r).getLast?.getD p)=r.getLast?.getD y:=by
   cases r with
   | nil=>rfl
   | cons z r=>rw [List.getLast?_cons_cons,List.getLast?_eq_some_getLast (List.cons_ne_nil z r)]; rfl
  rw [e];cases (y==p) <;> rfl
theorem Vf (x:Int) (l:List Int):KI (l++[x])=KI l++cond (l.getLast?==some x) [] [x]:=by
 cases l with
 | nil=>rfl
 | cons y r=>
  rw [CS,KI,KI,y7,CS];congr 2
  have:((y :: r).getLast?==some x)=(r.getLast?.getD y==x):=by
   cases r with
   | nil=>show (some y==some x)=(y==x); rw [vaZ]; simp
   | cons z r=>rw [List.getLast?_cons_cons,List.getLast?_eq_some_getLast (List.cons_ne_nil z r)]; rw [vaZ]; simp
  rw [this]
theorem Vg (l:List Int):Lib.compact l=KI l:=by
 have key:∀ m,m≤l.length→vbs l.toArray m=KI (l.take m):=by
  intro m
  induction m with
  | zero=>intro _; rfl
  | succ m ih=>
   intro hm;have e1:vbs l.toArray (m+1)=vbs l.toArray m++cond (Lib.keeps l.toArray m) [l.toArray[m]!] []:=by
    unfold vbs;rw [List.range_succ,List.filter_append,List.map_append];congr 1;cases hk:Lib.keeps l.toArray m <;> simp [hk]
   have hml:m < l.length:=by omega
   have e2:l.toArray[m]! = l[m]:=by simp [hml]
   rw [e1,ih (by omega),List.take_succ_eq_append_getElem hml,Vf,e2];congr 1;cases m with
   | zero=>simp [Lib.keeps]
   | succ k=>
    have hk:k < l.length:=by omega
    have e3:(l.take (k+1)).getLast?=some l[k]:=by rw [List.getLast?_take]; simp [hk]
    rw [e3];have e4:l.toArray[k]! = l[k]:=by simp [hk]
    cases hq:Lib.keeps l.toArray (k+1) with
    | true=>
     have:¬ (l[k+1]=l[k]):=fun he=>by
      rw [Lib.keeps_neg (Nat.succ_pos k) (by show l.toArray[k+1]! = l.toArray[k]!; rw [e2,e4]; exact he)] at hq;cases hq
     rw [DJ];rw [show (some l[k]==some l[k+1])=false by simp; exact fun h=>this h.symm];rfl
    | false=>
     have:l[k+1]=l[k]:=by
      by_cases he:l[k+1]=l[k]
      ·exact he
      ·rw [Lib.keeps_pos (by show l.toArray[k+1]!≠l.toArray[k]!; rw [e2,e4]; exact he)] at hq;cases hq
     rw [DK,this];rw [show (some l[k]==some l[k])=true by simp];rfl
 unfold Lib.compact;rw [key _ (AX _),BR]
theorem y6:∀ (l:List Int) (p:Int),(MU p l).length≤l.length
 | [],_=>AX _
 | x :: r,p=>by
  have:=y6 r x
  rw [MU];cases (x==p)
  ·rw [DK,AM,AM]; omega
  ·rw [DJ,AM]; omega
theorem iS (l:List Int):(KI l).length≤l.length:=by
 cases l with
 | nil=>exact AX _
 | cons x r=>rw [KI,AM,AM]; have:=y6 r x; omega
theorem nI {p x:Int}:∀ {l:List Int},x∈MU p l→x∈l
 | [],h=>by cases h
 | y :: r,h=>by
  rw [MU] at h;cases hb:(y==p)
  ·rw [hb,DK] at h;rcases AP.1 h with h | h
   ·exact h ▸ AN ..
   ·exact AW _ (nI h)
  ·rw [hb,DJ] at h;exact AW _ (nI h)
theorem y8 {x:Int} {l:List Int} (h:x∈KI l):x∈l:=by
 cases l with
 | nil=>cases h
 | cons y r=>
  rcases AP.1 h with h | h
  ·exact h ▸ AN ..
  ·exact AW _ (nI h)
theorem P2 (l:List Int):(iZ l).length=l.length:=BK ..
theorem oP (l:List Int):(iZ l).map IV.toInt=l:=by
 unfold iZ;rw [List.map_map];exact List.map_id l
theorem nC (l:List Int):MT (iZ l)=l.map (Value.int .i64):=by
 unfold MT iZ;rw [List.map_map];rfl
theorem Uw (l:LI):MT l=(l.map IV.toInt).map (Value.int .i64):=by
 unfold MT;rw [List.map_map];rfl
abbrev JO:Int→Value:=Value.int .i64
theorem kK {w:World} {e g n cap:Nat} {zs:List Int} (h:w.ownsRow 0 e 1 (.slice (some ⟨g,0,none⟩) n cap) zs.length (zs.map JO)):n=zs.length∧n≤cap∧cap≤maxLen∧g < w.heap.size∧Holds JO w g 0 zs.toArray:=by
 rcases h.2 with ⟨h1,_⟩ | ⟨g',cap',cur,h1,_,h2,h3,h4,h5,h6⟩
 ·cases h1
 ·simp only [CI,AC,DH,B7] at h1;obtain ⟨rfl,rfl,rfl⟩:=h1;refine ⟨rfl,h3,h4,(DE.1 h2).1,fun j hj=>?_⟩;have hj':j < zs.length:=by simpa using hj
  rw [BL];constructor
  ·have hc:cur[j]?=some (JO zs[j]):=by
    have:(cur.toList.take (zs.length*1))[j]?=some (JO zs[j]):=by rw [h6]; simp [hj']
    rw [CM,BP (by omega)] at this;simpa using this
   simp only [vaL,h2];simp [hc,hj']
  ·simp [World.frozen?,h2]
theorem zbX {w:World} {g:Nat} {cur:Array Value} {e:TypeId} {fr:Nat × Nat} (h:w.heap[g]?=some (.cells cur e fr)) (q:Nat) (os:Array Obj) (zs:List Int) :
  (grow (putRow JO (vbH w q) g 0 zs.toArray) os).heap[g]?=some (.cells (putCells JO 0 zs.toArray cur) e fr):=by
 have hg:g < w.heap.size:=(DE.1 h).1;have h0:(putRow JO (vbH w q) g 0 zs.toArray).heap[g]?=some (.cells (putCells JO 0 zs.toArray cur) e fr):=by
  unfold putRow mapBlock;simp [va3,onCells,h]
 unfold grow;simp only;rw [Array.getElem?_append_left (by rw [size_putRow]; exact hg)];exact h0
theorem zfR {cur:Array Value} {zs:List Int} (h:zs.length≤cur.size):(putCells JO 0 zs.toArray cur).size=cur.size∧(putCells JO 0 zs.toArray cur).toList.take zs.length=zs.map JO:=by
 refine ⟨by simp [putCells],?_⟩;apply List.ext_getElem?;intro k;rw [CM];by_cases hk:k < zs.length
 ·rw [BP hk];have hc:k < cur.size:=by omega
  simp [putCells,hk,hc]
 ·rw [BB hk];simp [hk]
theorem qP {w:World} {e g n cap:Nat} {zs:List Int} (h:w.ownsRow 0 e 1 (.slice (some ⟨g,0,none⟩) n cap) zs.length (zs.map JO)) (q:Nat) (os:Array Obj) (ys rest:List Int) (hl:(ys++rest).length=zs.length) :
  w.grownBy (grow (putRow JO (vbH w q) g 0 (ys++rest).toArray) os) (some g) ∧
   (grow (putRow JO (vbH w q) g 0 (ys++rest).toArray) os).ownsRow 0 e 1 (.slice (some ⟨g,0,none⟩) ys.length cap) ys.length (ys.map JO):=by
 have hh:=kK h;rcases h.2 with ⟨h1,_⟩ | ⟨g',cap',cur,h1,_,h2,h3,h4,h5,h6⟩
 ·cases h1
 ·simp only [CI,AC,DH,B7] at h1;obtain ⟨rfl,rfl,rfl⟩:=h1;rw [AS] at hl;have hcur:(ys++rest).length≤cur.size:=by rw [AS]; omega
  obtain ⟨p1,p2⟩:=zfR (zs:=ys++rest) hcur;refine ⟨⟨rfl,rfl,rfl,?_,fun k hk hne=>?_⟩,by simp,.inr ⟨g,cap,_,rfl,B4 _,zbX h2 q os _,by omega,h4,by rw [p1,h5],?_⟩⟩
  ·show w.heap.size≤((putRow JO (vbH w q) g 0 (ys++rest).toArray).heap++os).size;rw [Array.size_append,size_putRow];exact Nat.le_add_right _ _
  ·have hne':g≠k:=fun e=>hne (by rw [e])
   unfold grow;simp only;rw [Array.getElem?_append_left (by rw [size_putRow]; exact hk)];unfold putRow mapBlock;simp [va3,hne']
  ·rw [Nat.mul_one]
   have:=congrArg (AK ys.length) p2
   rw [List.take_take,vaz (by rw [AS]; omega),List.map_append,List.take_left' (by simp)] at this;exact this
theorem Bb (w:World) (r:Option Nat):w.grownBy w r:=⟨rfl,rfl,rfl,AX _,fun _ _ _=>rfl⟩
theorem rV {l:LI} (h:∀ x∈l,AB.min≤x.toInt∧x.toInt≤AB.max) {ys:List Int} (hs:∀ y∈ys,y∈l.map IV.toInt):∀ x∈iZ ys,AB.min≤x.toInt∧x.toInt≤AB.max:=by
 intro x hx;obtain ⟨y,hy,rfl⟩:=CK.1 hx;obtain ⟨z,hz,hzy⟩:=CK.1 (hs y hy);show AB.min≤y∧y≤AB.max;rw [← hzy];exact h z hz
theorem qN {w:World} {e:Nat} {v:Value} {l:LI} (h:w.ownsRow 0 e 1 v l.length (MT l)):(v = .slice none 0 0∧l=[])∨∃ g cap,v = .slice (some ⟨g,0,none⟩) (l.map IV.toInt).length cap∧w.ownsRow 0 e 1 (.slice (some ⟨g,0,none⟩) (l.map IV.toInt).length cap) (l.map IV.toInt).length ((l.map IV.toInt).map JO):=by
 rcases h.2 with ⟨h1,h2⟩ | ⟨g,cap,cur,h1,_⟩
 ·exact .inl ⟨h1,List.length_eq_zero_iff.1 h2⟩
 ·rw [h1] at h;refine .inr ⟨g,cap,by rw [h1,BK],?_⟩;rw [BK,← Uw];exact h
theorem zhD:R5 PR 201 jO:=by
 intro w v l l' rs ys hown hrng hlen hr hg;unfold jO at hg;simp only at hg;split at hg
 ·simp only [AC] at hg;subst hg;obtain rfl:ys=[]:=by
   cases ys with
   | nil=>rfl
   | cons y ys=>simp [U8] at hr
  refine Does.of_calls Tryz.func201 (by kernel_rfl) (by kernel_rfl) ?_;have hmem:∀ y∈K7 (l.map IV.toInt),y∈l.map IV.toInt:=fun y hy=>(TA _).mem_iff.1 hy
  rcases qN hown with ⟨rfl,rfl⟩ | ⟨g,cap,rfl,ho⟩
  ·refine (Tryz.slices_Sort_int_none none 0 w).mono ?_;rintro e w' ⟨rfl,rfl⟩;exact ⟨_,rfl,Bb _ _,fun x hx=>(by cases hx),fun h=>(by cases h),fun _=>hown⟩
  ·obtain ⟨_,_,hcm,hgs,hH⟩:=kK ho;refine (Tryz.slices_Sort_int g 0 cap (l.map IV.toInt) w hH hgs (by rw [BK]; unfold strMax at hlen; omega)).mono ?_;rintro e w' ⟨rfl,q,os,rfl⟩;rw [zcE];have hl:(K7 (l.map IV.toInt)++[]).length=(l.map IV.toInt).length:=by rw [C9]; exact (TA _).length_eq
   have hp:=qP ho q os (K7 (l.map IV.toInt)) [] hl;rw [C9] at hp hl;refine ⟨_,rfl,hp.1,rV hrng hmem,fun h=>(by cases h),fun _=>?_⟩;rw [nC,P2,← hl];exact hp.2
 ·cases hg
theorem zhB:R5 PR 202 jM:=by
 intro w v l l' rs ys hown hrng hlen hr hg;unfold jM at hg;simp only at hg;split at hg
 ·simp only [AC] at hg;subst hg;obtain rfl:ys=[]:=by
   cases ys with
   | nil=>rfl
   | cons y ys=>simp [U8] at hr
  refine Does.of_calls Tryz.func202 (by kernel_rfl) (by kernel_rfl) ?_;rcases qN hown with ⟨rfl,rfl⟩ | ⟨g,cap,rfl,ho⟩
  ·refine (Tryz.slices_Compact_int_empty none 0 w).mono ?_;rintro e w' ⟨rfl,rfl⟩;exact ⟨_,rfl,Bb _ _,fun x hx=>(by cases hx),fun _=>⟨hown,fun b hb=>(by simp [CD] at hb)⟩,fun h=>by cases h⟩
  ·obtain ⟨_,hnc,hcm,hgs,hH⟩:=kK ho;refine (Tryz.slices_Compact_int g 0 cap (l.map IV.toInt) w hH (by rw [BK]; unfold strMax at hlen; omega) hnc).mono ?_;rintro e w' ⟨rfl,q,rfl⟩;rw [Vg];have hlc:=iS (l.map IV.toInt);have hp:=qP ho q #[] (KI (l.map IV.toInt)) (BN ((l.map IV.toInt).length - (KI (l.map IV.toInt)).length) 0) (by rw [AS,List.length_replicate]; omega);rw [grow_empty] at hp;refine ⟨_,rfl,hp.1,rV hrng fun y hy=>y8 hy,fun _=>⟨?_,fun b hb=>.inl hb⟩,fun h=>by cases h⟩;rw [nC,P2];exact hp.2
 ·cases hg
set_option maxHeartbeats 1000000 in
theorem zN (a b x:Int) (B:Nat) (W:World) (ha:W.cell? ⟨B,0,none⟩=some (.int .i64 a)) (hb:W.cell? ⟨B,1,none⟩=some (.int .i64 b)) :
  FnGives Tryz.prog 169 #[.pointer (some ⟨B,0,none⟩)] #[.int .i64 x] (.bool (decide (x < a)||decide (x≥b))) W:=by
 show Calls Tryz.prog 169 #[.int .i64 x,.pointer (some ⟨B,0,none⟩)] W _
 go_enter Tryz.func169,Tryz.ntmps169
 go_wp2
 all_goals (go_ret; exact ⟨by simp_all,0,rfl⟩)
set_option maxHeartbeats 1000000 in
theorem Wc (fv:Value) (w:World):Calls Tryz.prog 167 #[.slice none 0 0,fv] w fun e w'=>e = .returned (.slice none 0 0)∧∃ q,w'=w.drewN q:=by
 go_enter Tryz.func167,Tryz.ntmps167
 go_wp2_with (go_at_call 200; refine (Tryz.slices_IndexFunc_empty (α:=Int) none 0 fv _).mono ?_; rintro e w' ⟨rfl,rfl⟩)
 go_ret
 exact ⟨rfl,0,rfl⟩
theorem zfz {w:World} {v:Value} {f:Nat} {a b:Int} {ys:List Value} (h:U8 w v [.clo f [.bor [.int .i64 a,.int .i64 b]]] ys):∃ B,ys=[.func (.func f) #[] #[.pointer (some ⟨B,0,none⟩)]]∧B < w.heap.size∧w.cell? ⟨B,0,none⟩=some (.int .i64 a)∧w.cell? ⟨B,1,none⟩=some (.int .i64 b)∧v.ownBlock≠some B:=by
 cases ys with
 | nil=>simp [U8] at h
 | cons y r=>
  cases r with
  | cons _ _=>simp [U8] at h
  | nil=>
   simp only [U8] at h;obtain ⟨B,c,T,rfl,hh,hc,hne⟩:=h;refine ⟨B,rfl,(DE.1 hh).1,?_,?_,hne⟩
   ·simp only [vaL,hh];rw [← vaw,hc];rfl
   ·simp only [vaL,hh];rw [← vaw,hc];rfl
theorem zhC:R5 PR 167 jN:=by
 intro w v l l' rs ys hown hrng hlen hr hg;unfold jN at hg;simp only at hg;split at hg
 ·rename_i f a b;cases hf:BQ f 169 with
  | false=>rw [hf,DK] at hg; cases hg
  | true=>
   rw [hf,DJ,AC] at hg;subst hg;obtain rfl:=F9.1 hf;obtain ⟨B,rfl,hBs,ha,hb,hne⟩:=zfz hr;have pe:LF a b (l.map IV.toInt)=(l.map IV.toInt).filter fun x=>!(decide (x < a)||decide (x≥b)):=rfl
   have eg:∀ args w,(callFunc 169 args).run Tryz.prog w = .ok (.enter 169 args) w:=enters_of Tryz.func169 (by kernel_rfl) rfl;have hp:PredAt Tryz.prog 169 #[.pointer (some ⟨B,0,none⟩)] JO (fun x=>decide (x < a)||decide (x≥b)) w:=
    fun W x hbw=>zN a b x B W ((hbw.cell (p:=⟨B,0,none⟩) hBs).trans ha) ((hbw.cell (p:=⟨B,1,none⟩) hBs).trans hb)
   rcases qN hown with ⟨rfl,rfl⟩ | ⟨g,cap,rfl,ho⟩
   ·refine Does.of_calls Tryz.func167 (by kernel_rfl) (by kernel_rfl) ((Wc _ w).mono ?_);rintro e w' ⟨rfl,q,rfl⟩;exact ⟨_,rfl,⟨rfl,rfl,rfl,AX _,fun _ _ _=>rfl⟩,fun x hx=>(by cases hx),fun _=>⟨World.ownsRow_nil _ 0 _ _,fun b hb=>(by simp [CD] at hb)⟩,fun h=>by cases h⟩
   ·obtain ⟨_,hnc,hcm,hgs,hH⟩:=kK ho;have hBg:B≠g:=fun e=>hne (by rw [e]; rfl)
    have hpo:PredOver Tryz.prog 169 #[.pointer (some ⟨B,0,none⟩)] JO (fun x=>decide (x < a)||decide (x≥b)) g 0 (l.map IV.toInt).toArray.size w:=
     fun n os dk x _=>by
      have hcell:∀ o u,w.cell? ⟨B,o,none⟩=some u→(sortWorld JO w g 0 n dk os).cell? ⟨B,o,none⟩=some u:=fun o u hu=>by
       unfold sortWorld;rw [cell?_grow _ _ _ (by show B < (putRow _ _ _ _ _).heap.size; rw [size_putRow]; exact hBs),cell?_putRow_other _ _ g 0 _ _ (Or.inl hBg)];exact hu
      exact zN a b x B _ (hcell 0 _ ha) (hcell 1 _ hb)
    refine Does.of_calls Tryz.func167 (by kernel_rfl) (by kernel_rfl) ?_;have hcall:=Tryz.slices_DeleteFunc JO (fun _=>rfl) (fun x=>decide (x < a)||decide (x≥b)) 169 #[.pointer (some ⟨B,0,none⟩)] eg 0 Tryz.zeroValue3 g 0 cap (l.map IV.toInt).toArray w hp hpo hH (by simp; unfold strMax at hlen; omega) (by simp; rw [BK] at hnc; exact hnc);have es:(l.map IV.toInt).toArray.size=(l.map IV.toInt).length:=by simp
    rw [es] at hcall;refine hcall.mono ?_;rintro e w' ⟨rfl,q,rfl⟩;have ef:(l.map IV.toInt).toArray.toList.filter (fun x=>!(decide (x < a)||decide (x≥b)))=LF a b (l.map IV.toInt):=rfl;rw [ef];have hlc:(LF a b (l.map IV.toInt)).length≤(l.map IV.toInt).length:=List.length_filter_le ..
    have hp2:=qP ho q #[] (LF a b (l.map IV.toInt)) (BN ((l.map IV.toInt).length - (LF a b (l.map IV.toInt)).length) 0) (by rw [AS,List.length_replicate]; omega);rw [grow_empty] at hp2;refine ⟨_,rfl,hp2.1,rV hrng fun y hy=>(List.mem_filter.1 hy).1,fun _=>⟨?_,fun b hb=>.inl hb⟩,fun h=>by cases h⟩;rw [nC,P2];exact hp2.2
 ·cases hg
open Go Go.Proofs
set_option maxRecDepth 100000
theorem Eg {dim n:Int}:∀ {l:LI} {i k:Nat} (hk:k < l.length),KO dim n i l=true→GK (l[k]).toInt=true∧OA dim n (i+k) (DM (l[k]).toInt)=true
 | [],i,k,hk,_=>absurd hk (Nat.not_lt_zero k)
 | w :: r,i,0,hk,h=>by
  rw [KO] at h;simp only [AH] at h;exact h.1
 | w :: r,i,k+1,hk,h=>by
  rw [KO,AH] at h
  have:=Eg (k:=k) (by simpa using hk) h.2
  rw [show i+1+k=i+(k+1) by omega] at this;exact this
theorem lR {l:LI} {dim:Int} (h:G4 l dim=true):(1≤l.length∧l.length≤31)∧(∀ k (hk:k < l.length),GK (l[k]).toInt=true∧OA dim (ic l.length) k (DM (l[k]).toInt)=true)∧ZU l=true:=by
 unfold G4 at h;simp only [AH] at h;refine ⟨⟨AO h.1.1,AO h.1.2⟩,fun k hk=>?_,h.2.2⟩
 have:=Eg hk h.2.1
 rwa [BL] at this
theorem Zj {dim n:Int} {i:Nat} {x:Nd} (h:OA dim n i x=true) (hl:x.lf=false):x.f < dim∧x.l≠x.r∧((i:Int) < x.l∧(i:Int) < x.r)∧(x.l < n∧x.r < n):=by
 unfold OA at h;rw [hl,DK] at h;simp only [AH,B1,BO,A3] at h;obtain ⟨h1,h2,h3,h4⟩:=h;exact ⟨by omega,h2,by omega,by omega⟩
theorem ziR {l:LI} {d e:Int} (h:G4 l d=true) (hde:d≤e):G4 l e=true:=by
 have key:∀ (l:LI) (n:Int) (i:Nat),KO d n i l=true→KO e n i l=true:=by
  intro l n
  induction l with
  | nil=>intro _ _; rfl
  | cons w r ih=>
   intro i h;rw [KO] at h ⊢;simp only [AH] at h ⊢;refine ⟨⟨h.1.1,?_⟩,ih _ h.2⟩;have h2:=h.1.2;unfold OA at h2 ⊢;cases hl:(DM w.toInt).lf with
   | true=>rfl
   | false=>
    rw [hl,DK] at h2;rw [DK];simp only [AH,B1,BO] at h2 ⊢;exact ⟨by omega,h2.2⟩
 unfold G4 at h ⊢;simp only [AH] at h ⊢;exact ⟨h.1,key _ _ _ h.2.1,h.2.2⟩
abbrev kpL:KP:=⟨[4,5,6,24,25,26],[20,500],[⟨(.tmp 6),500,275,true,MW⟩]⟩
abbrev Pe (l:LI) (i:Int) (own out:LI):St:=
 ⟨[(4,.zs),(5,(.row 20 0 l.length)),(6,(.row 500 0 out.length)),(24,(.list false [(.int .u64)] l)),(25,(.int .i64 (ic (AG l)))),(26,(.int .i64 i))],[(20,(some (.row true 36 true E9 own))),(500,(some (.row true 275 true MW out)))]⟩
theorem j3 (N:Nat) (l:LI) (ht:G4 l 4=true):∀ (m i n:Nat) (own out:LI),i+m=l.length→m < n→own.length=l.length→out.length≤i →
  D0 (QY N) (DL UK [1,1,1,1,1,0,1,0,0]) kpL n (Pe l (i:Int) own out) (DS 0 (DT (QY N) (DL UK [1,1,1,1,1,1]) (DV (QY N) none [(CF 4)] [[(.list true MW)]]))) =
   some (.list true MW (OE (l.drop i) i own out),[])
 | m,i,0,_,_,_,h,_,_=>absurd h (by omega)
 | 0,i,n+1,own,out,hd,_,_,_=>by
  have hi:i=l.length:=by omega
  subst hi;rw [EA,Mh,J5 (AX _),DK,Xx,vaB,OE,B5,BR]
 | m+1,i,n+1,own,out,hd,hn,ho,hu=>by
  obtain ⟨⟨l1,l31⟩,hat,_⟩:=lR ht;have hi:i < l.length:=by omega
  have ei:AA AB ((i:Int)+1)=((i+1:Nat):Int):=HR (by omega);obtain ⟨hb,hf⟩:=hat i hi;have io:decide ((i:Int) < ic (l.length - 0))=true:=IK hi;rw [EA,Mh,ei,IK hi,DJ,JP,B3,DJ,JB hi,io,B3,BD,BF hi,OE];simp only [BL];cases hl:(DM (l[i]).toInt).lf with
  | true=>
   rw [A2,DK,DJ,DJ,A8];have e1:O6 (DM (l[i]).toInt) i own=own:=by unfold O6; rw [hl,DJ]
   rw [e1];cases (D9 (own.getD i default)).emp with
   | true=>exact j3 N l ht m (i+1) n own out (by omega) (by omega) ho (by omega)
   | false=>
    have ih:=j3 N l ht m (i+1) n own (out++[fT (D9 (own.getD i default)) (DM (l[i]).toInt).v]) (by omega) (by omega) ho (by rw [AS]; simp; omega);unfold Pe at ih;rw [AS,C3] at ih;rw [A6,DJ,DJ,AE (show (out.length+1)*88≤EG by unfold EG; omega),DJ,BR];exact ih
  | false=>
   obtain ⟨f4,_,_,⟨ln,rn⟩⟩:=Zj hf hl;obtain ⟨⟨f0,_⟩,⟨a1,_⟩,⟨b1,_⟩,_⟩:=p8 hb hl;have hp:H6 (DM (l[i]).toInt).f=true:=by unfold H6; rw [AE f0,AE (by omega)]; rfl
   have el:(decide (0≤(DM (l[i]).toInt).l)&&decide ((DM (l[i]).toInt).l < ic (l.length - 0)))=true:=by rw [AE (by omega),AE (show (DM (l[i]).toInt).l < ic (l.length - 0) from ln)]; rfl
   have er:(decide (0≤(DM (l[i]).toInt).r)&&decide ((DM (l[i]).toInt).r < ic (l.length - 0)))=true:=by rw [AE (by omega),AE (show (DM (l[i]).toInt).r < ic (l.length - 0) from rn)]; rfl
   rw [A6,DJ,DJ,hp,DJ,el,DJ,er,DJ,BM,DK];have e1:O6 (DM (l[i]).toInt) i own=(own.set (DM (l[i]).toInt).l.toNat ((D9 (own.getD i default)).cutL (DM (l[i]).toInt).f (DM (l[i]).toInt).a).I).set (DM (l[i]).toInt).r.toNat ((D9 (own.getD i default)).cutH (DM (l[i]).toInt).f (DM (l[i]).toInt).a).I:=by unfold O6; rw [hl,DK]
   rw [e1];exact j3 N l ht m (i+1) n _ out (by omega) (by omega) (by rw [vaF,vaF]; exact ho) (by omega)
theorem zhE:DY PR B0 218 cM:=by
 refine D7 [(111,PP),(112,LB),(55,MQ),(96,WR)] [(7,⟨[4,5,6,24,25,26],[20,500],[⟨.tmp 6,500,275,true,[.z,.z,.z,.z,.z,.z,.z,.z,.z,.z,.z]⟩]⟩)] cM [[.list true [.z,.z,.z,.z,.z,.z,.z,.z,.z,.z,.z]]] Tryz.func218 za8 ⟨k9,XZ,aA,Ko,trivial⟩ ?_;intro vs r hwf h;unfold cM at h;split at h
 ·rename_i l b;replace h:=JY h;obtain ⟨b,rfl,h⟩:=h;rw [R.get_ok] at h;refine ⟨40,?_⟩;rw [← h];refine (zdS 40 l b).trans ?_;unfold IT;cases ht:G4 l 4 with
  | false=>rfl
  | true=>
   rw [A2,DK,A8];cases b.emp with
   | true=>rfl
   | false=>
    obtain ⟨⟨l1,l31⟩,_,_⟩:=lR ht;have run:=j3 40 l ht l.length 0 40 ((BN l.length Y0.I).set 0 b.I) [] (by omega) (by omega) (by simp) (B4 _);rw [DK,AE (show (0:Int)≤ic l.length by simp only [ic]; omega),AE (show ic l.length=ic l.length from rfl),AE (show ic l.length*ic 80≤ic EG by unfold EG; simp only [ic]; omega),B3,B3,DJ,
     AE (show 0≤0 from AX 0),AE (show (0:Int) < ic (AF (ic l.length) - 0) by simp only [ic]; omega),B3,DJ]
    exact run
 ·simp [R.get] at h
abbrev zjv (l:LI) (lo hi i:Int):St:=⟨[(4,(.int .i64 0)),(5,(.int .i64 0)),(6,(.bool false)),(8,(.int .i64 lo)),(9,(.int .i64 hi)),(26,(.list true MW l)),(27,(.int .i64 (ic (AG l)))),(28,(.int .i64 i))],[]⟩
theorem vY (N:Nat) (l:LI) (hl:l.length≤strMax):∀ (m i n:Nat) (lo hi:Int),i+m=l.length→m < n →
  D0 (QV N) (DL UG [1,1,1,1,0,1,0,0]) ⟨[4,5,6,8,9,26,27,28],[],[]⟩ n (zjv l lo hi (i:Int)) (DS 0 (DT (QV N) (DL UG [1,1,1,1,1]) (DV (QV N) none [(CF 4),(CF 5),(CF 6)] [[.z],[.z],[.bool]]))) =
   some (.tup [.int .i64 (O8 (l.drop i) lo),.int .i64 (O7 (l.drop i) hi),.bool true],[])
 | m,i,0,_,_,_,h=>absurd h (by omega)
 | 0,i,n+1,lo,hi,hd,_=>by
  have hi:i=l.length:=by omega
  subst hi;rw [EA,Lq,J5 (AX _),DK,vaB];exact Wz N _ _ _ _ _ l _ _
 | m+1,i,n+1,lo,hi,hd,hn=>by
  have hi:i < l.length:=by omega
  have mx:strMax=140737488355327:=rfl;have ei:AA AB ((i:Int)+1)=((i+1:Nat):Int):=HR (by omega);rw [EA,Lq,ei,IK hi,DJ,JP,B3,DJ,JB hi,BF hi,O8,O7];exact vY N l hl m (i+1) n _ _ (by omega) (by omega)
theorem Dd:∀ (l:LI) (i:Nat) (own out:LI),(OE l i own out).length≤out.length+l.length
 | [],_,_,out=>AX _
 | w :: r,i,own,out=>by
  rw [OE]
  have:=Dd r (i+1) (O6 (DM w.toInt) i own) (cond ((DM w.toInt).lf&&!(D9 (own.getD i default)).emp) (out++[fT (D9 (own.getD i default)) (DM w.toInt).v]) out)
  refine C2 this ?_;cases ((DM w.toInt).lf&&!(D9 (own.getD i default)).emp) with
  | true=>rw [DJ,AS,C3,AM]; omega
  | false=>rw [DK,AM]; omega
theorem zcl (l:LI) (b:Bx):(IT l b).length≤31:=by
 unfold IT;cases ht:G4 l 4 with
 | false=>exact B4 _
 | true=>
  cases b.emp with
  | true=>exact B4 _
  | false=>
   have:=Dd l 0 ((BN l.length Y0.I).set 0 b.I) []
   have h2:=(lR ht).1.2;simp only [A7,BL] at this;exact C2 this h2
theorem zg1:DY PR B0 196 bE:=by
 refine D7 [(218,cM)] [(6,⟨[4,5,6,8,9,26,27,28],[],[]⟩)] bE [[.z],[.z],[.bool]] Tryz.func196 zaj ⟨zhE,trivial⟩ ?_;intro vs r hwf h;unfold bE at h;split at h
 ·rename_i l b;replace h:=JY h;obtain ⟨b,rfl,h⟩:=h;rw [R.get_ok] at h;refine ⟨40,?_⟩;rw [← h];refine (zc8 40 l b).trans ?_;have h31:=zcl l b;unfold H9 H8 X4 fX fW;generalize IT l b=ps at h31 ⊢;cases ps with
  | nil=>rfl
  | cons x r=>
   have run:=vY 40 (x :: r) (C2 h31 (by decide)) (x :: r).length 0 40 (HP x) (HP x) (by omega) (by omega);have e0:(ic (x :: r).length==0)=false:=by
    simp only [ic,AM,A3];omega
   have e1:(decide (0≤0)&&decide (0 < ic (x :: r).length))=true:=by
    rw [AE (show 0≤0 from AX 0),AE (show 0 < ic (x :: r).length by simp only [ic,AM]; omega)];rfl
   rw [e0,DK,e1,DJ,DJ];exact run
 ·simp [R.get] at h
theorem zcF {l:LI}:∀ {a:Int},E5 a=true→(∀ x∈l,E5 (HP x)=true)→E5 (O8 l a)=true:=by
 induction l with
 | nil=>intro a h _; exact h
 | cons x r ih=>
  intro a h hx;rw [O8];refine ih ?_ fun y hy=>hx y (AW _ hy)
  have:=NK h
  have:=NK (hx x (AN ..))
  unfold E5;rw [AE (by omega),AE (by omega)];rfl
theorem zcB {l:LI}:∀ {a:Int},E5 a=true→(∀ x∈l,E5 (HP x)=true)→E5 (O7 l a)=true:=by
 induction l with
 | nil=>intro a h _; exact h
 | cons x r ih=>
  intro a h hx;rw [O7];refine ih ?_ fun y hy=>hx y (AW _ hy)
  have:=NK h
  have:=NK (hx x (AN ..))
  unfold E5;rw [AE (by omega),AE (by omega)];rfl
theorem Dc:∀ (l:LI) (i:Nat) (own out:LI),(∀ x∈out,E5 (HP x)=true)→∀ x∈OE l i own out,E5 (HP x)=true
 | [],_,_,_,h=>h
 | w :: r,i,own,out,h=>by
  rw [OE];refine Dc r (i+1) _ _ ?_;cases ((DM w.toInt).lf&&!(D9 (own.getD i default)).emp) with
  | true=>
   intro x hx;rcases AV.1 hx with hx | hx
   ·exact h x hx
   ·obtain rfl:=BJ.1 hx;exact Ef _
  | false=>exact h
theorem zck (l:LI) (b:Bx):∀ x∈IT l b,E5 (HP x)=true:=by
 unfold IT;cases (G4 l 4&&!b.emp) with
 | true=>exact Dc _ _ _ _ (fun x hx=>by cases hx)
 | false=>intro x hx; cases hx
theorem lM (l:LI) (b:Bx):E5 (H9 l b)=true∧E5 (H8 l b)=true:=by
 unfold H9 H8 X4;have hf:=zck l b;generalize IT l b=ps at hf ⊢;cases ps with
 | nil=>exact ⟨rfl,rfl⟩
 | cons x r=>exact ⟨zcF (hf x (AN ..)) hf,zcB (hf x (AN ..)) hf⟩
abbrev zju (ts:LI) (b:Bx) (k lo hi i:Int):St:=⟨[(1,(.int .i64 k)),(5,(.ptr 5 0 0)),(6,(.int .i64 0)),(7,(.int .i64 0)),(8,(.bool false)),(9,(.int .i64 lo)),(10,(.int .i64 hi)),(42,(.list true MX ts)),(43,(.int .i64 (ic (AG ts)))),(44,(.int .i64 i))],[(5,(some (.box (Bx.cs b))))]⟩
theorem tM (N:Nat) (ts:LI) (b:Bx) (k:Int) (hts:ts.length≤8):∀ (m i n:Nat) (lo hi:Int),i+m=ts.length→m < n→(-2147483648*(i+1)≤lo∧lo≤2147483648*(i+1))→(-2147483648*(i+1)≤hi∧hi≤2147483648*(i+1)) →
  D0 (G5 N) (DL IP [1,1,1,0,1,0,0]) ⟨[1,5,6,7,8,9,10,42,43,44],[5],[]⟩ n (zju ts b k lo hi (i:Int)) (DS 0 (DT (G5 N) (DL IP [1,1,1,1]) (DV (G5 N) none [(CF 6),(CF 7),(CF 8)] [[.z],[.z],[.bool]]))) =
   some (.tup [.int .i64 (I3 (fun l=>H9 l b) k (ts.drop i) lo),.int .i64 (I3 (fun l=>H8 l b) k (ts.drop i) hi),.bool true],[])
 | m,i,0,_,_,_,h,_,_=>absurd h (by omega)
 | 0,i,n+1,lo,hi,hd,_,_,_=>by
  have hlt:i=ts.length:=by omega
  subst hlt;rw [EA,Lo,J5 (AX _),DK,vaB];exact Wy N b _ _ _ _ _ _ _ _ _
 | m+1,i,n+1,lo,hi,hd,hn,h1,h2=>by
  have hlt:i < ts.length:=by omega
  have ei:AA AB ((i:Int)+1)=((i+1:Nat):Int):=HR (by omega);rw [EA,Lo,ei,IK hlt,DJ,JP,B3,DJ,JB hlt,BF hlt,I3,I3];obtain ⟨q1,q2⟩:=lM (FH ts[i]) b;have q1:=NK q1;have q2:=NK q2;have en:((ts[i].cell 0).toInt != k)=!((ts[i].cell 0).toInt==k):=rfl;rw [en];cases ((ts[i].cell 0).toInt==k) with
  | true=>
   rw [A2,DK,DJ,DJ];have ew:AA AB (lo+H9 (FH ts[i]) b)=lo+H9 (FH ts[i]) b:=EO (by omega) (by omega);have ew2:AA AB (hi+H8 (FH ts[i]) b)=hi+H8 (FH ts[i]) b:=EO (by omega) (by omega);have ih:=tM N ts b k hts m (i+1) n (lo+H9 (FH ts[i]) b) (hi+H8 (FH ts[i]) b) (by omega) (by omega) (by omega) (by omega);rw [← ew,← ew2] at ih;refine Eq.trans ih ?_;rw [ew,ew2]
  | false=>
   rw [A6,DJ,DK,DK];exact tM N ts b k hts m (i+1) n lo hi (by omega) (by omega) (by omega) (by omega)
theorem sO:DY PR B0 162 SB:=by
 refine D7 [(196,bE),(112,LB),(53,MP)] [(5,⟨[1,5,6,7,8,9,10,42,43,44],[5],[]⟩)] SB [[.z],[.z],[.bool]] Tryz.func162 zai ⟨zg1,XZ,Z9,trivial⟩ ?_;intro vs r hwf h;unfold SB at h;split at h
 ·rename_i m k b;replace h:=JZ h;obtain ⟨m,rfl,h⟩:=h;replace h:=JY h;obtain ⟨b,rfl,h⟩:=h;rw [R.get_ok] at h;refine ⟨10,?_⟩;rw [← h];refine (zc7 10 m k b).trans ?_;unfold ED EB HA;cases hm:E0 m with
  | false=>rfl
  | true=>
   rw [A2,DK];cases h0:decide (k < 0) with
   | true=>
    have:IC m k=false:=by unfold IC; rw [AL (show ¬ 0≤k by have:=A1 h0; omega)]; rfl
    rw [this];rfl
   | false=>
    rw [DK];cases h1:decide (k≥m.c) with
    | true=>
     have:IC m k=false:=by unfold IC; rw [AL (show ¬ k < m.c by have:=A1 h1; omega),vad]
     rw [this];rfl
    | false=>
     have hc:IC m k=true:=by unfold IC; rw [AE (show 0≤k by have:=BG h0; omega),AE (show k < m.c by have:=BG h1; omega)]; rfl
     rw [DK,hc];cases b.emp with
     | true=>rfl
     | false=>
      have hb:=iJ hm k;have run:=tM 10 m.ts b k (MD hm).2.2.1 m.ts.length 0 10 (L0 m k) (L0 m k) (by omega) (by have:=(MD hm).2.2.1; omega) (by omega) (by omega);rw [DK];rcases nH hm hc with rfl | rfl | rfl <;> exact run
 ·simp [R.get] at h
theorem tK (g:LI→Int) (hg:∀ l,-2147483648≤g l∧g l≤2147483648) (k:Int):∀ (ts:LI) (s:Int) (n:Nat),(-2147483648*(n:Int)≤s∧s≤2147483648*(n:Int)) → -2147483648*((n+ts.length:Nat):Int)≤I3 g k ts s∧I3 g k ts s≤2147483648*((n+ts.length:Nat):Int)
 | [],s,n,h=>by
  rw [I3];simpa using h
 | t :: r,s,n,h=>by
  rw [I3];have h1:=hg (FH t)
  have:=tK g hg k r (cond (VE t==k) (s+g (FH t)) s) (n+1) (by cases (VE t==k) <;> simp only [BH,A9] <;> omega)
  rw [AM];rw [show n+1+r.length=n+(r.length+1) by omega] at this;exact this
theorem kW {m:Md} (k:Int) (b:Bx):(-34359738368≤ED m k b∧ED m k b≤34359738368)∧(-34359738368≤EB m k b∧EB m k b≤34359738368):=by
 unfold ED EB;cases hs:HA m k b with
 | false=>simp only [A9]; omega
 | true=>
  unfold HA at hs;simp only [AH] at hs;have hb:=iJ hs.1 k;have h8:=(MD hs.1).2.2.1;have h1:=tK (fun l=>H9 l b) (fun l=>by have:=NK (lM l b).1; omega) k m.ts (L0 m k) 1 (by omega);have h2:=tK (fun l=>H8 l b) (fun l=>by have:=NK (lM l b).2; omega) k m.ts (L0 m k) 1 (by omega);rw [DJ,DJ];omega
abbrev zjs (m:Md) (b:Bx) (k lo a:Int) (z:Bool) (i:Int):St:=⟨[(1,(.int .i64 k)),(3,(.ptr 3 0 0)),(5,(.ptr 5 0 0)),(6,(.int .i64 0)),(7,(.bool false)),(8,(.int .i64 lo)),(11,(.int .i64 a)),(12,(.bool z)),(33,(.int .i64 (Md.c m))),(34,(.int .i64 i))],[(3,(some (.box (Md.cs m)))),(5,(some (.box (Bx.cs b))))]⟩
theorem Dh (N:Nat) (m:Md) (b:Bx) (k:Int) (hc:0≤m.c∧m.c≤3) (lo:Int) (hlo : -34359738368≤lo∧lo≤34359738368):∀ (d i n:Nat) (a:Int) (z:Bool),((i+d:Nat):Int)=m.c→d < n →
  D0 (QU N) (DL UF [1,1,1,1,0,1,0,0]) ⟨[1,3,5,6,7,8,11,12,33,34],[3,5],[]⟩ n (zjs m b k lo a z (i:Int)) (DS 0 (DT (QU N) (DL UF [1,1,1,1,1]) (DV (QU N) none [(CF 6),(CF 7)] [[.z],[.bool]]))) =
   some (.tup [.int .i64 (RF m k lo b d (i:Int) a z),.bool true],[])
 | d,i,0,_,_,_,h=>absurd h (by omega)
 | 0,i,n+1,a,z,hd,_=>by
  rw [EA,Ln,AL (show ¬ (i:Int) < m.c by omega),DK];exact Wx N m b _ _ _ _ _ _ _ _
 | d+1,i,n+1,a,z,hd,hn=>by
  have ei:AA AB ((i:Int)+1)=((i+1:Nat):Int):=HR (by omega);have hs:=(kW (m:=m) (i:Int) b).2;have ew:AA AB (lo - EB m (i:Int) b)=lo - EB m (i:Int) b:=EO (by omega) (by omega);have ec:(i:Int)+1=((i+1:Nat):Int):=by omega
  rw [EA,Ln,ei,ew,AE (show (i:Int) < m.c by omega),DJ,RF,ec];have ih:=fun a z=>Dh N m b k hc lo hlo d (i+1) n a z (by omega) (by omega)
  cases ((i:Int)==k) with
  | true=>exact ih a z
  | false=>
   rw [DK,DK];cases z with
   | false=>exact ih _ true
   | true=>
    rw [A2,DK,vax];cases decide (lo - EB m (i:Int) b < a) with
    | true=>exact ih _ true
    | false=>exact ih a true
theorem zg0:DY PR B0 163 bD:=by
 refine D7 [(162,SB)] [(6,⟨[1,3,5,6,7,8,11,12,33,34],[3,5],[]⟩)] bD [[.z],[.bool]] Tryz.func163 zah ⟨sO,trivial⟩ ?_;intro vs r hwf h;unfold bD at h;split at h
 ·rename_i m k b;replace h:=JZ h;obtain ⟨m,rfl,h⟩:=h;replace h:=JY h;obtain ⟨b,rfl,h⟩:=h;rw [R.get_ok] at h;refine ⟨10,?_⟩;rw [← h];refine (zc6 10 m k b).trans ?_;unfold UW NR;cases hs:HA m k b with
  | false=>rfl
  | true=>
   have hm:E0 m=true:=by unfold HA at hs; simp only [AH] at hs; exact hs.1
   have hc:=(MD hm).2.1;rw [A2,DK];cases h2:decide (m.c < 2) with
   | true=>rw [AL (show ¬ m.c≥2 by have:=A1 h2; omega)]; rfl
   | false=>
    rw [AE (show m.c≥2 by have:=BG h2; omega),DK];exact Dh 10 m b k (by omega) (ED m k b) (kW k b).1 m.c.toNat 0 10 0 false (by omega) (by omega)
 ·simp [R.get] at h
theorem zhp:DY PR B0 165 bZ:=by
 refine D7 [(162,SB),(198,cA),(199,cC),(197,PQ)] [] bZ [[.z],[.z],[.bool]] Tryz.func165 zaP ⟨sO,zhq,zhs,lA,trivial⟩ ?_;intro vs r hwf h;unfold bZ at h;split at h
 ·rename_i m q b;replace h:=JZ h;obtain ⟨m,rfl,h⟩:=h;replace h:=KU h;obtain ⟨q,rfl,h⟩:=h;replace h:=JY h;obtain ⟨b,rfl,h⟩:=h;rw [R.get_ok] at h;refine ⟨0,?_⟩;rw [← h];refine (zdz 0 m q b).trans ?_;have h1:=kW (m:=m) q.c (J4 q b);have h2:=kW (m:=m) q.c (KB q b);rw [EO (n:=ED m q.c (KB q b) - EB m q.c (J4 q b)) (by omega) (by omega),EO (n:=EB m q.c (KB q b) - ED m q.c (J4 q b)) (by omega) (by omega)];unfold SR SQ LC;cases HC q <;> cases HA m q.c (J4 q b) <;> cases HA m q.c (KB q b) <;> rfl
 ·simp [R.get] at h
theorem zhu:DY PR B0 122 cE:=by
 refine D7 [(163,bD),(162,SB),(112,LB),(165,bZ),(164,cB),(65,MR)] [] cE [[.bool]] Tryz.func122 za1 ⟨zg0,sO,XZ,zhp,zhr,aB,trivial⟩ ?_;intro vs r hwf h;unfold cE at h;split at h
 ·rename_i m q b;replace h:=JZ h;obtain ⟨m,rfl,h⟩:=h;replace h:=KU h;obtain ⟨q,rfl,h⟩:=h;replace h:=JY h;obtain ⟨b,rfl,h⟩:=h;rw [R.get_ok] at h;refine ⟨0,?_⟩;rw [← h];refine (zdL 0 m q b).trans ?_;unfold G0;cases FB m q <;> cases b.emp <;> cases (q.k==1) <;> cases (q.k==2) <;> cases HA m q.c b <;> cases decide (q.lo≤ED m q.c b) <;> cases NR m q.c b <;> cases P7 q b <;> cases q.fl <;> cases LC m q b <;> rfl
 ·simp [R.get] at h
theorem zhv:DY PR B0 123 cF:=by
 refine D7 [(81,bH)] [] cF [[.z,.z,.z,.z],[.z]] Tryz.func123 za2 ⟨zg3,trivial⟩ ?_;intro vs r hwf h;unfold cF at h;split at h
 ·rename_i b;replace h:=JY h;obtain ⟨b,rfl,h⟩:=h;rw [R.get_ok] at h;exact ⟨0,(zdM 0 b).trans h⟩
 ·simp [R.get] at h
theorem zhy:DY PR B0 166 cJ:=by
 refine D7 [] [] cJ [[.z]] Tryz.func166 za5 trivial ?_;intro vs r hwf h;unfold cJ at h;split at h
 ·rename_i q i;replace h:=KU h;obtain ⟨q,rfl,h⟩:=h;rw [R.get_ok] at h;refine ⟨0,?_⟩;rw [← h];refine (zdO 0 q i).trans ?_;unfold IS;cases decide (i≥0) <;> cases decide (i < 4) <;> cases (i==4) <;> cases (q.k==3) <;> rfl
 ·simp [R.get] at h
def nP (m:Md) (f:Int) (s:Sp):DP:=
 cond (decide (f < 0)) (some (.list false [.z] [],[]))
  (cond (E0 m)
   (cond (BQ (iZ (JT m.ts f)).length (iZ (JT m.ts f)).length)
    (cond (B6 (iZ (LF s.lo s.hi ((iZ (JT m.ts f)).map IV.toInt))).length (iZ (JT m.ts f)).length)
     (some (.list false [.z] (AT 0 (AK (iZ (LF s.lo s.hi ((iZ (JT m.ts f)).map IV.toInt))).length (iZ (LF s.lo s.hi ((iZ (JT m.ts f)).map IV.toInt))))),[])) none) none) none)
theorem Vo {m:Md} (hm:E0 m=true) (f:Int) (s:Sp):nP m f s=some (.list false [.z] (iZ (cond (decide (f < 0)) [] (LF s.lo s.hi (JT m.ts f)))),[]):=by
 unfold nP;cases decide (f < 0) with
 | true=>rfl
 | false=>
  rw [DK,hm,DJ,vbl,DJ,oP,DK];have hle:(iZ (LF s.lo s.hi (JT m.ts f))).length≤(iZ (JT m.ts f)).length:=by
   rw [P2,P2];exact List.length_filter_le ..
  rw [C6 hle,DJ,B5,BR]
theorem zgA (m:Md) (q:Qy) (b:Bx):∀ i:Nat,i < 5→D1 (uT 0) m7 [.tmp 8] [[.list false [.z]]] [m.V,q.V,b.V,.int .i64 (i:Int)]=nP m (IS q (i:Int)) (b.g i)
 | 0,_=>by kernel_rfl
 | 1,_=>by kernel_rfl
 | 2,_=>by kernel_rfl
 | 3,_=>by kernel_rfl
 | 4,_=>by kernel_rfl
 | i+5,h=>absurd h (by omega)
abbrev Cf:KP:=⟨[1,4,5,16,17,18],[500],[⟨(.tmp 5),500,3,false,[.z]⟩]⟩
abbrev Cg:KP:=⟨[1,4,5,16,17,18,23,24,25],[500],[⟨(.tmp 5),500,3,false,[.z]⟩]⟩
abbrev mB (f:Int) (ts:LI) (i:Int) (W:LI) (j:Int) (O:LI):St:=
 ⟨[(1,(.int .i64 f)),(4,.zs),(5,(.row 500 0 O.length)),(16,(.list true MX ts)),(17,(.int .i64 (ic ts.length))),(18,(.int .i64 i)),(23,(.list false [(.int .u64)] W)),(24,(.int .i64 (ic W.length))),(25,(.int .i64 j))],[(500,(some (.row true 3 false [.z] O)))]⟩
theorem lO (N:Nat) (f:Int) (ts:LI) (i:Int) (W:LI) (hW:W.length≤31) (K:Out→St→DP):∀ (m j n:Nat) (O:LI),j+m=W.length→m < n→O.length+m≤1000 →
  D0 (N4 N) (DL OW [1,1,1,0,1,0,0,1,1,0,0,1,1,0,0]) Cg n (mB f ts i W (j:Int) O) K=K (.exit 2) (mB f ts i W (ic W.length) (O++iZ ((W.drop j).flatMap (I4 f))))
 | m,j,0,_,_,h,_=>absurd h (by omega)
 | 0,j,n+1,O,hd,_,_=>by
  have hj:j=W.length:=by omega
  subst hj;rw [EA,Mk,J5 (AX _),DK,vaB];show K (.exit 2) _=K (.exit 2) (mB f ts i W (ic W.length) (O++[]));rw [C9]
 | m+1,j,n+1,O,hd,hn,hO=>by
  have hj:j < W.length:=by omega
  have ej:AA AB ((j:Int)+1)=((j+1:Nat):Int):=HR (by omega);rw [EA,Mk,ej,IK hj,DJ,JP,B3,DJ,JB hj,BF hj,vap];unfold I4;cases (DM (W[j]).toInt).lf with
  | true=>
   rw [A2,DK,BM,DK,DA];exact lO N f ts i W hW K m (j+1) n O (by omega) (by omega) (by omega)
  | false=>
   rw [A6,DJ,A8];cases ((DM (W[j]).toInt).f==f) with
   | false=>
    rw [DK,DK,DA];exact lO N f ts i W hW K m (j+1) n O (by omega) (by omega) (by omega)
   | true=>
    rw [DJ,DJ,AE (show (O.length+1)*8≤EG by unfold EG; omega),DJ,BR];have ih:=lO N f ts i W hW K m (j+1) n (O++[IV.int (DM (W[j]).toInt).a]) (by omega) (by omega) (by rw [AS,C3]; omega);rw [va1] at ih;unfold mB at ih ⊢;rw [AS,C3] at ih;exact ih
abbrev uQ (f:Int) (ts:LI) (i:Int) (O:LI):St:=
 ⟨[(1,(.int .i64 f)),(4,.zs),(5,(.row 500 0 O.length)),(16,(.list true MX ts)),(17,(.int .i64 (ic ts.length))),(18,(.int .i64 i))],[(500,(some (.row true 3 false [.z] O)))]⟩
theorem tR (f:Int):∀ W:LI,(W.flatMap (I4 f)).length≤W.length
 | []=>AX _
 | w :: r=>by
  rw [vap,AS,AM]
  have:=tR f r
  unfold I4 at this ⊢;cases (!(DM w.toInt).lf&&(DM w.toInt).f==f) <;> simp only [BH,A9,A7,C3] <;> omega
theorem Nw {d c:Int} {t:IV} (h:HM d c t=true):(0≤VE t∧VE t < c)∧G4 (FH t) d=true:=by
 unfold HM at h;simp only [AH,B1,BO] at h;exact ⟨⟨by show 0≤(t.cell 0).toInt; omega,by show (t.cell 0).toInt < c; omega⟩,h.2.2⟩
theorem Nz {d c:Int} {ts:LI} (h:ts.all (HM d c)=true) {t:IV} (ht:t∈ts):(FH t).length≤31:=by
 have:=(Nw (CU.1 h t ht)).2
 exact (lR this).1.2
theorem Nm (N:Nat) (hN:40≤N) (f:Int) (ts:LI) (hts:ts.length≤8) (hW:∀ t∈ts,(FH t).length≤31) (K:Out→St→DP):∀ (m i n:Nat) (O:LI),i+m=ts.length→m < n→O.length≤31*i →
  D0 (N4 N) (DL OW [1,1,1,0,1,0,0]) Cf n (uQ f ts (i:Int) O) K=K (.exit 0) (uQ f ts (ic ts.length) (O++iZ (IM (ts.drop i) f)))
 | m,i,0,_,_,h,_=>absurd h (by omega)
 | 0,i,n+1,O,hd,_,_=>by
  have hi:i=ts.length:=by omega
  subst hi;rw [EA,Mj,J5 (AX _),DK,vaB];show K (.exit 0) _=K (.exit 0) (uQ f ts (ic ts.length) (O++[]));rw [C9]
 | m+1,i,n+1,O,hd,hn,hO=>by
  have hi:i < ts.length:=by omega
  have ei:AA AB ((i:Int)+1)=((i+1:Nat):Int):=HR (by omega);have hw:=hW ts[i] (C1 hi);have hl:=tR f (FH ts[i]);rw [EA,Mj,IK hi,DJ,JP,B3,DJ,JB hi,BF hi];refine (lO N f ts (i:Int) (FH ts[i]) hw _ (FH ts[i]).length 0 N O (by omega) (by omega) (by omega)).trans ?_;rw [Yb,ei,B5];have ih:=Nm N hN f ts hts hW K m (i+1) n (O++iZ ((FH ts[i]).flatMap (I4 f))) (by omega) (by omega) (by rw [AS,P2]; omega);have e:IM (ts[i] :: ts.drop (i+1)) f=(FH ts[i]).flatMap (I4 f)++IM (ts.drop (i+1)) f:=by unfold IM; rw [vap]
  rw [e];have e2:iZ ((FH ts[i]).flatMap (I4 f)++IM (ts.drop (i+1)) f)=iZ ((FH ts[i]).flatMap (I4 f))++iZ (IM (ts.drop (i+1)) f):=by unfold iZ; rw [List.map_append]
  rw [e2,← va1];exact ih
theorem zhG:DY PR B0 168 cO:=by
 refine Jv [(53,MP),(55,MQ)] [(202,jM),(201,jO)] [(5,Cf),(8,Cg)] cO [] Tryz.func168 zbc ⟨Z9,aA,trivial⟩ ⟨zhB,zhD,trivial⟩ ?_;intro vs r hwf h;unfold cO at h;split at h
 ·rename_i m f;replace h:=JZ h;obtain ⟨m,rfl,h⟩:=h;cases hm:E0 m with
  | false=>rw [hm] at h; simp [R.get] at h
  | true=>
   rw [hm,R.get_br,DJ,R.get_ok] at h;refine ⟨40,?_⟩;rw [← h];refine (zdW 40 m f).trans ?_;have hmp:=MD hm;rw [hm,A2,DK];refine (Nm 40 (by omega) f m.ts hmp.2.2.1 (fun t ht=>Nz hmp.2.2.2.2 ht) _ m.ts.length 0 40 [] (by omega) (by have:=hmp.2.2.1; omega) (B4 _)).trans ?_;rw [B5,DA,Ya,vbl,DJ,oP];have e1:(iZ (K7 (IM m.ts f))).length=(iZ (IM m.ts f)).length:=by rw [P2,P2]; exact (TA _).length_eq
   have e2:(iZ (KI (K7 (IM m.ts f)))).length≤(iZ (IM m.ts f)).length:=by rw [← e1,P2,P2]; exact iS _
   rw [e1,vbl,DJ,DJ,oP,C6 e2,DJ,BR];rfl
 ·simp [R.get] at h
theorem zhx:DY PR B0 126 cH:=by
 refine Jv [(166,cJ),(168,cO)] [(167,jN)] [] cH [[.list false [.z]]] Tryz.func126 za4 ⟨zhy,zhG,trivial⟩ ⟨zhC,trivial⟩ ?_;intro vs r hwf h;unfold cH at h;split at h
 ·rename_i m q b i;replace h:=JZ h;obtain ⟨m,rfl,h⟩:=h;replace h:=KU h;obtain ⟨q,rfl,h⟩:=h;replace h:=JY h;obtain ⟨b,rfl,h⟩:=h;cases hg:(E0 m&&H6 i) with
  | false=>rw [hg] at h; simp [R.get] at h
  | true=>
  rw [hg,R.get_br,DJ,R.get_ok] at h;rw [AH] at hg;refine ⟨0,?_⟩;rw [← h];have key:∀ k:Nat,k < 5→D1 (uT 0) m7 [.tmp 8] [[.list false [.z]]] [m.V,q.V,b.V,.int .i64 (k:Int)]=some (.list false [.z] (iZ (FF m q b k)),[]):=fun k hk=>by
   rw [zgA m q b k hk,Vo hg.1];rfl
  rcases Bj hg.2 with rfl | rfl | rfl | rfl | rfl
  ·exact key 0 (by omega)
  ·exact key 1 (by omega)
  ·exact key 2 (by omega)
  ·exact key 3 (by omega)
  ·exact key 4 (by omega)
 ·simp [R.get] at h
abbrev zjt (m:Md) (q:Qy) (b:Bx) (i:Int):St:=⟨[(3,(.ptr 3 0 0)),(4,(.ptr 4 0 0)),(5,(.ptr 5 0 0)),(6,(.int .i64 0)),(7,(.int .i64 0)),(8,(.bool false)),(11,(.int .i64 i))],[(3,(some (.box (Md.cs m)))),(4,(some (.box (Qy.cs q)))),(5,(some (.box (Bx.cs b))))]⟩
theorem Vv {m:Md} (hm:E0 m=true) (q:Qy) (b:Bx) (i:Nat):(FF m q b i).length≤248:=by
 have key:∀ (ts:LI) (f:Int),(∀ t∈ts,(FH t).length≤31)→(IM ts f).length≤31*ts.length:=by
  intro ts f
  induction ts with
  | nil=>intro _; exact AX _
  | cons t r ih=>
   intro ht;have h1:=ih fun u hu=>ht u (AW _ hu)
   have h2:=tR f (FH t);have h3:=ht t (AN ..);unfold IM at h1 ⊢;rw [vap,AS,AM];omega
 have hmp:=MD hm;have h1:=key m.ts (IS q (i:Int)) fun t ht=>Nz hmp.2.2.2.2 ht
 unfold FF;cases decide (IS q (i:Int) < 0) with
 | true=>exact B4 _
 | false=>
  rw [DK];have h2:(LF (b.g i).lo (b.g i).hi (JT m.ts (IS q (i:Int)))).length≤(JT m.ts (IS q (i:Int))).length:=List.length_filter_le ..
  have h3:(JT m.ts (IS q (i:Int))).length≤(IM m.ts (IS q (i:Int))).length:=by
   unfold JT;exact C2 (iS _) (Nat.le_of_eq (TA _).length_eq)
  have:=hmp.2.2.1
  omega
theorem Lh (N:Nat) (m:Md) (hm:E0 m=true) (q:Qy) (b:Bx):∀ (d i n:Nat),i+d=5→d < n →
  D0 (OR N) (DL SN [1,0,1,0,0]) ⟨[3,4,5,6,7,8,11],[3,4,5],[]⟩ n (zjt m q b (i:Int)) (DS 0 (DT (OR N) (DL SN [1,1]) (DV (OR N) none [(CF 6),(CF 7),(CF 8)] [[.z],[.z],[.bool]]))) =
   some (.tup [.int .i64 (KD (LT m q b d i)),.int .i64 (I2 (LT m q b d i)),.bool (LT m q b d i).isSome],[])
 | d,i,0,_,h=>absurd h (by omega)
 | 0,i,n+1,hd,_=>by
  have hi:i=5:=by omega
  subst hi;rw [EA,Mg,AL (show ¬ ((5:Nat):Int) < 5 by omega),DK];exact Xv N m q b _ _ _ _
 | d+1,i,n+1,hd,hn=>by
  have hp:H6 (i:Int)=true:=by unfold H6; rw [AE (show (0:Int)≤(i:Int) by omega),AE (show (i:Int) < 5 by omega)]; rfl
  have ei:AA AB ((i:Int)+1)=((i+1:Nat):Int):=HR (by omega);have hc:=Vv hm q b i;rw [EA,Mg,ei,AE (show (i:Int) < 5 by omega),DJ,hm,hp,B3,DJ,BD,LT,P2];generalize FF m q b i=cs at hc ⊢;have ed:decide (ic cs.length > 0)=decide (cs.length > 0):=by rw [vaZ]; simp
  rw [ed];cases hpos:decide (cs.length > 0) with
  | true=>
   have hpos:=A1 hpos;have ew:AA AB (Int.tdiv (AA AB (ic cs.length - 1)) 2)=(((cs.length - 1) / 2:Nat):Int):=by
    have e1:AA AB (ic cs.length - 1)=((cs.length - 1:Nat):Int):=by rw [EO (by simp only [ic]; omega) (by simp only [ic]; omega)]; simp only [ic]; omega
    have e2:Int.tdiv ((cs.length - 1:Nat):Int) 2=(((cs.length - 1) / 2:Nat):Int):=by
     rw [Int.tdiv_eq_ediv_of_nonneg (by omega)];omega
    rw [e1,e2,EO (by omega) (by omega)]
   have hlt:(cs.length - 1) / 2 < cs.length:=by omega
   rw [DJ,ew,JP,AE (show (((cs.length - 1) / 2:Nat):Int) < ic cs.length by simp only [ic]; omega),B3,DJ,DJ,BD];have eg:IV.toInt (AI (iZ cs) ((cs.length - 1) / 2) default)=cs.getD ((cs.length - 1) / 2) 0:=by
    unfold iZ;rw [BW,BW,CA,BE hlt];rfl
   rw [eg];exact Xw N m q b _ _ _ _
  | false=>
   rw [DK,DK];exact Lh N m hm q b d (i+1) n (by omega) (by omega)
theorem zhw:DY PR B0 124 cG:=by
 refine D7 [(126,cH)] [(2,⟨[3,4,5,6,7,8,11],[3,4,5],[]⟩)] cG [[.z],[.z],[.bool]] Tryz.func124 za3 ⟨zhx,trivial⟩ ?_;intro vs r hwf h;unfold cG at h;split at h
 ·rename_i m q b;replace h:=JZ h;obtain ⟨m,rfl,h⟩:=h;replace h:=KU h;obtain ⟨q,rfl,h⟩:=h;replace h:=JY h;obtain ⟨b,rfl,h⟩:=h;cases hg:(E0 m) with
  | false=>rw [hg] at h; simp [R.get] at h
  | true=>
  rw [hg,R.get_br,DJ,R.get_ok] at h;refine ⟨10,?_⟩;rw [← h];exact (zdN 10 m q b).trans (Lh 10 m hg q b 5 0 10 rfl (by omega))
 ·simp [R.get] at h
open Go Go.Proofs
def Rv (N:Nat):Env:=D6 [(65,MR),(66,WH)] [] 26 N
theorem zed (N:Nat) (m:Md) (q:Qy):D1 (Rv N) yE [.tmp 4] [[.list false []]] [(Md.V m),(Qy.V q)]=(cond (!FB m q) (some ((.bor (F8 m q [.zs,.zs,.i 4,.zs,.i 0,.i 0,.i 0,.i 0,.i 0,.i 0,.i 0])),[])) (some ((.bor (F8 m q [.vec 36 true E9 [(Bx.I (GR q))],.zs,.i 0,.zs,.i 0,.i 0,.i 0,.i 0,.i 0,.i 0,.i 0])),[]))):=by kernel_rfl
def gW (N:Nat):Env:=D6 [(125,g7)] [] 22 N
theorem zeh (N:Nat) (m:Md) (q:Qy) (left u00:LI) (k w0 w1 w2 w3 tw vs sp:Int):D1 (gW N) dX [.cell 2 55] [[.z,.list true [.bool,.z,.z],.z,.z,.z,.z,.z,.z]] [.bor (F8 m q [.vec 36 true E9 left,.vec 127 true EE u00,.i k,.zs,.i w0,.i w1,.i w2,.i w3,.i tw,.i vs,.i sp])]=(cond (k==0) (some ((.agg [.i 3,.list true EE [],.i w0,.i w1,.i w2,.i w3,.i tw,.i sp]),[(F8 m q [.vec 36 true E9 (AK (AG left) left),.vec 127 true EE (AK (AG u00) u00),.i k,.zs,.i w0,.i w1,.i w2,.i w3,.i tw,.i vs,.i sp])])) (some ((.agg [.i k,.list true EE [],.i w0,.i w1,.i w2,.i w3,.i tw,.i sp]),[(F8 m q [.vec 36 true E9 (AK (AG left) left),.vec 127 true EE (AK (AG u00) u00),.i k,.zs,.i w0,.i w1,.i w2,.i w3,.i tw,.i vs,.i sp])]))):=by kernel_rfl
theorem zei (N:Nat) (m:Md) (q:Qy) (left:LI) (k w0 w1 w2 w3 tw vs sp:Int):D1 (gW N) dX [.cell 2 55] [[.z,.list true [.bool,.z,.z],.z,.z,.z,.z,.z,.z]] [.bor (F8 m q [.vec 36 true E9 left,.zs,.i k,.zs,.i w0,.i w1,.i w2,.i w3,.i tw,.i vs,.i sp])]=(cond (k==0) (some ((.agg [.i 3,.list true EE [],.i w0,.i w1,.i w2,.i w3,.i tw,.i sp]),[(F8 m q [.vec 36 true E9 (AK (AG left) left),.zs,.i k,.zs,.i w0,.i w1,.i w2,.i w3,.i tw,.i vs,.i sp])])) (some ((.agg [.i k,.list true EE [],.i w0,.i w1,.i w2,.i w3,.i tw,.i sp]),[(F8 m q [.vec 36 true E9 (AK (AG left) left),.zs,.i k,.zs,.i w0,.i w1,.i w2,.i w3,.i tw,.i vs,.i sp])]))):=by kernel_rfl
theorem zej (N:Nat) (m:Md) (q:Qy) (left u00 vp:LI) (k w0 w1 w2 w3 tw vs sp:Int):D1 (gW N) dX [.cell 2 55] [[.z,.list true [.bool,.z,.z],.z,.z,.z,.z,.z,.z]] [.bor (F8 m q [.vec 36 true E9 left,.list true EE u00,.i k,.list true EE vp,.i w0,.i w1,.i w2,.i w3,.i tw,.i vs,.i sp])]=(cond (k==0) (cond (B6 (AG vp) 100000) (some ((.agg [.i 3,.list true EE (AT 0 (AK (AG vp) vp)),.i w0,.i w1,.i w2,.i w3,.i tw,.i sp]),[(F8 m q [.vec 36 true E9 (AK (AG left) left),.list true EE u00,.i k,.list true EE vp,.i w0,.i w1,.i w2,.i w3,.i tw,.i vs,.i sp])])) none) (cond (B6 (AG vp) 100000) (some ((.agg [.i k,.list true EE (AT 0 (AK (AG vp) vp)),.i w0,.i w1,.i w2,.i w3,.i tw,.i sp]),[(F8 m q [.vec 36 true E9 (AK (AG left) left),.list true EE u00,.i k,.list true EE vp,.i w0,.i w1,.i w2,.i w3,.i tw,.i vs,.i sp])])) none)):=by kernel_rfl
theorem zek (N:Nat) (m:Md) (q:Qy) (k w0 w1 w2 w3 tw vs sp:Int):D1 (gW N) dX [.cell 2 55] [[.z,.list true [.bool,.z,.z],.z,.z,.z,.z,.z,.z]] [.bor (F8 m q [.zs,.zs,.i k,.zs,.i w0,.i w1,.i w2,.i w3,.i tw,.i vs,.i sp])]=(cond (k==0) (some ((.agg [.i 3,.list true EE [],.i w0,.i w1,.i w2,.i w3,.i tw,.i sp]),[(F8 m q [.zs,.zs,.i k,.zs,.i w0,.i w1,.i w2,.i w3,.i tw,.i vs,.i sp])])) (some ((.agg [.i k,.list true EE [],.i w0,.i w1,.i w2,.i w3,.i tw,.i sp]),[(F8 m q [.zs,.zs,.i k,.zs,.i w0,.i w1,.i w2,.i w3,.i tw,.i vs,.i sp])]))):=by kernel_rfl
def gV (N:Nat):Env:=D6 [(111,PP),(122,cE),(123,cF),(124,cG),(70,WG)] [] 165 N
theorem Dy (N:Nat) (m:Md) (q:Qy) (left u00:LI) (k w0 w1 w2 w3 tw vs sp:Int):D1 (gV N) dW [.tmp 2] [[.bool]] [.bor (F8 m q [.vec 36 true E9 left,.vec 127 true EE u00,.i k,.zs,.i w0,.i w1,.i w2,.i w3,.i tw,.i vs,.i sp])]=(cond (k != 0) (some ((.bool false),[(F8 m q [.vec 36 true E9 (AK (AG left) left),.vec 127 true EE (AK (AG u00) u00),.i k,.zs,.i w0,.i w1,.i w2,.i w3,.i tw,.i vs,.i sp])])) (cond (decide (sp≥Qy.bu q)) (some ((.bool false),[(F8 m q [.vec 36 true E9 (AK (AG left) left),.vec 127 true EE (AK (AG u00) u00),.i k,.zs,.i w0,.i w1,.i w2,.i w3,.i tw,.i vs,.i sp])])) (cond (decide (0≤AA AB (ic (AG left - 0) - 1))&&decide (AA AB (ic (AG left - 0) - 1) < ic (AG left - 0))) (cond (decide (0≤AA AB (ic (AG left - 0) - 1))&&decide (AA AB (ic (AG left - 0) - 1)≤ic (AG left - 0))) (cond (G0 m q (D9 (AI left (0+AF (AA AB (ic (AG left - 0) - 1))) default))) (cond (decide ((AG u00+1)*24≤EG)) (cond (ic (0+AF (AA AB (ic (AG left - 0) - 1)) - 0)==0) (some ((.bool true),[(F8 m q [.vec 36 true E9 (AK (0+AF (AA AB (ic (AG left - 0) - 1))) left),.list true EE (AT 0 (AK (AG u00+1) (AK (AG u00) u00++[IV.agg [IV.bool true,IV.int 0,IV.int 0]]))),.i 1,.list true EE (AT 0 (AK (AG u00+1) (AK (AG u00) u00++[IV.agg [IV.bool true,IV.int 0,IV.int 0]]))),.i 0,.i 0,.i 0,.i 0,.i 0,.i 0,.i (AA AB (sp+1))])])) (some ((.bool true),[(F8 m q [.vec 36 true E9 (AK (0+AF (AA AB (ic (AG left - 0) - 1))) left),.vec 127 true EE (AK (AG u00+1) (AK (AG u00) u00++[IV.agg [IV.bool true,IV.int 0,IV.int 0]])),.i k,.zs,.i w0,.i w1,.i w2,.i w3,.i tw,.i vs,.i (AA AB (sp+1))])]))) none) (cond (HJ m q (Bx.low (D9 (AI left (0+AF (AA AB (ic (AG left - 0) - 1))) default))) (Sp.hi (Bx.s4 (D9 (AI left (0+AF (AA AB (ic (AG left - 0) - 1))) default))))) (some ((.bool true),[(F8 m q [.vec 36 true E9 (AK (0+AF (AA AB (ic (AG left - 0) - 1))) left),.vec 127 true EE (AK (AG u00) u00),.i 2,.zs,.i (Pt.p0 (Bx.low (D9 (AI left (0+AF (AA AB (ic (AG left - 0) - 1))) default)))),.i (Pt.p1 (Bx.low (D9 (AI left (0+AF (AA AB (ic (AG left - 0) - 1))) default)))),.i (Pt.p2 (Bx.low (D9 (AI left (0+AF (AA AB (ic (AG left - 0) - 1))) default)))),.i (Pt.p3 (Bx.low (D9 (AI left (0+AF (AA AB (ic (AG left - 0) - 1))) default)))),.i (Sp.hi (Bx.s4 (D9 (AI left (0+AF (AA AB (ic (AG left - 0) - 1))) default)))),.i 0,.i (AA AB (sp+1))])])) (cond (E0 m) (cond (!Option.isSome (E2 m q (D9 (AI left (0+AF (AA AB (ic (AG left - 0) - 1))) default)))) (some ((.bool true),[(F8 m q [.vec 36 true E9 (AK (0+AF (AA AB (ic (AG left - 0) - 1))) left),.vec 127 true EE (AK (AG u00) u00),.i 3,.zs,.i 0,.i 0,.i 0,.i 0,.i 0,.i 0,.i (AA AB (sp+1))])])) (cond (H6 (KD (E2 m q (D9 (AI left (0+AF (AA AB (ic (AG left - 0) - 1))) default))))) (cond (decide ((0+AF (AA AB (ic (AG left - 0) - 1))+2)*80≤EG)) (cond (decide ((AG u00+1)*24≤EG)) (some ((.bool true),[(F8 m q [.vec 36 true E9 (AK (0+AF (AA AB (ic (AG left - 0) - 1))+2) (AK (0+AF (AA AB (ic (AG left - 0) - 1))) left++[(Bx.I (Bx.cutH (D9 (AI left (0+AF (AA AB (ic (AG left - 0) - 1))) default)) (KD (E2 m q (D9 (AI left (0+AF (AA AB (ic (AG left - 0) - 1))) default)))) (I2 (E2 m q (D9 (AI left (0+AF (AA AB (ic (AG left - 0) - 1))) default)))))),(Bx.I (Bx.cutL (D9 (AI left (0+AF (AA AB (ic (AG left - 0) - 1))) default)) (KD (E2 m q (D9 (AI left (0+AF (AA AB (ic (AG left - 0) - 1))) default)))) (I2 (E2 m q (D9 (AI left (0+AF (AA AB (ic (AG left - 0) - 1))) default))))))])),.vec 127 true EE (AK (AG u00+1) (AK (AG u00) u00++[IV.agg [IV.bool false,IV.int (KD (E2 m q (D9 (AI left (0+AF (AA AB (ic (AG left - 0) - 1))) default)))),IV.int (I2 (E2 m q (D9 (AI left (0+AF (AA AB (ic (AG left - 0) - 1))) default))))]])),.i k,.zs,.i w0,.i w1,.i w2,.i w3,.i tw,.i vs,.i (AA AB (sp+1))])])) none) none) none)) none))) none) none))):=by kernel_rfl
theorem Dz (N:Nat) (m:Md) (q:Qy) (left:LI) (k w0 w1 w2 w3 tw vs sp:Int):D1 (gV N) dW [.tmp 2] [[.bool]] [.bor (F8 m q [.vec 36 true E9 left,.zs,.i k,.zs,.i w0,.i w1,.i w2,.i w3,.i tw,.i vs,.i sp])]=(cond (k != 0) (some ((.bool false),[(F8 m q [.vec 36 true E9 (AK (AG left) left),.zs,.i k,.zs,.i w0,.i w1,.i w2,.i w3,.i tw,.i vs,.i sp])])) (cond (decide (sp≥Qy.bu q)) (some ((.bool false),[(F8 m q [.vec 36 true E9 (AK (AG left) left),.zs,.i k,.zs,.i w0,.i w1,.i w2,.i w3,.i tw,.i vs,.i sp])])) (cond (decide (0≤AA AB (ic (AG left - 0) - 1))&&decide (AA AB (ic (AG left - 0) - 1) < ic (AG left - 0))) (cond (decide (0≤AA AB (ic (AG left - 0) - 1))&&decide (AA AB (ic (AG left - 0) - 1)≤ic (AG left - 0))) (cond (G0 m q (D9 (AI left (0+AF (AA AB (ic (AG left - 0) - 1))) default))) (cond (ic (0+AF (AA AB (ic (AG left - 0) - 1)) - 0)==0) (some ((.bool true),[(F8 m q [.vec 36 true E9 (AK (0+AF (AA AB (ic (AG left - 0) - 1))) left),.list true EE [(IV.agg [IV.bool true,IV.int 0,IV.int 0])],.i 1,.list true EE [(IV.agg [IV.bool true,IV.int 0,IV.int 0])],.i 0,.i 0,.i 0,.i 0,.i 0,.i 0,.i (AA AB (sp+1))])])) (some ((.bool true),[(F8 m q [.vec 36 true E9 (AK (0+AF (AA AB (ic (AG left - 0) - 1))) left),.vec 127 true EE [(IV.agg [IV.bool true,IV.int 0,IV.int 0])],.i k,.zs,.i w0,.i w1,.i w2,.i w3,.i tw,.i vs,.i (AA AB (sp+1))])]))) (cond (HJ m q (Bx.low (D9 (AI left (0+AF (AA AB (ic (AG left - 0) - 1))) default))) (Sp.hi (Bx.s4 (D9 (AI left (0+AF (AA AB (ic (AG left - 0) - 1))) default))))) (some ((.bool true),[(F8 m q [.vec 36 true E9 (AK (0+AF (AA AB (ic (AG left - 0) - 1))) left),.zs,.i 2,.zs,.i (Pt.p0 (Bx.low (D9 (AI left (0+AF (AA AB (ic (AG left - 0) - 1))) default)))),.i (Pt.p1 (Bx.low (D9 (AI left (0+AF (AA AB (ic (AG left - 0) - 1))) default)))),.i (Pt.p2 (Bx.low (D9 (AI left (0+AF (AA AB (ic (AG left - 0) - 1))) default)))),.i (Pt.p3 (Bx.low (D9 (AI left (0+AF (AA AB (ic (AG left - 0) - 1))) default)))),.i (Sp.hi (Bx.s4 (D9 (AI left (0+AF (AA AB (ic (AG left - 0) - 1))) default)))),.i 0,.i (AA AB (sp+1))])])) (cond (E0 m) (cond (!Option.isSome (E2 m q (D9 (AI left (0+AF (AA AB (ic (AG left - 0) - 1))) default)))) (some ((.bool true),[(F8 m q [.vec 36 true E9 (AK (0+AF (AA AB (ic (AG left - 0) - 1))) left),.zs,.i 3,.zs,.i 0,.i 0,.i 0,.i 0,.i 0,.i 0,.i (AA AB (sp+1))])])) (cond (H6 (KD (E2 m q (D9 (AI left (0+AF (AA AB (ic (AG left - 0) - 1))) default))))) (cond (decide ((0+AF (AA AB (ic (AG left - 0) - 1))+2)*80≤EG)) (some ((.bool true),[(F8 m q [.vec 36 true E9 (AK (0+AF (AA AB (ic (AG left - 0) - 1))+2) (AK (0+AF (AA AB (ic (AG left - 0) - 1))) left++[(Bx.I (Bx.cutH (D9 (AI left (0+AF (AA AB (ic (AG left - 0) - 1))) default)) (KD (E2 m q (D9 (AI left (0+AF (AA AB (ic (AG left - 0) - 1))) default)))) (I2 (E2 m q (D9 (AI left (0+AF (AA AB (ic (AG left - 0) - 1))) default)))))),(Bx.I (Bx.cutL (D9 (AI left (0+AF (AA AB (ic (AG left - 0) - 1))) default)) (KD (E2 m q (D9 (AI left (0+AF (AA AB (ic (AG left - 0) - 1))) default)))) (I2 (E2 m q (D9 (AI left (0+AF (AA AB (ic (AG left - 0) - 1))) default))))))])),.vec 127 true EE [(IV.agg [IV.bool false,IV.int (KD (E2 m q (D9 (AI left (0+AF (AA AB (ic (AG left - 0) - 1))) default)))),IV.int (I2 (E2 m q (D9 (AI left (0+AF (AA AB (ic (AG left - 0) - 1))) default))))])],.i k,.zs,.i w0,.i w1,.i w2,.i w3,.i tw,.i vs,.i (AA AB (sp+1))])])) none) none)) none))) none) none))):=by kernel_rfl
theorem zef (N:Nat) (m:Md) (q:Qy) (left u00 vp:LI) (k w0 w1 w2 w3 tw vs sp:Int):D1 (gV N) dW [.tmp 2] [[.bool]] [.bor (F8 m q [.vec 36 true E9 left,.list true EE u00,.i k,.list true EE vp,.i w0,.i w1,.i w2,.i w3,.i tw,.i vs,.i sp])]=(cond (k != 0) (some ((.bool false),[(F8 m q [.vec 36 true E9 (AK (AG left) left),.list true EE u00,.i k,.list true EE vp,.i w0,.i w1,.i w2,.i w3,.i tw,.i vs,.i sp])])) (cond (decide (sp≥Qy.bu q)) (some ((.bool false),[(F8 m q [.vec 36 true E9 (AK (AG left) left),.list true EE u00,.i k,.list true EE vp,.i w0,.i w1,.i w2,.i w3,.i tw,.i vs,.i sp])])) (cond (decide (0≤AA AB (ic (AG left - 0) - 1))&&decide (AA AB (ic (AG left - 0) - 1) < ic (AG left - 0))) (cond (decide (0≤AA AB (ic (AG left - 0) - 1))&&decide (AA AB (ic (AG left - 0) - 1)≤ic (AG left - 0))) (cond (G0 m q (D9 (AI left (0+AF (AA AB (ic (AG left - 0) - 1))) default))) none (cond (HJ m q (Bx.low (D9 (AI left (0+AF (AA AB (ic (AG left - 0) - 1))) default))) (Sp.hi (Bx.s4 (D9 (AI left (0+AF (AA AB (ic (AG left - 0) - 1))) default))))) (some ((.bool true),[(F8 m q [.vec 36 true E9 (AK (0+AF (AA AB (ic (AG left - 0) - 1))) left),.list true EE u00,.i 2,.zs,.i (Pt.p0 (Bx.low (D9 (AI left (0+AF (AA AB (ic (AG left - 0) - 1))) default)))),.i (Pt.p1 (Bx.low (D9 (AI left (0+AF (AA AB (ic (AG left - 0) - 1))) default)))),.i (Pt.p2 (Bx.low (D9 (AI left (0+AF (AA AB (ic (AG left - 0) - 1))) default)))),.i (Pt.p3 (Bx.low (D9 (AI left (0+AF (AA AB (ic (AG left - 0) - 1))) default)))),.i (Sp.hi (Bx.s4 (D9 (AI left (0+AF (AA AB (ic (AG left - 0) - 1))) default)))),.i 0,.i (AA AB (sp+1))])])) (cond (E0 m) (cond (!Option.isSome (E2 m q (D9 (AI left (0+AF (AA AB (ic (AG left - 0) - 1))) default)))) (some ((.bool true),[(F8 m q [.vec 36 true E9 (AK (0+AF (AA AB (ic (AG left - 0) - 1))) left),.list true EE u00,.i 3,.zs,.i 0,.i 0,.i 0,.i 0,.i 0,.i 0,.i (AA AB (sp+1))])])) (cond (H6 (KD (E2 m q (D9 (AI left (0+AF (AA AB (ic (AG left - 0) - 1))) default))))) (cond (decide ((0+AF (AA AB (ic (AG left - 0) - 1))+2)*80≤EG)) none none) none)) none))) none) none))):=by kernel_rfl
theorem zeg (N:Nat) (m:Md) (q:Qy) (k w0 w1 w2 w3 tw vs sp:Int):D1 (gV N) dW [.tmp 2] [[.bool]] [.bor (F8 m q [.zs,.zs,.i k,.zs,.i w0,.i w1,.i w2,.i w3,.i tw,.i vs,.i sp])]=(cond (k != 0) (some ((.bool false),[(F8 m q [.zs,.zs,.i k,.zs,.i w0,.i w1,.i w2,.i w3,.i tw,.i vs,.i sp])])) (cond (decide (sp≥Qy.bu q)) (some ((.bool false),[(F8 m q [.zs,.zs,.i k,.zs,.i w0,.i w1,.i w2,.i w3,.i tw,.i vs,.i sp])])) none)):=by kernel_rfl
open Go Go.Proofs Go.RowKit Go.Sort Go.Lib
theorem zip:(PR.info? 127).map (fun i=>(i.zero,i.size,i.bytes))=some (some (.agg #[.bool false,.int .i64 0,.int .i64 0]),3,24):=by kernel_rfl
set_option maxHeartbeats 4000000 in
theorem Va (b:Addr) (n c:Nat) (news:List Value) (w:World) (hl:news.length=n*3) (hn:n≤maxLen) (hbig:n*24≤140737488355328)
  (hc:∀ j u,news[j]?=some u→w.cell? (b.add j)=some u) (h1:∀ u∈news,u.oneCell'=true) :
  Calls Tryz.prog 125 #[.slice (some b) n c] w fun e w'=>∃ v',e = .returned v'∧w'.ownsRow w.heap.size 127 3 v' n news∧Below w.heap.size w w':=by
 obtain ⟨i0,hi,hz0,hz1,hz2⟩:∃ i,PR.info? 127=some i∧i.zero=some (.agg #[.bool false,.int .i64 0,.int .i64 0])∧i.size=3∧i.bytes=24:=by
  have h:=zip;rw [Option.map_eq_some_iff] at h;obtain ⟨i,hi,he⟩:=h;simp only [Prod.mk.injEq] at he;exact ⟨i,hi,he⟩
 have qS:∀ (w:World) (a:Option Addr) (n c n' c':Nat),(binOp .eql 51 (.slice a n c) (.slice none n' c')).run Tryz.prog w = .ok (.bool a.isNone) w:=fun w a n c n' c'=>Lib.run_eql_slice_nil w _ _ a n c n' c' Tryz.underlying51
 have A:Aside (∀ j u,news[j]?=some u→w.cell? (b.add j)=some u):=hc;clear hc
 go_enter Tryz.func125,Tryz.ntmps125
 go_wp2_with (at_builtin; refine wpList_append_own _ rfl _ _ 51 rfl w.heap.size 127 i0 (.agg #[.bool false,.int .i64 0,.int .i64 0]) 3 24 Tryz.underlying51 hi hz0 hz1 hz2 rfl (by decide) _ _ _ rfl (World.ownsRow_made w #[] 0 (Nat.le_refl _) (Nat.zero_le _) (by simp)) b n c news rfl ?qc1 ?qc2 ?qc3 ?qc4 ?qc5 ?qc6 ?_)
 case qc1=>exact hl
 case qc2=>
  intro j u hj;exact Lib.cell?_alloc_some _ (A.out j u hj)
 case qc3=>exact h1
 case qc4=>rw [Nat.zero_add]; exact hn
 case qc5=>rw [Nat.zero_add]; exact hbig
 case qc6=>simp
 intro v' w1 hown hgrow hnil
 go_wp2
 go_ret
 refine ⟨v',rfl,by simpa using hown,?_⟩;exact ((Below.refl _ w).alloc (Nat.le_refl _) _).grown hgrow (by simp) (by intro k hk; simp [Value.ownBlock] at hk; omega)
set_option maxHeartbeats 1000000 in
theorem Vb (n c:Nat) (w:World):Calls Tryz.prog 125 #[.slice none n c] w fun e w'=>e = .returned (.slice none 0 0)∧w'=w:=by
 have qS:∀ (w:World) (a:Option Addr) (n c n' c':Nat),(binOp .eql 51 (.slice a n c) (.slice none n' c')).run Tryz.prog w = .ok (.bool a.isNone) w:=fun w a n c n' c'=>Lib.run_eql_slice_nil w _ _ a n c n' c' Tryz.underlying51
 go_enter Tryz.func125,Tryz.ntmps125
 go_wp2
 go_ret
 exact ⟨rfl,rfl⟩
def PH (y:IV):Nat→Value
 | 0=>.bool (G3 y)
 | 1=>.int .i64 (FC y)
 | _=>.int .i64 (FV y)
def QG (l:LI):List Value:=l.flatMap fun y=>[PH y 0,PH y 1,PH y 2]
theorem tB:∀ l:LI,(QG l).length=l.length*3
 | []=>rfl
 | y :: r=>by
  have:=tB r
  unfold QG at this ⊢;rw [vap,AS,this,AM];simp;omega
theorem lF:∀ (l:LI) (j:Nat) (u:Value),(QG l)[j]?=some u→∃ i y k,j=i*3+k∧k < 3∧l[i]?=some y∧u=PH y k
 | [],j,u,h=>by simp [QG] at h
 | y :: r,j,u,h=>by
  have e:QG (y :: r)=[PH y 0,PH y 1,PH y 2]++QG r:=by unfold QG; rw [vap]
  rw [e] at h
  match j,h with
  | 0,h=>exact ⟨0,y,0,rfl,by omega,rfl,by simpa using h.symm⟩
  | 1,h=>exact ⟨0,y,1,rfl,by omega,rfl,by simpa using h.symm⟩
  | 2,h=>exact ⟨0,y,2,rfl,by omega,rfl,by simpa using h.symm⟩
  | j+3,h=>
   obtain ⟨i,z,k,rfl,hk,hi,hu⟩:=lF r j u (by simpa using h);exact ⟨i+1,z,k,by omega,hk,by simpa using hi,hu⟩
theorem zih (l:LI) (i:Nat) (y:IV) (hy:l[i]?=some y) (k:Nat) (hk:k < 3):(QG l)[i*3+k]?=some (PH y k):=by
 have hi:i < l.length:=(BS.1 hy).1;have hlt:i*3+k < (QG l).length:=by rw [tB]; omega
 obtain ⟨i',y',k',h1,h2,h3,h4⟩:=lF l (i*3+k) _ (BE hlt);obtain rfl:i'=i:=by omega
 obtain rfl:k'=k:=by omega
 rw [hy] at h3;simp only [AC] at h3;subst h3;rw [BE hlt,h4]
theorem zhW:DY PR B0 125 g7:=by
 intro w X γ vs xs r out hsp hg hx hR hV;unfold g7 at hsp;simp only at hsp;split at hsp
 ·rename_i l;cases hc:B6 l.length 100000 with
  | false=>rw [hc] at hsp; simp [R.get] at hsp
  | true=>
   rw [hc] at hsp;have hc:=AO hc;simp only [R.get,AC,AU] at hsp;obtain ⟨rfl,rfl⟩:=hsp;obtain ⟨x0,rfl⟩:∃ x0,xs=[x0]:=by
    have:=hV.length
    simp at this
    match xs,this with
    | [a],_=>exact ⟨a,rfl⟩
   simp only [A0,CB,ER,VRels,VRel,B7] at hV;simp only [Kd.Rel,IV.toList] at hV;obtain ⟨p,c,rfl,hc1,hc2,hc3,hcell⟩:=hV;have key:∀ i y,l[i]?=some y→∃ b o,p=some ⟨b,o,none⟩∧(∀ k,k < 3→w.cell? ⟨b,o+i*3+k,none⟩=some (PH y k))∧(AB.min≤FC y∧FC y≤AB.max)∧(AB.min≤FV y∧FV y≤AB.max):=fun i y hy=>by
    obtain ⟨b,o,rfl,_,_,hr⟩:=hcell i y hy;simp only [Kd.RelAll,B7,AM,A7,BL,C8] at hr;obtain ⟨⟨u0,a0,b0⟩,⟨u1,a1,b1⟩,⟨u2,a2,b2⟩⟩:=hr;simp only [Kd.Rel,GD] at b0 b1 b2;refine ⟨b,o,rfl,fun k hk=>?_,b1.2,b2.2⟩
    match k,hk with
    | 0,_=>rw [b0] at a0; exact a0
    | 1,_=>rw [b1.1] at a1; exact a1
    | 2,_=>rw [b2.1] at a2; exact a2
   have hel:∀ (w':World) (O:Nat→Prop) i y,l[i]?=some y→Kd.RelAll w' O EE (GD true y) 0 (fun j u=>(QG l)[i*EE.length+j]?=some u):=fun w' O i y hy=>by
    obtain ⟨_,_,_,_,k1,k2⟩:=key i y hy;simp only [Kd.RelAll,AM,A7,BL,C8,B7];have g:=zih l i y hy;refine ⟨⟨_,g 0 (by omega),?_⟩,⟨_,g 1 (by omega),?_⟩,⟨_,g 2 (by omega),?_⟩⟩
    ·simp only [Kd.Rel,GD,PH,G3]
    ·simp only [Kd.Rel,GD,PH,FC]; exact ⟨trivial,k1⟩
    ·simp only [Kd.Rel,GD,PH,FV]; exact ⟨trivial,k2⟩
   refine Jt hR rfl (by decide) (by decide) hc3 (Does.of_calls Tryz.func125 (by kernel_rfl) (by kernel_rfl) ?_);cases p with
   | none=>
    have h0:l=[]:=by
     cases l with
     | nil=>rfl
     | cons y r=>
      obtain ⟨b,o,hp,_⟩:=key 0 y rfl;cases hp
    subst h0;refine (Vb _ c w).mono ?_;rintro e w' ⟨rfl,rfl⟩;exact ⟨_,[],rfl,Keep.refl _ _,⟨rfl,.inl ⟨rfl,rfl⟩⟩,hel _⟩
   | some a=>
    refine (Va a l.length c (QG l) w (tB l) (by unfold maxLen; omega) (by omega) (fun j u hj=>?_) (fun u hu=>?_)).mono ?_
    ·obtain ⟨i,y,k,rfl,hk,hi,rfl⟩:=lF l j u hj;obtain ⟨b,o,hp,hu,_⟩:=key i y hi;simp only [AC] at hp;subst hp;rw [Addr.add_lit,← vaS];exact hu k hk
    ·obtain ⟨j,hj⟩:=List.getElem?_of_mem hu;obtain ⟨i,y,k,_,hk,_,rfl⟩:=lF l j u hj
     match k,hk with
     | 0,_=>rfl
     | 1,_=>rfl
     | 2,_=>rfl
    ·rintro e w' ⟨v',rfl,hown,hw⟩;exact ⟨v',_,rfl,Keep.below hw,hown,hel _⟩
 ·simp [R.get] at hsp
open Go Go.Proofs
set_option maxRecDepth 100000
theorem zcC {l:List V} {m:Md} (h:mdOf? l=some m):l=m.cs:=by
 unfold mdOf? at h;split at h
 ·simp only [AC] at h;subst h;rfl
 ·cases h
theorem zfX {l:List V} {q:Qy} (h:qyOf? l=some q):l=q.cs:=by
 unfold qyOf? at h;split at h
 ·simp only [AC] at h;subst h;rfl
 ·cases h
theorem zgJ {l r:List V} {m:Md} {q:Qy} (h:seOf? l=some (m,q,r)):l=F8 m q r:=by
 unfold seOf? at h;split at h
 ·rename_i m' q' h1 h2;simp only [AC,AU] at h;obtain ⟨rfl,rfl,rfl⟩:=h;unfold F8;rw [← zcC h1,← zfX h2,List.take_append_drop,List.take_append_drop]
 ·cases h
def Li (t:Nat) (s:Sr):Prop:=t≤3∧(t=3→s.left=[])∧(t=1∨t=3→s.proof=[])∧(t≠2→s.v.proof=[])
theorem zig {r:List V} {t:Nat} {s:Sr} (h:srT? r=some (t,s)) (m:Md) (q:Qy):F8 m q r=PG t m q s∧Li t s:=by
 unfold srT? at h;split at h
 case h_5=>cases h
 all_goals
  simp only [AC,AU] at h;obtain ⟨rfl,rfl⟩:=h;refine ⟨rfl,by omega,?_,?_,?_⟩ <;> intro h <;> first | rfl | (exfalso; omega)
theorem Pb {v:V} {k:Nat→Md→Qy→Sr→R} {z:V × List (List V)} (h:(lZ v k).get=some z):∃ t m q s,v = .bor (PG t m q s)∧Li t s∧(k t m q s).get=some z:=by
 unfold lZ at h;split at h
 ·rename_i l;split at h
  ·rename_i m q r hl;split at h
   ·rename_i t s hr;obtain ⟨e,hw⟩:=zig hr m q;exact ⟨t,m,q,s,by rw [zgJ hl,e],hw,h⟩
   ·simp [R.get] at h
  ·simp [R.get] at h
 ·simp [R.get] at h
theorem zhS:DY PR B0 74 dA:=by
 refine D7 [(65,MR),(66,WH)] [] dA [[.list false []]] Tryz.func74 zbu ⟨aB,Jz,trivial⟩ ?_;intro vs r hwf h;unfold dA at h;split at h
 ·rename_i m q;replace h:=JZ h;obtain ⟨m,rfl,h⟩:=h;replace h:=KU h;obtain ⟨q,rfl,h⟩:=h;refine ⟨0,(zed 0 m q).trans ?_⟩;cases hr:FB m q with
  | true=>rw [hr,R.get_br,DJ,R.get_ok] at h; exact h
  | false=>rw [hr,R.get_br,DK,R.get_ok] at h; exact h
 ·simp [R.get] at h
theorem zhV:DY PR B0 76 dE:=by
 refine D7 [(125,g7)] [] dE [[.z,.list true [.bool,.z,.z],.z,.z,.z,.z,.z,.z]] Tryz.func76 zbx ⟨zhW,trivial⟩ ?_;intro vs r hwf h;unfold dE at h;split at h
 ·replace h:=Pb h;obtain ⟨t,m,q,s,rfl,hw,h⟩:=h;cases hg:B6 s.v.proof.length 100000 with
  | false=>rw [hg] at h; simp [R.get] at h
  | true=>
   rw [hg,R.get_br,DJ,R.get_ok] at h;refine ⟨0,?_⟩;rw [← h];obtain ⟨left,proof,⟨k,vp,a,b,c,d,tw,vs⟩,sp⟩:=s;replace hg:B6 vp.length 100000=true:=hg
   match t,hw with
   | 0,hw=>
    obtain rfl:vp=[]:=hw.2.2.2 (by omega);refine (zeh 0 m q left proof k a b c d tw vs sp).trans ?_;rw [BR,BR];unfold GS;cases (k==0) <;> rfl
   | 1,hw=>
    obtain rfl:vp=[]:=hw.2.2.2 (by omega);refine (zei 0 m q left k a b c d tw vs sp).trans ?_;rw [BR];unfold GS;cases (k==0) <;> rfl
   | 2,_=>
    refine (zej 0 m q left proof vp k a b c d tw vs sp).trans ?_;rw [BR,hg,DJ,DJ,B5,BR];unfold GS;cases (k==0) <;> rfl
   | 3,hw=>
    obtain rfl:vp=[]:=hw.2.2.2 (by omega);refine (zek 0 m q k a b c d tw vs sp).trans ?_;unfold GS;cases (k==0) <;> rfl
   | t+4,hw=>exact absurd hw.1 (by omega)
 ·simp [R.get] at h
theorem Ku (m:Md) (q:Qy) (b:Bx):∀ (d i:Nat),i+d=5→(LT m q b d i).isSome=true→H6 (KD (LT m q b d i))=true
 | 0,i,_,h=>by rw [LT] at h; cases h
 | d+1,i,hd,h=>by
  rw [LT] at h ⊢;cases hc:decide ((FF m q b i).length > 0) with
  | true=>
   rw [DJ];show H6 (i:Int)=true;unfold H6;rw [AE (show (0:Int)≤(i:Int) by omega),AE (show (i:Int) < 5 by omega)];rfl
  | false=>
   rw [hc,DK] at h;rw [DK];exact Ku m q b d (i+1) (by omega) h
theorem zhU:DY PR B0 75 dD:=by
 refine D7 [(111,PP),(122,cE),(123,cF),(124,cG),(70,WG)] [] dD [[.bool]] Tryz.func75 zbw ⟨k9,zhu,zhv,zhw,Jy,trivial⟩ ?_;intro vs r hwf h;unfold dD at h;split at h
 ·replace h:=Pb h;obtain ⟨t,m,q,s,rfl,hw,h⟩:=h;refine ⟨0,?_⟩;obtain ⟨left,proof,⟨k,vp,a,b,c,d,tw,vs⟩,sp⟩:=s;cases ho:JR q ⟨left,proof,⟨k,vp,a,b,c,d,tw,vs⟩,sp⟩ with
  | true=>
   rw [ho,R.get_br,DJ,R.get_ok] at h;rw [← h];have hk:(k != 0)=true∨(k != 0)=false∧decide (sp≥q.bu)=true:=by
    unfold JR at ho;have e:(k != 0)=!(k==0):=rfl;rw [e];cases hk:(k==0) with
    | false=>exact .inl rfl
    | true=>
     replace ho:(!(k==0)||decide (sp≥q.bu))=true:=ho;rw [hk,A2,vax] at ho;exact .inr ⟨rfl,ho⟩
   match t,hw with
   | 0,hw=>
    refine (Dy 0 m q left proof k a b c d tw vs sp).trans ?_;rcases hk with hk | ⟨hk,hs⟩
    ·rw [hk,DJ,BR,BR]; rfl
    ·rw [hk,DK,hs,DJ,BR,BR]; rfl
   | 1,hw=>
    refine (Dz 0 m q left k a b c d tw vs sp).trans ?_;rcases hk with hk | ⟨hk,hs⟩
    ·rw [hk,DJ,BR]; rfl
    ·rw [hk,DK,hs,DJ,BR]; rfl
   | 2,hw=>
    refine (zef 0 m q left proof vp k a b c d tw vs sp).trans ?_;rcases hk with hk | ⟨hk,hs⟩
    ·rw [hk,DJ,BR]; rfl
    ·rw [hk,DK,hs,DJ,BR]; rfl
   | 3,hw=>
    refine (zeg 0 m q k a b c d tw vs sp).trans ?_;rcases hk with hk | ⟨hk,hs⟩
    ·rw [hk,DJ]; rfl
    ·rw [hk,DK,hs,DJ]; rfl
   | t+4,hw=>exact absurd hw.1 (by omega)
  | false=>
   rw [ho,R.get_br,DK] at h;unfold JR at ho;replace ho:(!(k==0)||decide (sp≥q.bu))=false:=ho;rw [vas] at ho;have hk:(k != 0)=false:=ho.1;have hsp:decide (sp≥q.bu)=false:=ho.2;cases hg:(B6 t 1&&(FB m q&&(decide (0≤sp)&&(BU 0 left.length&&(B6 left.length 100000&&B6 proof.length 100000))))) with
   | false=>
    replace h:(R.br (B6 t 1&&(FB m q&&(decide (0≤sp)&&(BU 0 left.length&&(B6 left.length 100000&&B6 proof.length 100000))))) _ R.no).get=some r:=h;rw [hg] at h;simp [R.get] at h
   | true=>
    replace h:(R.br (B6 t 1&&(FB m q&&(decide (0≤sp)&&(BU 0 left.length&&(B6 left.length 100000&&B6 proof.length 100000))))) _ R.no).get=some r:=h;rw [hg,R.get_br,DJ] at h;have hst:some (.bool true,[PG (lK m q t ⟨left,proof,⟨k,vp,a,b,c,d,tw,vs⟩,sp⟩) m q (GM m q ⟨left,proof,⟨k,vp,a,b,c,d,tw,vs⟩,sp⟩)])=some r:=by
     rw [← h];unfold lK;simp only [R.get_br,R.get_ok];cases G0 m q (D2 left) with
     | true=>cases (ic (left.length - 1)==0) <;> rfl
     | false=>
      cases HJ m q (D2 left).low (D2 left).s4.hi with
      | true=>rfl
      | false=>cases (E2 m q (D2 left)).isSome <;> rfl
    rw [← hst];simp only [AH] at hg;obtain ⟨ht,hr,h0,hl,hl5,hp5⟩:=hg;obtain ⟨hm,_,⟨_,hbu⟩,_,_⟩:=XV hr;have h0:=A1 h0;have hs1:=BG hsp;have hl:0 < left.length:=AO hl;have hl5:=AO hl5;have hp5:=AO hp5;have esp:AA AB (sp+1)=sp+1:=EO (by omega) (by omega);have etop:AA AB (ic (left.length - 0) - 1)=((left.length - 1:Nat):Int):=by
     rw [EO (by simp only [ic]; omega) (by simp only [ic]; omega)];simp only [ic];omega
    have ed:(decide (0≤((left.length - 1:Nat):Int))&&decide (((left.length - 1:Nat):Int) < ic (left.length - 0)))=true:=by
     rw [AE (by omega),AE (by simp only [ic]; omega)];rfl
    have ee:(decide (0≤((left.length - 1:Nat):Int))&&decide (((left.length - 1:Nat):Int)≤ic (left.length - 0)))=true:=by
     rw [AE (by omega),AE (by simp only [ic]; omega)];rfl
    have epop:left.take (left.length - 1+2)=left.take (left.length - 1+2):=rfl;have hlen:(GB left).length=left.length - 1:=by unfold GB; rw [BC]; omega
    have htk:∀ (x y:IV),AK (left.length - 1+2) (AK (left.length - 1) left++[x,y])=GB left++[x,y]:=fun x y=>CV (by rw [AS]; unfold GB at hlen; rw [hlen]; simp)
    have hb80:decide ((left.length - 1+2)*80≤EG)=true:=AE (by unfold EG; omega);have hin:=Ku m q (D2 left) 5 0 rfl;replace hin:(E2 m q (D2 left)).isSome=true→H6 (KD (E2 m q (D2 left)))=true:=hin
    match t,ht,hw with
    | 0,_,_=>
     have hb24:decide ((proof.length+1)*24≤EG)=true:=AE (by unfold EG; omega);have htp:∀ x:IV,AK (proof.length+1) (proof++[x])=proof++[x]:=fun x=>CV (by rw [AS]; simp)
     refine (Dy 0 m q left proof k a b c d tw vs sp).trans ?_;rw [hk,DK,hsp,DK,etop,ed,DJ,ee,DJ,esp,BD];simp only [BL,va2,BR];rw [hb24,hb80,hm];unfold GM lK;show cond (G0 m q (D2 left)) _ (cond (HJ m q (D2 left).low (D2 left).s4.hi) _ _)=_;cases G0 m q (D2 left) with
     | true=>
      simp only [htp,B5];rw [DJ,DJ];show cond (ic (left.length - 1)==0) _ _=_;cases (ic (left.length - 1)==0) <;> rfl
     | false=>
      rw [DK];cases HJ m q (D2 left).low (D2 left).s4.hi with
      | true=>rfl
      | false=>
       rw [DK,DJ];show cond (!(E2 m q (D2 left)).isSome) _ (cond (H6 (KD (E2 m q (D2 left)))) _ _)=_;cases hs:(E2 m q (D2 left)).isSome with
       | false=>rfl
       | true=>
        rw [A2,DK,hin hs,DJ,DJ,DJ];simp only [htp,htk];rfl
    | 1,_,hw=>
     obtain rfl:proof=[]:=hw.2.2.1 (.inl rfl);refine (Dz 0 m q left k a b c d tw vs sp).trans ?_;rw [hk,DK,hsp,DK,etop,ed,DJ,ee,DJ,esp,BD];simp only [BL,va2];rw [hb80,hm];unfold GM lK;show cond (G0 m q (D2 left)) _ (cond (HJ m q (D2 left).low (D2 left).s4.hi) _ _)=_;cases G0 m q (D2 left) with
     | true=>
      rw [DJ];show cond (ic (left.length - 1)==0) _ _=_;cases (ic (left.length - 1)==0) <;> rfl
     | false=>
      rw [DK];cases HJ m q (D2 left).low (D2 left).s4.hi with
      | true=>rfl
      | false=>
       rw [DK,DJ];show cond (!(E2 m q (D2 left)).isSome) _ (cond (H6 (KD (E2 m q (D2 left)))) _ _)=_;cases hs:(E2 m q (D2 left)).isSome with
       | false=>rfl
       | true=>
        rw [A2,DK,hin hs,DJ,DJ];simp only [htk];rfl
    | t+2,ht,_=>exact absurd (AO ht) (by omega)
 ·simp [R.get] at h
open Go Go.Proofs
def T1 (N:Nat):Env:=D6 [(74,dA),(75,dD),(76,dE)] [(2,⟨[4,5],[4,8,500,501],[⟨.cell 8 23,500,36,true,E9⟩,⟨.cell 8 24,501,127,true,EE⟩]⟩)] 13 N
open Go Go.Proofs
set_option maxRecDepth 100000
abbrev eZ:KP:=⟨[4,5],[4,8,500,501],[⟨.cell 8 23,500,36,true,E9⟩,⟨.cell 8 24,501,127,true,EE⟩]⟩
def zgv (sh:Bool) (s:Sr):List V:=match sh with
 | false=>.row 500 0 s.left.length :: .row 501 0 s.proof.length :: aH s.v .zs s.spent
 | true=>.row 500 0 s.left.length :: jF s.proof :: aH s.v (jF s.v.proof) s.spent
def zgw (sh:Bool) (s:Sr):Option Ob:=match sh with
 | false=>some (.row true 127 true EE s.proof)
 | true=>none
def M6 (m:Md) (q:Qy) (sh:Bool) (s:Sr):St:=
 ⟨[(4,.ptr 4 0 0),(5,.ptr 8 0 0)],[(4,some (.box [.int .i64 0,.zs,.int .i64 0,.int .i64 0,.int .i64 0,.int .i64 0,.int .i64 0,.int .i64 0])),(8,some (.box (F8 m q (zgv sh s)))),(500,some (.row true 36 true E9 s.left)),(501,zgw sh s)]⟩
def MJ (s:Sr):Sr:=⟨s.left.take s.left.length,s.proof.take s.proof.length,⟨s.v.kind,[],s.v.w0,s.v.w1,s.v.w2,s.v.w3,s.v.twin,s.v.spent⟩,s.spent⟩
def gN (s:Sr):Sr:=⟨s.left.take s.left.length,s.proof,s.v,s.spent⟩
theorem gO {s:Sr} (h:s.v.proof=[]):MJ s=s:=by
 obtain ⟨left,proof,⟨k,vp,a,b,c,d,tw,vs⟩,sp⟩:=s;obtain rfl:vp=[]:=h;unfold MJ;simp only [BR]
theorem Np (s:Sr):gN s=s:=by
 obtain ⟨left,proof,v,sp⟩:=s;unfold gN;simp only [BR]
def qE (m:Md) (q:Qy) (s:Sr):Bool:=FB m q&&(decide (0≤s.spent)&&(BU 0 s.left.length&&(B6 s.left.length 100000&&B6 s.proof.length 100000)))
noncomputable abbrev eU (N:Nat):Out→St→DP:=DS 0 (DT (T1 N) (DL UM [1,1,1]) (DV (T1 N) none [.cell 4 55] [[.z,.list true EE,.z,.z,.z,.z,.z,.z]]))
theorem zee (N:Nat) (m:Md) (q:Qy):D1 (T1 N) UM [.cell 4 55] [[.z,.list true [.bool,.z,.z],.z,.z,.z,.z,.z,.z]] [m.V,q.V] =
 cond (FB m q) (D0 (T1 N) (DL UM [1,1,0,0,0]) eZ N (M6 m q false ⟨[(GR q).I],[],Vd.none,0⟩) (eU N))
 (D0 (T1 N) (DL UM [1,1,0,0,0]) eZ N (M6 m q false ⟨[],[],⟨4,[],0,0,0,0,0,0⟩,0⟩) (eU N)):=by kernel_rfl
theorem tE (N:Nat) (m:Md) (q:Qy) (s:Sr) (again:St→DP) (k:Out→St→DP):FG (T1 N) (DL UM [1,1,0,0,0]) (M6 m q false s) (EW again eZ k) =
 cond (JR q (MJ s)) (k (.exit 0) (M6 m q false (MJ s)))
 (cond (qE m q (MJ s))
 (cond (G0 m q (D2 (MJ s).left)) (cond (ic ((MJ s).left.length - 1)==0) (again (M6 m q true (GM m q (MJ s)))) (again (M6 m q false (GM m q (MJ s)))))
 (cond (HJ m q (D2 (MJ s).left).low (D2 (MJ s).left).s4.hi) (again (M6 m q false (GM m q (MJ s))))
 (cond (E2 m q (D2 (MJ s).left)).isSome (again (M6 m q false (GM m q (MJ s)))) (again (M6 m q false (GM m q (MJ s))))))) none):=by kernel_rfl
theorem zin (N:Nat) (m:Md) (q:Qy) (s:Sr) (again:St→DP) (k:Out→St→DP):FG (T1 N) (DL UM [1,1,0,0,0]) (M6 m q true s) (EW again eZ k) =
 cond (JR q (gN s)) (k (.exit 0) (M6 m q true (gN s))) none:=by kernel_rfl
theorem Ah (N:Nat) (m:Md) (q:Qy) (s:Sr):eU N (.exit 0) (M6 m q false s)=some ((GS (MJ s)).V,[]):=by kernel_rfl
theorem Yi (N:Nat) (m:Md) (q:Qy) (s:Sr):eU N (.exit 0) (M6 m q true s)=cond (B6 s.v.proof.length 100000) (some ((GS (gN s)).V,[])) none:=by kernel_rfl
structure SrInv (q:Qy) (sh:Bool) (s:Sr):Prop where
 sp0:0≤s.spent
 sp1:s.spent≤max 0 q.bu
 left:(s.left.length:Int)≤s.spent+1
 proof:(s.proof.length:Int)≤s.spent
 vp:(s.v.proof.length:Int)≤s.spent
 own:sh=false→s.v.proof=[]
 open_:s.v.kind=0→0 < s.left.length
 shut:sh=true→s.v.kind≠0
theorem zfv (l:LI):(GB l).length=l.length - 1:=by
 unfold GB;rw [BC];omega
theorem SrInv.step {m:Md} {q:Qy} {s:Sr} (h:SrInv q false s) (ho:JR q s=false) :
  SrInv q (G0 m q (D2 s.left)&&(ic (s.left.length - 1)==0)) (GM m q s)∧(GM m q s).spent=s.spent+1:=by
 unfold JR at ho;rw [vas] at ho;have hk:s.v.kind=0:=by simpa using ho.1
 have hs:=BG ho.2;have h1:=h.sp0;have h2:=h.left;have h3:=h.proof;have h4:=h.vp;have h5:=h.own rfl;have h6:=h.open_ hk;have hp:=zfv s.left;have h5':s.v.proof.length=0:=by rw [h5]; rfl
 unfold GM;cases G0 m q (D2 s.left) with
 | true=>
  rw [DJ];cases he:(ic (s.left.length - 1)==0) with
  | true=>
   refine ⟨⟨?_,?_,?_,?_,?_,fun h=>(by cases h),fun h=>(by cases h),fun _=>(show (1:Int)≠0 by decide)⟩,rfl⟩ <;> simp only [BH,AS,C3] <;> omega
  | false=>
   have hne:s.left.length - 1≠0:=by simpa [ic] using he
   refine ⟨⟨?_,?_,?_,?_,?_,fun _=>h5,fun _=>?_,fun h=>(by cases h)⟩,rfl⟩ <;> simp only [A9,AS,C3] <;> omega
 | false=>
  rw [DK,BM];cases HJ m q (D2 s.left).low (D2 s.left).s4.hi with
  | true=>refine ⟨⟨?_,?_,?_,?_,?_,fun _=>rfl,fun h=>(by cases h),fun h=>(by cases h)⟩,rfl⟩ <;> simp only [BH,A7] <;> omega
  | false=>
   rw [DK];cases (E2 m q (D2 s.left)).isSome with
   | true=>refine ⟨⟨?_,?_,?_,?_,?_,fun _=>h5,fun _=>?_,fun h=>(by cases h)⟩,rfl⟩ <;> simp only [BH,AS,AM,A7] <;> omega
   | false=>refine ⟨⟨?_,?_,?_,?_,?_,fun _=>rfl,fun h=>(by cases h),fun h=>(by cases h)⟩,rfl⟩ <;> simp only [A9,A7] <;> omega
theorem zeT {m:Md} {q:Qy} {s:Sr} (hr:FB m q=true) (h:SrInv q false s) (hk:s.v.kind=0):qE m q s=true:=by
 have hb:=(XV hr).2.2.1;have h1:=h.sp0;have h2:=h.left;have h3:=h.proof;have h6:=h.open_ hk;have h7:=h.sp1;unfold qE;rw [hr,AE h1,C6 (show s.left.length≤100000 by omega),C6 (show s.proof.length≤100000 by omega)]
 have:BU 0 s.left.length=true:=C6 h6
 rw [this];rfl
theorem Ie (N:Nat) (m:Md) (q:Qy) (hr:FB m q=true) (K:Out→St→DP):∀ (d n:Nat) (sh:Bool) (s:Sr),SrInv q sh s→q.bu < s.spent+d→d < n →
  ∃ sh',SrInv q sh' (LR m q d s)∧D0 (T1 N) (DL UM [1,1,0,0,0]) eZ n (M6 m q sh s) K=K (.exit 0) (M6 m q sh' (LR m q d s))
 | d,0,sh,s,_,_,h=>absurd h (by omega)
 | 0,n+1,sh,s,hi,hd,_=>by
  have h1:=hi.sp1;have h2:=hi.sp0;have h3:=(XV hr).2.2.1;omega
 | d+1,n+1,sh,s,hi,hd,hn=>by
  rw [LR];cases ho:JR q s with
  | true=>
   rw [DJ];refine ⟨sh,hi,?_⟩;cases sh with
   | false=>rw [EA,tE,gO (hi.own rfl),ho,DJ]
   | true=>rw [EA,zin,Np,ho,DJ]
  | false=>
   rw [DK];cases sh with
   | true=>
    unfold JR at ho;rw [vas] at ho
    have:=hi.shut rfl
    simp at ho;exact absurd ho.1 this
   | false=>
    obtain ⟨hi',hs'⟩:=hi.step (m:=m) ho;have hk:s.v.kind=0:=by
     unfold JR at ho;rw [vas] at ho;simpa using ho.1
    obtain ⟨sh',hi2,hrun⟩:=Ie N m q hr K d n _ (GM m q s) hi' (by rw [hs']; omega) (by omega);refine ⟨sh',hi2,?_⟩;rw [← hrun,EA,tE,gO (hi.own rfl),ho,DK,zeT hr hi hk,DJ];cases G0 m q (D2 s.left) with
    | true=>
     rw [DJ,A8];cases (ic (s.left.length - 1)==0) <;> rfl
    | false=>
     rw [DK,BM];cases HJ m q (D2 s.left).low (D2 s.left).s4.hi with
     | true=>rfl
     | false=>cases (E2 m q (D2 s.left)).isSome <;> rfl
theorem zcL {m:Md} {q:Qy} (hr:FB m q=true):SrInv q false ⟨[(GR q).I],[],Vd.none,0⟩:=
 ⟨vab _,by have:=(XV hr).2.2.1; show (0:Int)≤_; omega,by simp,by simp,by simp [Vd.none],fun _=>rfl,fun _=>by simp,fun h=>by cases h⟩
theorem zhT:DY PR B0 35 dC:=by
 refine D7 [(74,dA),(75,dD),(76,dE)] [(2,⟨[4,5],[4,8,500,501],[⟨.cell 8 23,500,36,true,E9⟩,⟨.cell 8 24,501,127,true,EE⟩]⟩)] dC [[.z,.list true [.bool,.z,.z],.z,.z,.z,.z,.z,.z]] Tryz.func35 zbv ⟨zhS,zhU,zhV,trivial⟩ ?_;intro vs r hwf h;unfold dC at h;split at h
 ·rename_i m q;replace h:=JZ h;obtain ⟨m,rfl,h⟩:=h;replace h:=KU h;obtain ⟨q,rfl,h⟩:=h;rw [R.get_ok] at h;refine ⟨70000,?_⟩;rw [← h];refine (zee 70000 m q).trans ?_;unfold FN RH;cases hr:FB m q with
  | true=>
   have hb:=(XV hr).2.2.1;rw [DJ,DJ];obtain ⟨sh',hi,hrun⟩:=Ie 70000 m q hr (eU 70000) (q.bu.toNat+1) 70000 false _ (zcL hr) (by show q.bu < 0+_; omega) (by omega);rw [hrun];generalize LR m q (q.bu.toNat+1) _=s at hi ⊢;cases sh' with
   | false=>rw [Ah,gO (hi.own rfl)]
   | true=>
    have h1:=hi.vp;have h2:=hi.sp1;rw [Yi,Np,C6 (show s.v.proof.length≤100000 by omega),DJ]
  | false=>
   rw [DK,DK];have e:JR q ⟨[],[],⟨4,[],0,0,0,0,0,0⟩,0⟩=true:=rfl;rw [EA,tE,gO rfl,e,DJ,Ah,gO rfl,LR,e,DJ]
 ·simp [R.get] at h
open Go
def ziJ:Md:=⟨1,1,3,0,0,[.agg [.int 0,.list [.int (IG false 0 0 5 1 2),.int (IG true 10 0 0 0 0),.int (IG true 20 0 0 0 0)]]]⟩
def bT:DW
 | []=>.ok ziJ.V []
 | _=>.no
open Go
def W8 (s:Sp):Bool:=decide (-2147483648≤s.lo)&&(decide (s.lo≤s.hi)&&decide (s.hi≤2147483647))
def GA (b:Bx):Bool:=W8 b.s0&&(W8 b.s1&&(W8 b.s2&&(W8 b.s3&&W8 b.s4)))
def bP:DW
 | [.list false [.int .u64] l,b]=>JH b fun b=>.br (G4 l 4&&GA b) (.ok (.tup [.int .i64 (H9 l b),.int .i64 (H8 l b)]) []) .no
 | _=>.no
def bO:DW
 | [m,.int .i64 k,b]=>JI m fun m=>JH b fun b=>.br (b.emp||GA b) (.ok (.tup [.int .i64 (ED m k b),.int .i64 (EB m k b)]) []) .no
 | _=>.no
def bQ:DW
 | [m,q,b]=>JI m fun m=>KF q fun q=>JH b fun b=>.br (FB m q&&(b.emp||GA b)) (.ok (.bool (G0 m q b)) []) .no
 | _=>.no
def JF (x:IV):Bool:=cond (G3 x) (FC x==0&&FV x==0) (decide (0≤FC x)&&decide (FC x≤4))
def cW:DW
 | [.agg [.bool s,.int .i64 p,.int .i64 a]]=>.ok (.bool (JF (NV s p a))) []
 | _=>.no
def LE (st:Int × Int) (x:IV):Option (Int × Int):=
 cond (st.1==0||!(JF x)) none (cond (G3 x) (some (st.1 - 1,st.2)) (some (st.1+1,max st.2 (st.1+1))))
def JA:LI→Int × Int→Option (Int × Int)
 | [],st=>some st
 | x :: r,st=>match LE st x with
  | some st'=>JA r st'
  | none=>none
def KK (l:LI):Int:=cond (decide (ic l.length > 65536)) 0 (match JA l (1,1) with
 | some st=>cond (!(st.1==0)||decide (st.2 > 200)) 0 st.2
 | none=>0)
def cV:DW
 | [.list true [.bool,.z,.z] l]=>.ok (.int .i64 (KK l)) []
 | _=>.no
def cT:DW
 | [.list true [.bool,.z,.z] l]=>.ok (.bool (decide (KK l > 0))) []
 | _=>.no
def LN (st:LI × LI) (x:IV):Option (List IV × LI):=
 cond (G3 x) (some (GB st.1,st.2++[(D2 st.1).I]))
  (cond (decide (FV x < ((D2 st.1).g (FC x).toNat).lo)||decide (FV x≥((D2 st.1).g (FC x).toNat).hi)) none
   (some (GB st.1++[((D2 st.1).cutH (FC x) (FV x)).I,((D2 st.1).cutL (FC x) (FV x)).I],st.2)))
def IH:LI→LI × LI→Option (List IV × LI)
 | [],st=>some st
 | x :: r,st=>match LN st x with
  | some st'=>IH r st'
  | none=>none
def J9 (b:Bx) (l:LI):Option LI:=cond (decide (KK l > 0)) ((IH l ([b.I],[])).map (·.2)) none
def cU:DW
 | [b,.list true [.bool,.z,.z] l]=>JH b fun b=>.br (J9 b l).isSome (.ok (.tup [.list true E9 ((J9 b l).getD []),.bool true]) []) (.ok (.tup [.list true E9 [],.bool false]) [])
 | _=>.no
def Vd.p (v:Vd):Pt:=⟨v.w0,v.w1,v.w2,v.w3⟩
def J8 (m:Md) (q:Qy) (v:Vd):Bool:=
 FB m q&&cond (v.kind==1) (match J9 (GR q) v.proof with
   | some l=>l.all fun x=>G0 m q (D9 x)
   | none=>false)
  (cond (v.kind==2) ((GR q).has v.p v.twin&&HJ m q v.p v.twin) false)
def V7:DW
 | [m,q,v]=>JI m fun m=>KF q fun q=>uK v fun v=>.ok (.bool (J8 m q v)) []
 | _=>.no
open Go Go.Proofs
def Rn (N:Nat):Env:=D6 [] [] 16 N
theorem zd5 (N:Nat) (u01:Bool) (u00 s_At:Int):D1 (Rn N) xX [.tmp 2] [[.bool]] [.agg [.bool u01,.i u00,.i s_At]]=(cond u01 (some ((.bool (u01==true&&(u00==0&&(s_At==0&&true)))),[])) (cond (decide (u00≥0)) (some ((.bool (decide (u00≤4))),[])) (some ((.bool false),[])))):=by kernel_rfl
def Rm (N:Nat):Env:=D6 [(156,cV)] [] 6 N
theorem zd3 (N:Nat) (l:LI):D1 (Rm N) xW [.tmp 2] [[.bool]] [.list true [.bool,.z,.z] l]=(some ((.bool (decide (KK l > 0))),[])):=by kernel_rfl
def Py (N:Nat):Env:=D6 [(114,WK)] [(2,⟨[2,3,6,9,10],[3],[]⟩)] 25 N
open Go Go.Proofs
def QZ (N:Nat):Env:=D6 [(192,cW)] [(5,⟨[2,3,4,10,11,12],[],[]⟩)] 40 N
abbrev R3 (x2 x3 x4:Int) (l10:LI) (x11 x12:Int):St:=⟨[(2,(.i x2)),(3,(.i x3)),(4,(.i x4)),(10,(.list true EE l10)),(11,(.i x11)),(12,(.i x12))],[]⟩
theorem zd4 (N:Nat) (l:LI):D1 (QZ N) UL [.tmp 2] [[.z]] [.list true [.bool,.z,.z] l]=(cond (decide (ic (AG l) > 65536)) (some ((.i 0),[])) (D0 (QZ N) (DL UL [1,1,1,0,1,0,0]) ⟨[2,3,4,10,11,12],[],[]⟩ N (R3 0 1 1 l (ic (AG l)) 0) (DS 0 (DT (QZ N) (DL UL [1,1,1,1]) (DV (QZ N) none [.tmp 2] [[.z]]))))):=by kernel_rfl
theorem Mm (N:Nat) (x2 x3 x4:Int) (l10:LI) (x11 x12:Int) (again:St→DP) (k:Out→St→DP):FG (QZ N) (DL UL [1,1,1,0,1,0,0]) (R3 x2 x3 x4 l10 x11 x12) (EW again ⟨[2,3,4,10,11,12],[],[]⟩ k)=(cond (decide (x12 < x11)) (cond (decide (0≤x12)&&decide (x12 < ic (AG l10))) (cond (x3==0) (k .ret (R3 0 x3 x4 l10 x11 x12)) (cond (!JF (NV (IV.toBool (IV.cell (AI l10 (AF x12) default) 0)) (IV.toInt (IV.cell (AI l10 (AF x12) default) 1)) (IV.toInt (IV.cell (AI l10 (AF x12) default) 2)))) (k .ret (R3 0 x3 x4 l10 x11 x12)) (cond (IV.toBool (IV.cell (AI l10 (AF x12) default) 0)) (again (R3 x2 (AA AB (x3 - 1)) x4 l10 x11 (AA AB (x12+1)))) (again (R3 x2 (AA AB (x3+1)) (max x4 (AA AB (x3+1))) l10 x11 (AA AB (x12+1))))))) none) (k (.exit 0) (R3 x2 x3 x4 l10 x11 x12))):=by kernel_rfl
theorem Yd (N:Nat) (x2 x3 x4:Int) (l10:LI) (x11 x12:Int):(DS 0 (DT (QZ N) (DL UL [1,1,1,1]) (DV (QZ N) none [.tmp 2] [[.z]]))) (.exit 0) (R3 x2 x3 x4 l10 x11 x12)=(cond (x3 != 0) (some ((.i 0),[])) (cond (decide (x4 > 200)) (some ((.i 0),[])) (some ((.i x4),[])))):=by kernel_rfl
theorem Ye (N:Nat) (x2 x3 x4:Int) (l10:LI) (x11 x12:Int):(DS 0 (DT (QZ N) (DL UL [1,1,1,1]) (DV (QZ N) none [.tmp 2] [[.z]]))) .ret (R3 x2 x3 x4 l10 x11 x12)=(some ((.i x2),[])):=by kernel_rfl
def G6 (N:Nat):Env:=D6 [(112,LB),(158,bP),(53,MP)] [(5,⟨[1,5,6,7,8,9,40,41,42],[5],[]⟩)] 66 N
abbrev NC (a2:Bx) (x1 x6 x7 x8 x9:Int) (l40:LI) (x41 x42:Int):St:=⟨[(1,(.i x1)),(5,(.ptr 5 0 0)),(6,(.i x6)),(7,(.i x7)),(8,(.i x8)),(9,(.i x9)),(40,(.list true MX l40)),(41,(.i x41)),(42,(.i x42))],[(5,(some (.box (Bx.cs a2))))]⟩
theorem zdh (N:Nat) (m:Md) (a1:Int) (a2:Bx):D1 (G6 N) IQ [.tmp 6,.tmp 7] [[.z],[.z]] [(Md.V m),.i a1,(Bx.V a2)]=(cond (!E0 m) (some ((.tup [.i 0,.i 0]),[])) (cond (decide (a1 < 0)) (some ((.tup [.i 0,.i 0]),[])) (cond (decide (a1≥Md.c m)) (some ((.tup [.i 0,.i 0]),[])) (cond (Bx.emp a2) (some ((.tup [.i 0,.i 0]),[])) (cond (decide (a1=ic 0)) (cond (decide (a1=ic 0)) (D0 (G6 N) (DL IQ [1,1,1,0,1,0,0]) ⟨[1,5,6,7,8,9,40,41,42],[5],[]⟩ N (NC a2 a1 0 0 (Md.b0 m) (Md.b0 m) (Md.ts m) (ic (AG (Md.ts m))) 0) (DS 0 (DT (G6 N) (DL IQ [1,1,1,1]) (DV (G6 N) none [.tmp 6,.tmp 7] [[.z],[.z]])))) (cond (decide (a1=ic 1)) (D0 (G6 N) (DL IQ [1,1,1,0,1,0,0]) ⟨[1,5,6,7,8,9,40,41,42],[5],[]⟩ N (NC a2 a1 0 0 (Md.b0 m) (Md.b1 m) (Md.ts m) (ic (AG (Md.ts m))) 0) (DS 0 (DT (G6 N) (DL IQ [1,1,1,1]) (DV (G6 N) none [.tmp 6,.tmp 7] [[.z],[.z]])))) (cond (decide (a1=ic 2)) (D0 (G6 N) (DL IQ [1,1,1,0,1,0,0]) ⟨[1,5,6,7,8,9,40,41,42],[5],[]⟩ N (NC a2 a1 0 0 (Md.b0 m) (Md.b2 m) (Md.ts m) (ic (AG (Md.ts m))) 0) (DS 0 (DT (G6 N) (DL IQ [1,1,1,1]) (DV (G6 N) none [.tmp 6,.tmp 7] [[.z],[.z]])))) none))) (cond (decide (a1=ic 1)) (cond (decide (a1=ic 0)) (D0 (G6 N) (DL IQ [1,1,1,0,1,0,0]) ⟨[1,5,6,7,8,9,40,41,42],[5],[]⟩ N (NC a2 a1 0 0 (Md.b1 m) (Md.b0 m) (Md.ts m) (ic (AG (Md.ts m))) 0) (DS 0 (DT (G6 N) (DL IQ [1,1,1,1]) (DV (G6 N) none [.tmp 6,.tmp 7] [[.z],[.z]])))) (cond (decide (a1=ic 1)) (D0 (G6 N) (DL IQ [1,1,1,0,1,0,0]) ⟨[1,5,6,7,8,9,40,41,42],[5],[]⟩ N (NC a2 a1 0 0 (Md.b1 m) (Md.b1 m) (Md.ts m) (ic (AG (Md.ts m))) 0) (DS 0 (DT (G6 N) (DL IQ [1,1,1,1]) (DV (G6 N) none [.tmp 6,.tmp 7] [[.z],[.z]])))) (cond (decide (a1=ic 2)) (D0 (G6 N) (DL IQ [1,1,1,0,1,0,0]) ⟨[1,5,6,7,8,9,40,41,42],[5],[]⟩ N (NC a2 a1 0 0 (Md.b1 m) (Md.b2 m) (Md.ts m) (ic (AG (Md.ts m))) 0) (DS 0 (DT (G6 N) (DL IQ [1,1,1,1]) (DV (G6 N) none [.tmp 6,.tmp 7] [[.z],[.z]])))) none))) (cond (decide (a1=ic 2)) (cond (decide (a1=ic 0)) (D0 (G6 N) (DL IQ [1,1,1,0,1,0,0]) ⟨[1,5,6,7,8,9,40,41,42],[5],[]⟩ N (NC a2 a1 0 0 (Md.b2 m) (Md.b0 m) (Md.ts m) (ic (AG (Md.ts m))) 0) (DS 0 (DT (G6 N) (DL IQ [1,1,1,1]) (DV (G6 N) none [.tmp 6,.tmp 7] [[.z],[.z]])))) (cond (decide (a1=ic 1)) (D0 (G6 N) (DL IQ [1,1,1,0,1,0,0]) ⟨[1,5,6,7,8,9,40,41,42],[5],[]⟩ N (NC a2 a1 0 0 (Md.b2 m) (Md.b1 m) (Md.ts m) (ic (AG (Md.ts m))) 0) (DS 0 (DT (G6 N) (DL IQ [1,1,1,1]) (DV (G6 N) none [.tmp 6,.tmp 7] [[.z],[.z]])))) (cond (decide (a1=ic 2)) (D0 (G6 N) (DL IQ [1,1,1,0,1,0,0]) ⟨[1,5,6,7,8,9,40,41,42],[5],[]⟩ N (NC a2 a1 0 0 (Md.b2 m) (Md.b2 m) (Md.ts m) (ic (AG (Md.ts m))) 0) (DS 0 (DT (G6 N) (DL IQ [1,1,1,1]) (DV (G6 N) none [.tmp 6,.tmp 7] [[.z],[.z]])))) none))) none))))))):=by kernel_rfl
theorem Lu (N:Nat) (a2:Bx) (x1 x6 x7 x8 x9:Int) (l40:LI) (x41 x42:Int) (again:St→DP) (k:Out→St→DP):FG (G6 N) (DL IQ [1,1,1,0,1,0,0]) (NC a2 x1 x6 x7 x8 x9 l40 x41 x42) (EW again ⟨[1,5,6,7,8,9,40,41,42],[5],[]⟩ k)=(cond (decide (x42 < x41)) (cond (decide (0≤x42)&&decide (x42 < ic (AG l40))) (cond (IV.toInt (IV.cell (AI l40 (AF x42) default) 0)==x1) (cond (G4 (IV.toList (IV.cell (AI l40 (AF x42) default) 1)) 4&&GA a2) (again (NC a2 x1 x6 x7 (AA AB (x8+H9 (IV.toList (IV.cell (AI l40 (AF x42) default) 1)) a2)) (AA AB (x9+H8 (IV.toList (IV.cell (AI l40 (AF x42) default) 1)) a2)) l40 x41 (AA AB (x42+1)))) none) (again (NC a2 x1 x6 x7 x8 x9 l40 x41 (AA AB (x42+1))))) none) (k (.exit 0) (NC a2 x1 x6 x7 x8 x9 l40 x41 x42))):=by kernel_rfl
theorem Xh (N:Nat) (a2:Bx) (x1 x6 x7 x8 x9:Int) (l40:LI) (x41 x42:Int):(DS 0 (DT (G6 N) (DL IQ [1,1,1,1]) (DV (G6 N) none [.tmp 6,.tmp 7] [[.z],[.z]]))) (.exit 0) (NC a2 x1 x6 x7 x8 x9 l40 x41 x42)=(some ((.tup [.i x8,.i x9]),[])):=by kernel_rfl
def LV (N:Nat):Env:=D6 [(112,LB),(113,bO)] [(9,⟨[3,4,5,6,7,42,43],[3,4,5],[]⟩)] 94 N
abbrev TP (m:Md) (a1:Qy) (a2:Bx) (b6:Bool) (x7 x42 x43:Int):St:=⟨[(3,(.ptr 3 0 0)),(4,(.ptr 4 0 0)),(5,(.ptr 5 0 0)),(6,(.bool b6)),(7,(.i x7)),(42,(.i x42)),(43,(.i x43))],[(3,(some (.box (Md.cs m)))),(4,(some (.box (Qy.cs a1)))),(5,(some (.box (Bx.cs a2))))]⟩
theorem zdi (N:Nat) (m:Md) (a1:Qy) (a2:Bx):D1 (LV N) N6 [.tmp 6] [[.bool]] [(Md.V m),(Qy.V a1),(Bx.V a2)]=(cond (Bx.emp a2) (some ((.bool true),[])) (cond (Bx.emp a2||GA a2) (cond (Qy.k a1==1) (cond (decide (Qy.lo a1≤ED m (Qy.c a1) a2)) (some ((.bool (decide (EB m (Qy.c a1) a2≤Qy.hi a1))),[])) (some ((.bool false),[]))) (cond (Qy.k a1==2) (D0 (LV N) (DL N6 [1,1,1,0,1,0,1,1,1,0,0,1,0,0]) ⟨[3,4,5,6,7,42,43],[3,4,5],[]⟩ N (TP m a1 a2 false (ED m (Qy.c a1) a2) (Md.c m) 0) (DS 1 (DT (LV N) (DL N6 [1,1,1,0,1,0,1,1,1,0,1]) (DS 0 (DT (LV N) (DL N6 [1,1,1,1]) (DV (LV N) none [.tmp 6] [[.bool]])))))) (cond (decide (Qy.ft a1=ic 0)) (cond (decide (Sp.lo (Bx.s0 a2)≥Sp.hi (Bx.s4 a2))) (some ((.bool true),[])) (cond (decide (Qy.ft a1=ic 0)) (cond (Bx.emp {a2 with s0:=(Bx.s4 a2)}||GA {a2 with s0:=(Bx.s4 a2)}) (cond (Qy.fl a1) (some ((.bool (decide (EB m (Qy.c a1) {a2 with s0:=(Bx.s4 a2)}≤ED m (Qy.c a1) a2))),[])) (some ((.bool (decide (ED m (Qy.c a1) {a2 with s0:=(Bx.s4 a2)}≥EB m (Qy.c a1) a2))),[]))) none) (cond (decide (Qy.ft a1=ic 1)) (cond (Bx.emp {a2 with s1:=(Bx.s4 a2)}||GA {a2 with s1:=(Bx.s4 a2)}) (cond (Qy.fl a1) (some ((.bool (decide (EB m (Qy.c a1) {a2 with s1:=(Bx.s4 a2)}≤ED m (Qy.c a1) a2))),[])) (some ((.bool (decide (ED m (Qy.c a1) {a2 with s1:=(Bx.s4 a2)}≥EB m (Qy.c a1) a2))),[]))) none) (cond (decide (Qy.ft a1=ic 2)) (cond (Bx.emp {a2 with s2:=(Bx.s4 a2)}||GA {a2 with s2:=(Bx.s4 a2)}) (cond (Qy.fl a1) (some ((.bool (decide (EB m (Qy.c a1) {a2 with s2:=(Bx.s4 a2)}≤ED m (Qy.c a1) a2))),[])) (some ((.bool (decide (ED m (Qy.c a1) {a2 with s2:=(Bx.s4 a2)}≥EB m (Qy.c a1) a2))),[]))) none) (cond (decide (Qy.ft a1=ic 3)) (cond (Bx.emp {a2 with s3:=(Bx.s4 a2)}||GA {a2 with s3:=(Bx.s4 a2)}) (cond (Qy.fl a1) (some ((.bool (decide (EB m (Qy.c a1) {a2 with s3:=(Bx.s4 a2)}≤ED m (Qy.c a1) a2))),[])) (some ((.bool (decide (ED m (Qy.c a1) {a2 with s3:=(Bx.s4 a2)}≥EB m (Qy.c a1) a2))),[]))) none) (cond (decide (Qy.ft a1=ic 4)) (cond (Bx.emp a2||GA a2) (cond (Qy.fl a1) (some ((.bool (decide (EB m (Qy.c a1) a2≤ED m (Qy.c a1) a2))),[])) (some ((.bool (decide (ED m (Qy.c a1) a2≥EB m (Qy.c a1) a2))),[]))) none) none)))))) (cond (decide (Qy.ft a1=ic 1)) (cond (decide (Sp.lo (Bx.s1 a2)≥Sp.hi (Bx.s4 a2))) (some ((.bool true),[])) (cond (decide (Qy.ft a1=ic 0)) (cond (Bx.emp {a2 with s0:=(Bx.s4 a2)}||GA {a2 with s0:=(Bx.s4 a2)}) (cond (Qy.fl a1) (some ((.bool (decide (EB m (Qy.c a1) {a2 with s0:=(Bx.s4 a2)}≤ED m (Qy.c a1) a2))),[])) (some ((.bool (decide (ED m (Qy.c a1) {a2 with s0:=(Bx.s4 a2)}≥EB m (Qy.c a1) a2))),[]))) none) (cond (decide (Qy.ft a1=ic 1)) (cond (Bx.emp {a2 with s1:=(Bx.s4 a2)}||GA {a2 with s1:=(Bx.s4 a2)}) (cond (Qy.fl a1) (some ((.bool (decide (EB m (Qy.c a1) {a2 with s1:=(Bx.s4 a2)}≤ED m (Qy.c a1) a2))),[])) (some ((.bool (decide (ED m (Qy.c a1) {a2 with s1:=(Bx.s4 a2)}≥EB m (Qy.c a1) a2))),[]))) none) (cond (decide (Qy.ft a1=ic 2)) (cond (Bx.emp {a2 with s2:=(Bx.s4 a2)}||GA {a2 with s2:=(Bx.s4 a2)}) (cond (Qy.fl a1) (some ((.bool (decide (EB m (Qy.c a1) {a2 with s2:=(Bx.s4 a2)}≤ED m (Qy.c a1) a2))),[])) (some ((.bool (decide (ED m (Qy.c a1) {a2 with s2:=(Bx.s4 a2)}≥EB m (Qy.c a1) a2))),[]))) none) (cond (decide (Qy.ft a1=ic 3)) (cond (Bx.emp {a2 with s3:=(Bx.s4 a2)}||GA {a2 with s3:=(Bx.s4 a2)}) (cond (Qy.fl a1) (some ((.bool (decide (EB m (Qy.c a1) {a2 with s3:=(Bx.s4 a2)}≤ED m (Qy.c a1) a2))),[])) (some ((.bool (decide (ED m (Qy.c a1) {a2 with s3:=(Bx.s4 a2)}≥EB m (Qy.c a1) a2))),[]))) none) (cond (decide (Qy.ft a1=ic 4)) (cond (Bx.emp a2||GA a2) (cond (Qy.fl a1) (some ((.bool (decide (EB m (Qy.c a1) a2≤ED m (Qy.c a1) a2))),[])) (some ((.bool (decide (ED m (Qy.c a1) a2≥EB m (Qy.c a1) a2))),[]))) none) none)))))) (cond (decide (Qy.ft a1=ic 2)) (cond (decide (Sp.lo (Bx.s2 a2)≥Sp.hi (Bx.s4 a2))) (some ((.bool true),[])) (cond (decide (Qy.ft a1=ic 0)) (cond (Bx.emp {a2 with s0:=(Bx.s4 a2)}||GA {a2 with s0:=(Bx.s4 a2)}) (cond (Qy.fl a1) (some ((.bool (decide (EB m (Qy.c a1) {a2 with s0:=(Bx.s4 a2)}≤ED m (Qy.c a1) a2))),[])) (some ((.bool (decide (ED m (Qy.c a1) {a2 with s0:=(Bx.s4 a2)}≥EB m (Qy.c a1) a2))),[]))) none) (cond (decide (Qy.ft a1=ic 1)) (cond (Bx.emp {a2 with s1:=(Bx.s4 a2)}||GA {a2 with s1:=(Bx.s4 a2)}) (cond (Qy.fl a1) (some ((.bool (decide (EB m (Qy.c a1) {a2 with s1:=(Bx.s4 a2)}≤ED m (Qy.c a1) a2))),[])) (some ((.bool (decide (ED m (Qy.c a1) {a2 with s1:=(Bx.s4 a2)}≥EB m (Qy.c a1) a2))),[]))) none) (cond (decide (Qy.ft a1=ic 2)) (cond (Bx.emp {a2 with s2:=(Bx.s4 a2)}||GA {a2 with s2:=(Bx.s4 a2)}) (cond (Qy.fl a1) (some ((.bool (decide (EB m (Qy.c a1) {a2 with s2:=(Bx.s4 a2)}≤ED m (Qy.c a1) a2))),[])) (some ((.bool (decide (ED m (Qy.c a1) {a2 with s2:=(Bx.s4 a2)}≥EB m (Qy.c a1) a2))),[]))) none) (cond (decide (Qy.ft a1=ic 3)) (cond (Bx.emp {a2 with s3:=(Bx.s4 a2)}||GA {a2 with s3:=(Bx.s4 a2)}) (cond (Qy.fl a1) (some ((.bool (decide (EB m (Qy.c a1) {a2 with s3:=(Bx.s4 a2)}≤ED m (Qy.c a1) a2))),[])) (some ((.bool (decide (ED m (Qy.c a1) {a2 with s3:=(Bx.s4 a2)}≥EB m (Qy.c a1) a2))),[]))) none) (cond (decide (Qy.ft a1=ic 4)) (cond (Bx.emp a2||GA a2) (cond (Qy.fl a1) (some ((.bool (decide (EB m (Qy.c a1) a2≤ED m (Qy.c a1) a2))),[])) (some ((.bool (decide (ED m (Qy.c a1) a2≥EB m (Qy.c a1) a2))),[]))) none) none)))))) (cond (decide (Qy.ft a1=ic 3)) (cond (decide (Sp.lo (Bx.s3 a2)≥Sp.hi (Bx.s4 a2))) (some ((.bool true),[])) (cond (decide (Qy.ft a1=ic 0)) (cond (Bx.emp {a2 with s0:=(Bx.s4 a2)}||GA {a2 with s0:=(Bx.s4 a2)}) (cond (Qy.fl a1) (some ((.bool (decide (EB m (Qy.c a1) {a2 with s0:=(Bx.s4 a2)}≤ED m (Qy.c a1) a2))),[])) (some ((.bool (decide (ED m (Qy.c a1) {a2 with s0:=(Bx.s4 a2)}≥EB m (Qy.c a1) a2))),[]))) none) (cond (decide (Qy.ft a1=ic 1)) (cond (Bx.emp {a2 with s1:=(Bx.s4 a2)}||GA {a2 with s1:=(Bx.s4 a2)}) (cond (Qy.fl a1) (some ((.bool (decide (EB m (Qy.c a1) {a2 with s1:=(Bx.s4 a2)}≤ED m (Qy.c a1) a2))),[])) (some ((.bool (decide (ED m (Qy.c a1) {a2 with s1:=(Bx.s4 a2)}≥EB m (Qy.c a1) a2))),[]))) none) (cond (decide (Qy.ft a1=ic 2)) (cond (Bx.emp {a2 with s2:=(Bx.s4 a2)}||GA {a2 with s2:=(Bx.s4 a2)}) (cond (Qy.fl a1) (some ((.bool (decide (EB m (Qy.c a1) {a2 with s2:=(Bx.s4 a2)}≤ED m (Qy.c a1) a2))),[])) (some ((.bool (decide (ED m (Qy.c a1) {a2 with s2:=(Bx.s4 a2)}≥EB m (Qy.c a1) a2))),[]))) none) (cond (decide (Qy.ft a1=ic 3)) (cond (Bx.emp {a2 with s3:=(Bx.s4 a2)}||GA {a2 with s3:=(Bx.s4 a2)}) (cond (Qy.fl a1) (some ((.bool (decide (EB m (Qy.c a1) {a2 with s3:=(Bx.s4 a2)}≤ED m (Qy.c a1) a2))),[])) (some ((.bool (decide (ED m (Qy.c a1) {a2 with s3:=(Bx.s4 a2)}≥EB m (Qy.c a1) a2))),[]))) none) (cond (decide (Qy.ft a1=ic 4)) (cond (Bx.emp a2||GA a2) (cond (Qy.fl a1) (some ((.bool (decide (EB m (Qy.c a1) a2≤ED m (Qy.c a1) a2))),[])) (some ((.bool (decide (ED m (Qy.c a1) a2≥EB m (Qy.c a1) a2))),[]))) none) none)))))) (cond (decide (Qy.ft a1=ic 4)) (cond (decide (Sp.lo (Bx.s4 a2)≥Sp.hi (Bx.s4 a2))) (some ((.bool true),[])) (cond (decide (Qy.ft a1=ic 0)) (cond (Bx.emp {a2 with s0:=(Bx.s4 a2)}||GA {a2 with s0:=(Bx.s4 a2)}) (cond (Qy.fl a1) (some ((.bool (decide (EB m (Qy.c a1) {a2 with s0:=(Bx.s4 a2)}≤ED m (Qy.c a1) a2))),[])) (some ((.bool (decide (ED m (Qy.c a1) {a2 with s0:=(Bx.s4 a2)}≥EB m (Qy.c a1) a2))),[]))) none) (cond (decide (Qy.ft a1=ic 1)) (cond (Bx.emp {a2 with s1:=(Bx.s4 a2)}||GA {a2 with s1:=(Bx.s4 a2)}) (cond (Qy.fl a1) (some ((.bool (decide (EB m (Qy.c a1) {a2 with s1:=(Bx.s4 a2)}≤ED m (Qy.c a1) a2))),[])) (some ((.bool (decide (ED m (Qy.c a1) {a2 with s1:=(Bx.s4 a2)}≥EB m (Qy.c a1) a2))),[]))) none) (cond (decide (Qy.ft a1=ic 2)) (cond (Bx.emp {a2 with s2:=(Bx.s4 a2)}||GA {a2 with s2:=(Bx.s4 a2)}) (cond (Qy.fl a1) (some ((.bool (decide (EB m (Qy.c a1) {a2 with s2:=(Bx.s4 a2)}≤ED m (Qy.c a1) a2))),[])) (some ((.bool (decide (ED m (Qy.c a1) {a2 with s2:=(Bx.s4 a2)}≥EB m (Qy.c a1) a2))),[]))) none) (cond (decide (Qy.ft a1=ic 3)) (cond (Bx.emp {a2 with s3:=(Bx.s4 a2)}||GA {a2 with s3:=(Bx.s4 a2)}) (cond (Qy.fl a1) (some ((.bool (decide (EB m (Qy.c a1) {a2 with s3:=(Bx.s4 a2)}≤ED m (Qy.c a1) a2))),[])) (some ((.bool (decide (ED m (Qy.c a1) {a2 with s3:=(Bx.s4 a2)}≥EB m (Qy.c a1) a2))),[]))) none) (cond (decide (Qy.ft a1=ic 4)) (cond (Bx.emp a2||GA a2) (cond (Qy.fl a1) (some ((.bool (decide (EB m (Qy.c a1) a2≤ED m (Qy.c a1) a2))),[])) (some ((.bool (decide (ED m (Qy.c a1) a2≥EB m (Qy.c a1) a2))),[]))) none) none)))))) none))))))) none)):=by kernel_rfl
theorem Lv (N:Nat) (m:Md) (a1:Qy) (a2:Bx) (b6:Bool) (x7 x42 x43:Int) (again:St→DP) (k:Out→St→DP):FG (LV N) (DL N6 [1,1,1,0,1,0,1,1,1,0,0,1,0,0]) (TP m a1 a2 b6 x7 x42 x43) (EW again ⟨[3,4,5,6,7,42,43],[3,4,5],[]⟩ k)=(cond (decide (x43 < x42)) (cond (Bx.emp a2||GA a2) (cond (x43 != Qy.c a1) (cond (decide (EB m x43 a2≥x7)) (k .ret (TP m a1 a2 false x7 x42 x43)) (again (TP m a1 a2 b6 x7 x42 (AA AB (x43+1))))) (again (TP m a1 a2 b6 x7 x42 (AA AB (x43+1))))) none) (k (.exit 1) (TP m a1 a2 b6 x7 x42 x43))):=by kernel_rfl
theorem Xi (N:Nat) (m:Md) (a1:Qy) (a2:Bx) (b6:Bool) (x7 x42 x43:Int):(DS 1 (DT (LV N) (DL N6 [1,1,1,0,1,0,1,1,1,0,1]) (DS 0 (DT (LV N) (DL N6 [1,1,1,1]) (DV (LV N) none [.tmp 6] [[.bool]]))))) (.exit 1) (TP m a1 a2 b6 x7 x42 x43)=(some ((.bool true),[])):=by kernel_rfl
theorem Xj (N:Nat) (m:Md) (a1:Qy) (a2:Bx) (b6:Bool) (x7 x42 x43:Int):(DS 1 (DT (LV N) (DL N6 [1,1,1,0,1,0,1,1,1,0,1]) (DS 0 (DT (LV N) (DL N6 [1,1,1,1]) (DV (LV N) none [.tmp 6] [[.bool]]))))) .ret (TP m a1 a2 b6 x7 x42 x43)=(some ((.bool b6),[])):=by kernel_rfl
def J0 (N:Nat):Env:=D6 [(69,bG),(68,bQ),(67,cU),(70,WG),(65,MR),(66,WH)] [(8,⟨[3,4,6,9,29,30,31],[3,4],[]⟩)] 59 N
abbrev TO (m:Md) (q:Qy) (b6 b9:Bool) (l29:LI) (x30 x31:Int):St:=⟨[(3,(.ptr 3 0 0)),(4,(.ptr 4 0 0)),(6,(.bool b6)),(9,(.bool b9)),(29,(.list true E9 l29)),(30,(.i x30)),(31,(.i x31))],[(3,(some (.box (Md.cs m)))),(4,(some (.box (Qy.cs q))))]⟩
theorem zdg (N:Nat) (m:Md) (q:Qy) (v:Vd):D1 (J0 N) L5 [.tmp 6] [[.bool]] [(Md.V m),(Qy.V q),(Vd.V v)]=(cond (!FB m q) (some ((.bool false),[])) (cond (Vd.kind v==1) (cond (Option.isSome (J9 (GR q) (Vd.proof v))) (D0 (J0 N) (DL L5 [1,1,1,0,1,0,1,0,1,0,1,0,0]) ⟨[3,4,6,9,29,30,31],[3,4],[]⟩ N (TO m q false true (Option.getD (J9 (GR q) (Vd.proof v)) []) (ic (AG (Option.getD (J9 (GR q) (Vd.proof v)) []))) 0) (DS 1 (DT (J0 N) (DL L5 [1,1,1,0,1,0,1,0,1,1]) (DS 0 (DT (J0 N) (DL L5 [1,1,1,1]) (DV (J0 N) none [.tmp 6] [[.bool]])))))) (D0 (J0 N) (DL L5 [1,1,1,0,1,0,1,0,1,0,1,0,0]) ⟨[3,4,6,9,29,30,31],[3,4],[]⟩ N (TO m q false false [] (ic 0) 0) (DS 1 (DT (J0 N) (DL L5 [1,1,1,0,1,0,1,0,1,1]) (DS 0 (DT (J0 N) (DL L5 [1,1,1,1]) (DV (J0 N) none [.tmp 6] [[.bool]]))))))) (cond (Vd.kind v==2) (cond (Bx.has (GR q) {p0:=Vd.w0 v,p1:=Vd.w1 v,p2:=Vd.w2 v,p3:=Vd.w3 v} (Vd.twin v)) (some ((.bool (HJ m q {p0:=Vd.w0 v,p1:=Vd.w1 v,p2:=Vd.w2 v,p3:=Vd.w3 v} (Vd.twin v))),[])) (some ((.bool false),[]))) (some ((.bool false),[]))))):=by kernel_rfl
theorem tD (N:Nat) (m:Md) (q:Qy) (b6 b9:Bool) (l29:LI) (x30 x31:Int) (again:St→DP) (k:Out→St→DP):FG (J0 N) (DL L5 [1,1,1,0,1,0,1,0,1,0,1,0,0]) (TO m q b6 b9 l29 x30 x31) (EW again ⟨[3,4,6,9,29,30,31],[3,4],[]⟩ k)=(cond (decide (x31 < x30)) (cond (decide (0≤x31)&&decide (x31 < ic (AG l29))) (cond (FB m q&&(Bx.emp (D9 (AI l29 (AF x31) default))||GA (D9 (AI l29 (AF x31) default)))) (cond (!G0 m q (D9 (AI l29 (AF x31) default))) (k .ret (TO m q false b9 l29 x30 x31)) (again (TO m q b6 b9 l29 x30 (AA AB (x31+1))))) none) none) (k (.exit 1) (TO m q b6 b9 l29 x30 x31))):=by kernel_rfl
theorem Af (N:Nat) (m:Md) (q:Qy) (b6 b9:Bool) (l29:LI) (x30 x31:Int):(DS 1 (DT (J0 N) (DL L5 [1,1,1,0,1,0,1,0,1,1]) (DS 0 (DT (J0 N) (DL L5 [1,1,1,1]) (DV (J0 N) none [.tmp 6] [[.bool]]))))) (.exit 1) (TO m q b6 b9 l29 x30 x31)=(some ((.bool b9),[])):=by kernel_rfl
theorem Xg (N:Nat) (m:Md) (q:Qy) (b6 b9:Bool) (l29:LI) (x30 x31:Int):(DS 1 (DT (J0 N) (DL L5 [1,1,1,0,1,0,1,0,1,1]) (DS 0 (DT (J0 N) (DL L5 [1,1,1,1]) (DV (J0 N) none [.tmp 6] [[.bool]]))))) .ret (TO m q b6 b9 l29 x30 x31)=(some ((.bool b6),[])):=by kernel_rfl
open Go Go.Proofs
theorem zhO:DY PR B0 192 cW:=by
 refine D7 [] [] cW [[.bool]] Tryz.func192 zbm trivial ?_;intro vs r hwf h;unfold cW at h;split at h
 ·rename_i s p a;rw [R.get_ok] at h;refine ⟨0,(zd5 0 s p a).trans ?_⟩;rw [← h];unfold JF;show _=some (V.bool (cond s (p==0&&a==0) (decide (0≤p)&&decide (p≤4))),[]);cases s with
  | true=>
   simp only [BH,B9];rfl
  | false=>
   simp only [A9];by_cases hp:0≤p
   ·rw [AE (show p≥0 from hp)]; rfl
   ·rw [AL (show ¬ p≥0 from hp)]; rfl
 ·simp [R.get] at h
def Wb (o:Option (Int × Int)):Int:=match o with
 | some st=>cond (!(st.1==0)||decide (st.2 > 200)) 0 st.2
 | none=>0
theorem nU (N:Nat) (l:LI) (K:Out→St→DP) (hl:l.length≤65536)
  (hx:∀ x2 x3 x4 x11 x12,K (.exit 0) ⟨[(2,(.int .i64 x2)),(3,(.int .i64 x3)),(4,(.int .i64 x4)),(10,(.list true EE l)),(11,(.int .i64 x11)),(12,(.int .i64 x12))],[]⟩=cond (x3 != 0) (some ((.int .i64 0),[])) (cond (decide (x4 > 200)) (some ((.int .i64 0),[])) (some ((.int .i64 x4),[]))))
  (hr:∀ x2 x3 x4 x11 x12,K .ret ⟨[(2,(.int .i64 x2)),(3,(.int .i64 x3)),(4,(.int .i64 x4)),(10,(.list true EE l)),(11,(.int .i64 x11)),(12,(.int .i64 x12))],[]⟩=some (.int .i64 x2,[])) :
  ∀ (d i n:Nat) (left most:Int),i+d=l.length→d < n→0≤left→left≤i+1 →
   D0 (QZ N) (DL UL [1,1,1,0,1,0,0]) ⟨[2,3,4,10,11,12],[],[]⟩ n ⟨[(2,(.int .i64 0)),(3,(.int .i64 left)),(4,(.int .i64 most)),(10,(.list true EE l)),(11,(.int .i64 (ic l.length))),(12,(.int .i64 (i:Int)))],[]⟩ K=some (.int .i64 (Wb (JA (l.drop i) (left,most))),[])
 | d,i,0,_,_,_,h,_,_=>absurd h (by omega)
 | 0,i,n+1,left,most,hd,_,_,_=>by
  rw [EA,Mm,J5 (by omega),DK,hx,CR (by omega)];show _=some (V.int .i64 (cond (!(left==0)||decide (most > 200)) 0 most),[])
  have:(left != 0)=!(left==0):=rfl
  rw [this];cases left==0 <;> cases decide (most > 200) <;> rfl
 | d+1,i,n+1,left,most,hd,hn,h0,h1=>by
  have hi:i < l.length:=by omega
  rw [EA,Mm,IK hi,DJ,JP,B3,DJ,HR (by omega),JB hi,BF hi,JA];unfold LE;have er:JF (NV (IV.toBool (IV.cell l[i] 0)) (IV.toInt (IV.cell l[i] 1)) (IV.toInt (IV.cell l[i] 2)))=JF l[i]:=rfl;have es:IV.toBool (IV.cell l[i] 0)=G3 l[i]:=rfl;rw [er,es];generalize l[i]=x;cases hz:(left==0) with
  | true=>rw [DJ,hr]; rfl
  | false=>
   have hne:left≠0:=by simpa using hz
   rw [DK];cases JF x with
   | false=>rw [A6,DJ,hr]; rfl
   | true=>
    rw [A2,DK,Bool.or_false,DK];cases G3 x with
    | true=>
     rw [DJ,DJ,show AA AB (left - 1)=left - 1 from EO (by omega) (by omega)];exact nU N l K hl hx hr d (i+1) n (left - 1) most (by omega) (by omega) (by omega) (by omega)
    | false=>
     rw [DK,DK,show AA AB (left+1)=left+1 from EO (by omega) (by omega)];exact nU N l K hl hx hr d (i+1) n (left+1) _ (by omega) (by omega) (by omega) (by omega)
theorem zhN:DY PR B0 156 cV:=by
 refine D7 [(192,cW)] [(5,⟨[2,3,4,10,11,12],[],[]⟩)] cV [[.z]] Tryz.func156 zbl ⟨zhO,trivial⟩ ?_;intro vs r hwf h;unfold cV at h;split at h
 ·rename_i l;rw [R.get_ok] at h;refine ⟨l.length+1,(zd4 (l.length+1) l).trans ?_⟩;rw [← h];unfold KK;by_cases hl:l.length≤65536
  ·rw [AL (show ¬ ic l.length > 65536 by simp only [ic]; omega),DK,DK]
   have:=nU (l.length+1) l _ hl (fun x2 x3 x4 x11 x12=>Yd (l.length+1) x2 x3 x4 l x11 x12) (fun x2 x3 x4 x11 x12=>Ye (l.length+1) x2 x3 x4 l x11 x12) l.length 0 (l.length+1) 1 1 (by omega) (by omega) (by omega) (by omega)
   rw [B5] at this;exact this
  ·rw [AE (show ic l.length > 65536 by simp only [ic]; omega)];rfl
 ·simp [R.get] at h
theorem zhL:DY PR B0 110 cT:=by
 refine D7 [(156,cV)] [] cT [[.bool]] Tryz.func110 zbj ⟨zhN,trivial⟩ ?_;intro vs r hwf h;unfold cT at h;split at h
 ·rename_i l;rw [R.get_ok] at h;exact ⟨0,(zd3 0 l).trans h⟩
 ·simp [R.get] at h
theorem zdP (b:Bx) (p:Pt) (t:Int):D1 (Py 6) wM [.tmp 6] [[.bool]] [b.V,p.V,.int .i64 t] =
 cond (!b.s0.has p.p0) (some (.bool false,[])) (cond (!b.s1.has p.p1) (some (.bool false,[])) (cond (!b.s2.has p.p2) (some (.bool false,[])) (cond (!b.s3.has p.p3) (some (.bool false,[])) (some (.bool (b.s4.has t),[]))))):=by kernel_rfl
theorem zg2:DY PR B0 69 bG:=by
 refine D7 [(114,WK)] [(2,⟨[2,3,6,9,10],[3],[]⟩)] bG [[.bool]] Tryz.func69 zam ⟨Kc,trivial⟩ ?_;intro vs r hwf h;unfold bG at h;split at h
 ·rename_i b p t;replace h:=JY h;obtain ⟨b,rfl,h⟩:=h;replace h:=YH h;obtain ⟨p,rfl,h⟩:=h;rw [R.get_ok] at h;refine ⟨6,(zdP b p t).trans ?_⟩;rw [← h];unfold Bx.has;cases b.s0.has p.p0 <;> cases b.s1.has p.p1 <;> cases b.s2.has p.p2 <;> cases b.s3.has p.p3 <;> rfl
 ·simp [R.get] at h
open Go
theorem PF {s:Sp} {n:Int}:s.has n=true↔s.lo≤n∧n≤s.hi:=by
 unfold Sp.has;rw [AH,AQ,AQ]
theorem zib {s:Sp}:s.emp=false↔s.lo≤s.hi:=by
 unfold Sp.emp;rw [BO];omega
theorem Ks {lo hi n:Int}:(M7 lo hi).has n=true↔lo≤n∧n≤hi:=by
 unfold M7;cases hd:decide (lo > hi) with
 | true=>
  have:=A1 hd
  rw [DJ,PF];show (1:Int)≤n∧n≤0↔_;omega
 | false=>rw [DK,PF]
theorem nO {s:Sp} {a n:Int}:(s.cutL a).has n=true↔s.has n=true∧n≤a:=by
 unfold Sp.cutL;rw [Ks,PF];omega
theorem nM {s:Sp} {a n:Int} (ha : -9223372036854775808≤a) (hs:s.hi≤9223372036854775807):(s.cutH a).has n=true↔s.has n=true∧a < n:=by
 unfold Sp.cutH;cases hd:decide (a≥s.hi) with
 | true=>
  have:=A1 hd
  rw [DJ,PF,PF];show (1:Int)≤n∧n≤0↔_;omega
 | false=>
  have:=BG hd
  have e:FR (a+1)=a+1:=EO (by omega) (by omega);rw [DK,Ks,PF,e];omega
def co (p:Pt) (t:Int):Nat→Int
 | 0=>p.p0
 | 1=>p.p1
 | 2=>p.p2
 | 3=>p.p3
 | _=>t
theorem Q2 {b:Bx} {p:Pt} {t:Int}:b.has p t=true↔∀ i,i < 5→(b.g i).has (co p t i)=true:=by
 unfold Bx.has;simp only [AH];constructor
 ·rintro ⟨h0,h1,h2,h3,h4⟩ i hi
  match i,hi with
  | 0,_=>exact h0
  | 1,_=>exact h1
  | 2,_=>exact h2
  | 3,_=>exact h3
  | 4,_=>exact h4
  | i+5,h=>exact absurd h (by omega)
 ·intro h;exact ⟨h 0 (by omega),h 1 (by omega),h 2 (by omega),h 3 (by omega),h 4 (by omega)⟩
theorem m6 {b:Bx}:b.emp=false↔∀ i,i < 5→(b.g i).lo≤(b.g i).hi:=by
 unfold Bx.emp;simp only [vas,zib];constructor
 ·rintro ⟨h0,h1,h2,h3,h4⟩ i hi
  match i,hi with
  | 0,_=>exact h0
  | 1,_=>exact h1
  | 2,_=>exact h2
  | 3,_=>exact h3
  | 4,_=>exact h4
  | i+5,h=>exact absurd h (by omega)
 ·intro h;exact ⟨h 0 (by omega),h 1 (by omega),h 2 (by omega),h 3 (by omega),h 4 (by omega)⟩
theorem L3 (b:Bx) (s:Sp):∀ {i j:Nat},i < 5→j < 5→(b.p s i).g j=if j=i then s else b.g j
 | 0,0,_,_=>rfl
 | 0,1,_,_=>rfl
 | 0,2,_,_=>rfl
 | 0,3,_,_=>rfl
 | 0,4,_,_=>rfl
 | 1,0,_,_=>rfl
 | 1,1,_,_=>rfl
 | 1,2,_,_=>rfl
 | 1,3,_,_=>rfl
 | 1,4,_,_=>rfl
 | 2,0,_,_=>rfl
 | 2,1,_,_=>rfl
 | 2,2,_,_=>rfl
 | 2,3,_,_=>rfl
 | 2,4,_,_=>rfl
 | 3,0,_,_=>rfl
 | 3,1,_,_=>rfl
 | 3,2,_,_=>rfl
 | 3,3,_,_=>rfl
 | 3,4,_,_=>rfl
 | 4,0,_,_=>rfl
 | 4,1,_,_=>rfl
 | 4,2,_,_=>rfl
 | 4,3,_,_=>rfl
 | 4,4,_,_=>rfl
 | i+5,_,h,_=>absurd h (by omega)
 | _,j+5,_,h=>absurd h (by omega)
def Bx.ok (b:Bx):Prop:=∀ i,i < 5→(b.g i).hi≤2147483647
theorem Y1 (b:Bx) (h:b.emp=false):b.has b.low b.s4.hi=true:=by
 rw [m6] at h;rw [Q2];intro i hi;rw [PF]
 have:=h i hi
 match i,hi with
 | 0,_=>exact ⟨vab _,this⟩
 | 1,_=>exact ⟨vab _,this⟩
 | 2,_=>exact ⟨vab _,this⟩
 | 3,_=>exact ⟨vab _,this⟩
 | 4,_=>exact ⟨this,vab _⟩
 | i+5,h=>exact absurd h (by omega)
theorem iN {b:Bx} {p:Pt} {t:Int} (h:b.has p t=true):b.emp=false:=by
 rw [Q2] at h;rw [m6];intro i hi
 have:=PF.1 (h i hi)
 omega
theorem nN {b:Bx} {i:Nat} (hi:i < 5) {a:Int} {p:Pt} {t:Int}:(b.cutL (i:Int) a).has p t=true↔b.has p t=true∧co p t i≤a:=by
 unfold Bx.cutL;rw [BD,Q2,Q2];constructor
 ·intro h;refine ⟨fun j hj=>?_,?_⟩
  ·have:=h j hj
   rw [L3 b _ hi hj] at this;by_cases e:j=i
   ·rw [BP e,nO] at this;rw [e] at this ⊢;exact this.1
   ·rw [BB e] at this;exact this
  ·have:=h i hi
   rw [L3 b _ hi hi,BP rfl,nO] at this;exact this.2
 ·rintro ⟨h,ha⟩ j hj;rw [L3 b _ hi hj];by_cases e:j=i
  ·rw [BP e,nO,e];exact ⟨h i hi,ha⟩
  ·rw [BB e];exact h j hj
theorem nL {b:Bx} (hb:b.ok) {i:Nat} (hi:i < 5) {a:Int} (ha : -2147483648≤a) {p:Pt} {t:Int}:(b.cutH (i:Int) a).has p t=true↔b.has p t=true∧a < co p t i:=by
 have hs:=hb i hi;unfold Bx.cutH;rw [BD,Q2,Q2];constructor
 ·intro h;refine ⟨fun j hj=>?_,?_⟩
  ·have:=h j hj
   rw [L3 b _ hi hj] at this;by_cases e:j=i
   ·rw [BP e,nM (by omega) (by omega)] at this;rw [e] at this ⊢;exact this.1
   ·rw [BB e] at this;exact this
  ·have:=h i hi
   rw [L3 b _ hi hi,BP rfl,nM (by omega) (by omega)] at this;exact this.2
 ·rintro ⟨h,ha'⟩ j hj;rw [L3 b _ hi hj];by_cases e:j=i
  ·rw [BP e,nM (by omega) (by omega),e];exact ⟨h i hi,ha'⟩
  ·rw [BB e];exact h j hj
theorem Kt {lo hi:Int} (h:hi≤2147483647):(M7 lo hi).hi≤2147483647:=by
 unfold M7;cases decide (lo > hi) with
 | true=>rw [DJ]; show (0:Int)≤_; omega
 | false=>exact h
theorem fQ {b:Bx} (hb:b.ok) {s:Sp} (hs:s.hi≤2147483647) {i:Nat} (hi:i < 5):(b.p s i).ok:=by
 intro j hj;rw [L3 b _ hi hj];split
 ·exact hs
 ·exact hb j hj
theorem zI {b:Bx} (hb:b.ok) {i:Nat} (hi:i < 5) (a:Int):(b.cutL (i:Int) a).ok:=by
 unfold Bx.cutL;rw [BD];refine fQ hb ?_ hi;unfold Sp.cutL;exact Kt (by have:=hb i hi; omega)
theorem zG {b:Bx} (hb:b.ok) {i:Nat} (hi:i < 5) (a:Int):(b.cutH (i:Int) a).ok:=by
 unfold Bx.cutH;rw [BD];refine fQ hb ?_ hi;unfold Sp.cutH;cases decide (a≥(b.g i).hi) with
 | true=>rw [DJ]; show (0:Int)≤_; omega
 | false=>exact Kt (hb i hi)
theorem IO (b:Bx):D9 b.I=b:=rfl
theorem iT (p:Pt) (t:Int):∀ {i:Nat},i < 4→co p t i=p.g i
 | 0,_=>rfl
 | 1,_=>rfl
 | 2,_=>rfl
 | 3,_=>rfl
 | i+4,h=>absurd h (by omega)
abbrev nd (l:LI) (i:Nat):Nd:=DM (l.getD i default).toInt
def XJ (l:LI) (k j:Nat):Prop:=(nd l k).lf=false∧((nd l k).l=(j:Int)∨(nd l k).r=(j:Int))
structure TreeOK (l:LI):Prop where
 len:1≤l.length∧l.length≤31
 node:∀ k,k < l.length→GK (l.getD k default).toInt=true
 fork:∀ k,k < l.length→(nd l k).lf=false→(0≤(nd l k).f∧(nd l k).f < 4)∧E5 (nd l k).a=true∧((k:Int) < (nd l k).l∧(nd l k).l < ic l.length)∧((k:Int) < (nd l k).r∧(nd l k).r < ic l.length)∧(nd l k).l≠(nd l k).r
 parent:∀ j,1≤j→j < l.length→∃ k,k < l.length∧XJ l k j
 alone:∀ j k k',1≤j→j < l.length→k < l.length→k' < l.length→XJ l k j→XJ l k' j→k=k'
theorem zix {l:List Nat}:∀ {k a:Nat},l[k]?=some a→a≤l.sum:=by
 induction l with
 | nil=>intro k a h; simp at h
 | cons x r ih=>
  intro k a h;cases k with
  | zero=>simp at h; simp; omega
  | succ k=>have:=ih (k:=k) (a:=a) (by simpa using h); simp; omega
theorem Nj {l:List Nat}:∀ {k k' a b:Nat},k < k'→l[k]?=some a→l[k']?=some b→a+b≤l.sum:=by
 induction l with
 | nil=>intro k k' a b _ h; simp at h
 | cons x r ih=>
  intro k k' a b hk h h';cases k with
  | zero=>
   cases k' with
   | zero=>omega
   | succ k'=>
    have:=zix (l:=r) (k:=k') (a:=b) (by simpa using h')
    simp at h;simp;omega
  | succ k=>
   cases k' with
   | zero=>omega
   | succ k'=>
    have:=ih (k:=k) (k':=k') (a:=a) (b:=b) (by omega) (by simpa using h) (by simpa using h')
    simp;omega
theorem ziz {l:List Nat}:0 < l.sum→∃ (k a:Nat),l[k]?=some a∧0 < a:=by
 induction l with
 | nil=>intro h; simp at h
 | cons x r ih=>
  intro h;by_cases hx:0 < x
  ·exact ⟨0,x,rfl,hx⟩
  ·obtain ⟨k,a,hk,ha⟩:=ih (by simp at h; omega);exact ⟨k+1,a,by simpa using hk,ha⟩
theorem pV {x:Nd} {j:Nat}:0 < LH x j↔x.lf=false∧(x.l=(j:Int)∨x.r=(j:Int)):=by
 unfold LH;cases x.lf with
 | true=>simp
 | false=>
  rw [DK];by_cases h1:x.l=(j:Int) <;> by_cases h2:x.r=(j:Int) <;> simp [h1,h2]
theorem eO {l:LI} {k:Nat} (h:k < l.length):l.getD k default=l[k]:=by simp [h]
theorem tT {l:LI} (h:G4 l 4=true):TreeOK l:=by
 have key:∀ {dim n:Int} {l:LI} {i k:Nat} (hk:k < l.length),KO dim n i l=true→GK (l[k]).toInt=true∧OA dim n (i+k) (DM (l[k]).toInt)=true:=by
  intro dim n l
  induction l with
  | nil=>intro i k hk; exact absurd hk (Nat.not_lt_zero k)
  | cons w r ih=>
   intro i k hk h;rw [KO] at h;simp only [AH] at h;cases k with
   | zero=>exact h.1
   | succ k=>
    have:=ih (k:=k) (by simpa using hk) h.2
    rw [show i+1+k=i+(k+1) by omega] at this;exact this
 unfold G4 at h;simp only [AH] at h;obtain ⟨⟨h1,h31⟩,hn,ho⟩:=h;have hlen:=AO h1;have once:∀ j,1≤j→j < l.length→IW l j=1:=fun j hj hjl=>by
  unfold ZU at ho;rw [CU] at ho
  have:=ho (j - 1) (vbn.2 (by omega))
  rw [show j - 1+1=j by omega] at this;simpa using this
 have at_:∀ k (hk:k < l.length) j,(l.map fun w=>LH (DM w.toInt) j)[k]?=some (LH (nd l k) j):=fun k hk j=>by
  rw [CA,BE hk];unfold nd;rw [eO hk];rfl
 refine ⟨⟨hlen,AO h31⟩,fun k hk=>by rw [eO hk]; exact (key hk hn).1,fun k hk hl=>?_,fun j hj hjl=>?_,fun j k k' hj hjl hk hk' hn1 hn2=>?_⟩
 ·have h2:=(key hk hn).2;have h3:=(key hk hn).1;rw [BL] at h2;unfold nd at hl ⊢;rw [eO hk] at hl ⊢;unfold OA at h2;rw [hl,DK] at h2;simp only [AH,B1,BO,A3] at h2;obtain ⟨q1,q2,q3,q4⟩:=h2;have hr:=(kF h3).2;unfold M5 Q4 at hr;rw [hl,DK] at hr;simp only [AH,AQ] at hr;exact ⟨⟨hr.2.1,hr.2.2.1⟩,hr.2.2.2.1,⟨by omega,by simp only [ic] at q4 ⊢; omega⟩,⟨by omega,by simp only [ic] at q4 ⊢; omega⟩,q2⟩
 ·have h2:=once j hj hjl;unfold IW at h2;obtain ⟨k,a,hk,ha⟩:=ziz (l:=l.map fun w=>LH (DM w.toInt) j) (by omega);have hkl:k < l.length:=by
   have:=(BS.1 hk).1
   simpa using this
  rw [at_ k hkl j] at hk;simp only [AC] at hk;subst hk;exact ⟨k,hkl,pV.1 ha⟩
 ·have h2:=once j hj hjl;unfold IW at h2;have p1:0 < LH (nd l k) j:=pV.2 hn1;have p2:0 < LH (nd l k') j:=pV.2 hn2;rcases Nat.lt_trichotomy k k' with hlt | heq | hlt
  ·have:=Nj hlt (at_ k hk j) (at_ k' hk' j)
   omega
  ·exact heq
  ·have:=Nj hlt (at_ k' hk' j) (at_ k hk j)
   omega
def QJ (l:LI) (p:Pt) (i:Nat):Int:=(IR l p 31 (i:Int)).2.v
theorem i7 {l:LI} (h:TreeOK l) (p:Pt) {i:Nat} (hi:i < l.length) (n:Nat):IR l p (n+1) (i:Int) =
  cond (nd l i).lf ((i:Int),nd l i) (cond (decide (p.g (nd l i).f.toNat≤(nd l i).a)) (IR l p n (nd l i).l) (IR l p n (nd l i).r)):=by
 rw [IR,AL (show ¬ (i:Int)≥ic l.length by simp only [ic]; omega),DK,BD,h.node i hi,A2,DK]
theorem i8 {l:LI} (h:TreeOK l) (p:Pt):∀ (n n' i:Nat),i < l.length→l.length - i≤n→l.length - i≤n'→IR l p n (i:Int)=IR l p n' (i:Int)
 | 0,_,i,hi,h1,_=>absurd h1 (by omega)
 | _+1,0,i,hi,_,h2=>absurd h2 (by omega)
 | n+1,n'+1,i,hi,h1,h2=>by
  rw [i7 h p hi,i7 h p hi];cases hl:(nd l i).lf with
  | true=>rfl
  | false=>
   obtain ⟨_,_,⟨a1,a2⟩,⟨b1,b2⟩,_⟩:=h.fork i hi hl;simp only [ic] at a2 b2;rw [DK,DK];cases decide (p.g (nd l i).f.toNat≤(nd l i).a) with
   | true=>
    have e:(nd l i).l=(((nd l i).l.toNat:Nat):Int):=by omega
    rw [DJ,DJ,e];exact i8 h p n n' _ (by omega) (by omega) (by omega)
   | false=>
    have e:(nd l i).r=(((nd l i).r.toNat:Nat):Int):=by omega
    rw [DK,DK,e];exact i8 h p n n' _ (by omega) (by omega) (by omega)
theorem Oq {l:LI} (h:TreeOK l) (p:Pt) {i:Nat} (hi:i < l.length) (hl:(nd l i).lf=true):QJ l p i=(nd l i).v:=by
 unfold QJ;rw [i7 h p hi,hl,DJ]
theorem Oo {l:LI} (h:TreeOK l) (p:Pt) {i:Nat} (hi:i < l.length) (hl:(nd l i).lf=false):QJ l p i=QJ l p (cond (decide (p.g (nd l i).f.toNat≤(nd l i).a)) (nd l i).l.toNat (nd l i).r.toNat):=by
 obtain ⟨_,_,⟨a1,a2⟩,⟨b1,b2⟩,_⟩:=h.fork i hi hl;have h31:=h.len.2;simp only [ic] at a2 b2;unfold QJ;rw [i7 h p hi,hl,DK];cases decide (p.g (nd l i).f.toNat≤(nd l i).a) with
 | true=>
  rw [DJ,DJ];have e:(nd l i).l=(((nd l i).l.toNat:Nat):Int):=by omega
  rw [e,BD];rw [i8 h p 30 31 _ (by omega) (by omega) (by omega)]
 | false=>
  rw [DK,DK];have e:(nd l i).r=(((nd l i).r.toNat:Nat):Int):=by omega
  rw [e,BD];rw [i8 h p 30 31 _ (by omega) (by omega) (by omega)]
theorem zi7 (l:LI) (p:Pt):HE l p=QJ l p 0:=rfl
abbrev I0 (own:LI) (j:Nat):Bx:=D9 (own.getD j default)
def fr (l:LI) (i j:Nat):Prop:=i≤j∧j < l.length∧(j=0∨∃ k,k < i∧XJ l k j)
structure PInv (l:LI) (b:Bx) (i:Nat) (own out:LI):Prop where
 len:own.length=l.length
 val:∀ j,fr l i j→∀ p t,(I0 own j).has p t=true→b.has p t=true∧QJ l p 0=QJ l p j
 ok:∀ j,fr l i j→(I0 own j).ok
 all:∀ p t,b.has p t=true→(∃ x∈out,(D9 x).has p t=true)∨∃ j,fr l i j∧(I0 own j).has p t=true
 out:∀ x∈out,(D9 x).emp=false∧(D9 x).ok∧∀ p t,(D9 x).has p t=true→b.has p t=true∧HE l p=HP x
theorem Au {l:LI} (h:TreeOK l) {i:Nat} (hi:i < l.length):fr l i i:=by
 refine ⟨AX _,hi,?_⟩;by_cases h0:i=0
 ·exact .inl h0
 ·obtain ⟨k,hk,hn⟩:=h.parent i (by omega) hi;refine .inr ⟨k,?_,hn⟩;obtain ⟨_,_,a,b,_⟩:=h.fork k hk hn.1;rcases hn.2 with e | e <;> omega
theorem sA {own:LI} {a j:Nat} {x:IV} (ha:a < own.length):(own.set a x).getD j default=if j=a then x else own.getD j default:=by
 rw [BW,List.getElem?_set];by_cases e:a=j
 ·subst e;rw [BP rfl,BP ha,BP rfl];rfl
 ·rw [BB e,BB (fun h=>e h.symm),← BW]
theorem zfu {l:LI} (h:TreeOK l) {b:Bx} {i:Nat} (hi:i < l.length) {own out:LI} (hp:PInv l b i own out) :
  PInv l b (i+1) (O6 (nd l i) i own) (cond ((nd l i).lf&&!(I0 own i).emp) (out++[fT (I0 own i) (nd l i).v]) out):=by
 have hfi:=Au h hi;cases hl:(nd l i).lf with
 | true=>
  have e1:O6 (nd l i) i own=own:=by unfold O6; rw [hl,DJ]
  have hfr:∀ j,fr l (i+1) j→fr l i j:=fun j hj=>by
   refine ⟨by have:=hj.1; omega,hj.2.1,hj.2.2.imp_right ?_⟩;rintro ⟨k,hk,hn⟩;refine ⟨k,?_,hn⟩;rcases Nat.lt_succ_iff_lt_or_eq.1 hk with h1 | h1
   ·exact h1
   ·subst h1;rw [hn.1] at hl;cases hl
  have hrf:∀ j,fr l i j→j=i∨fr l (i+1) j:=fun j hj=>by
   by_cases e:j=i
   ·exact .inl e
   ·refine .inr ⟨by have:=hj.1; omega,hj.2.1,hj.2.2.imp_right ?_⟩;rintro ⟨k,hk,hn⟩;exact ⟨k,by omega,hn⟩
  rw [e1,A8];have hv:=fun p=>Oq h p hi hl
  cases he:(I0 own i).emp with
  | true=>
   rw [A2,DK];refine ⟨hp.len,fun j hj=>hp.val j (hfr j hj),fun j hj=>hp.ok j (hfr j hj),fun p t hb=>?_,hp.out⟩;rcases hp.all p t hb with h1 | ⟨j,hj,hh⟩
   ·exact .inl h1
   ·rcases hrf j hj with rfl | hj'
    ·rw [iN hh] at he;cases he
    ·exact .inr ⟨j,hj',hh⟩
  | false=>
   rw [A6,DJ];refine ⟨hp.len,fun j hj=>hp.val j (hfr j hj),fun j hj=>hp.ok j (hfr j hj),fun p t hb=>?_,fun x hx=>?_⟩
   ·rcases hp.all p t hb with ⟨x,hx,hh⟩ | ⟨j,hj,hh⟩
    ·exact .inl ⟨x,AV.2 (.inl hx),hh⟩
    ·rcases hrf j hj with rfl | hj'
     ·exact .inl ⟨_,AV.2 (.inr (BJ.2 rfl)),hh⟩
     ·exact .inr ⟨j,hj',hh⟩
   ·rcases AV.1 hx with hx | hx
    ·exact hp.out x hx
    ·obtain rfl:=BJ.1 hx;refine ⟨he,hp.ok i hfi,fun p t hh=>?_⟩;obtain ⟨q1,q2⟩:=hp.val i hfi p t hh;refine ⟨q1,?_⟩;rw [zi7,q2,hv p];rfl
 | false=>
  obtain ⟨⟨f0,f4⟩,ha,⟨a1,a2⟩,⟨b1,b2⟩,hne⟩:=h.fork i hi hl;simp only [ic] at a2 b2;have ef:(nd l i).f=(((nd l i).f.toNat:Nat):Int):=by omega
  have hf5:(nd l i).f.toNat < 5:=by omega
  have e1:O6 (nd l i) i own=(own.set (nd l i).l.toNat ((I0 own i).cutL (nd l i).f (nd l i).a).I).set (nd l i).r.toNat ((I0 own i).cutH (nd l i).f (nd l i).a).I:=by unfold O6; rw [hl,DK]
  have hlen:=hp.len;have at_:∀ j,(O6 (nd l i) i own).getD j default=if j=(nd l i).r.toNat then ((I0 own i).cutH (nd l i).f (nd l i).a).I else if j=(nd l i).l.toNat then ((I0 own i).cutL (nd l i).f (nd l i).a).I else own.getD j default:=fun j=>by
   rw [e1,sA (by rw [vaF]; omega)];congr 1;rw [sA (by omega)]
  have fits : -2147483648≤(nd l i).a∧(nd l i).a≤2147483647:=by
   unfold E5 at ha;simpa only [AH,AQ] using ha
  have hok:=hp.ok i hfi;have cl:∀ p t,((I0 own i).cutL (nd l i).f (nd l i).a).has p t=true↔(I0 own i).has p t=true∧p.g (nd l i).f.toNat≤(nd l i).a:=fun p t=>by
   have:=nN (b:=I0 own i) hf5 (a:=(nd l i).a) (p:=p) (t:=t)
   rw [← ef,iT p t (by omega)] at this;exact this
  have ch:∀ p t,((I0 own i).cutH (nd l i).f (nd l i).a).has p t=true↔(I0 own i).has p t=true∧(nd l i).a < p.g (nd l i).f.toNat:=fun p t=>by
   have:=nL hok hf5 (a:=(nd l i).a) fits.1 (p:=p) (t:=t)
   rw [← ef,iT p t (by omega)] at this;exact this
  have nl:XJ l i (nd l i).l.toNat:=⟨hl,.inl (by omega)⟩;have nr:XJ l i (nd l i).r.toNat:=⟨hl,.inr (by omega)⟩;have hfr:∀ j,fr l (i+1) j→j≠(nd l i).l.toNat→j≠(nd l i).r.toNat→fr l i j:=fun j hj h1 h2=>by
   refine ⟨by have:=hj.1; omega,hj.2.1,hj.2.2.imp_right ?_⟩;rintro ⟨k,hk,hn⟩;refine ⟨k,?_,hn⟩;rcases Nat.lt_succ_iff_lt_or_eq.1 hk with h3 | h3
   ·exact h3
   ·subst h3;rcases hn.2 with e | e
    ·exact absurd (by omega) h1
    ·exact absurd (by omega) h2
  have hnot:∀ j,XJ l i j→¬ fr l i j:=fun j hn hj=>by
   obtain ⟨h1,h2,h3⟩:=hj;have hj0:1≤j:=by rcases hn.2 with e | e <;> omega
   rcases h3 with h3 | ⟨k,hk,hk2⟩
   ·omega
   ·have:=h.alone j k i hj0 h2 (by omega) hi hk2 hn
    omega
  have fl:fr l (i+1) (nd l i).l.toNat:=⟨by omega,by omega,.inr ⟨i,by omega,nl⟩⟩;have frr:fr l (i+1) (nd l i).r.toNat:=⟨by omega,by omega,.inr ⟨i,by omega,nr⟩⟩;have hup:∀ j,fr l i j→j≠i→fr l (i+1) j:=fun j hj e=>by
   refine ⟨by have:=hj.1; omega,hj.2.1,hj.2.2.imp_right ?_⟩;rintro ⟨k,hk,hn⟩;exact ⟨k,by omega,hn⟩
  have hvf:=fun p=>Oo h p hi hl
  rw [BM,DK];refine ⟨by rw [e1,vaF,vaF]; exact hp.len,fun j hj p t hh=>?_,fun j hj=>?_,fun p t hb=>?_,hp.out⟩
  ·unfold I0 at hh;rw [at_] at hh;by_cases hr:j=(nd l i).r.toNat
   ·rw [BP hr,IO,ch] at hh;obtain ⟨q1,q2⟩:=hp.val i hfi p t hh.1;refine ⟨q1,?_⟩;rw [q2,hvf p,AL (by omega),DK,hr]
   ·rw [BB hr] at hh;by_cases hlj:j=(nd l i).l.toNat
    ·rw [BP hlj,IO,cl] at hh;obtain ⟨q1,q2⟩:=hp.val i hfi p t hh.1;refine ⟨q1,?_⟩;rw [q2,hvf p,AE hh.2,DJ,hlj]
    ·rw [BB hlj] at hh;exact hp.val j (hfr j hj hlj hr) p t hh
  ·unfold I0;rw [at_];by_cases hr:j=(nd l i).r.toNat
   ·rw [BP hr,IO,ef];exact zG hok hf5 _
   ·rw [BB hr];by_cases hlj:j=(nd l i).l.toNat
    ·rw [BP hlj,IO,ef];exact zI hok hf5 _
    ·rw [BB hlj];exact hp.ok j (hfr j hj hlj hr)
  ·rcases hp.all p t hb with h1 | ⟨j,hj,hh⟩
   ·exact .inl h1
   ·refine .inr ?_;by_cases e:j=i
    ·subst e;by_cases hd:p.g (nd l j).f.toNat≤(nd l j).a
     ·refine ⟨_,fl,?_⟩;unfold I0;rw [at_,BB (by omega),BP rfl,IO,cl];exact ⟨hh,hd⟩
     ·refine ⟨_,frr,?_⟩;unfold I0;rw [at_,BP rfl,IO,ch];exact ⟨hh,by omega⟩
    ·refine ⟨j,hup j hj e,?_⟩;unfold I0;rw [at_,BB (fun (er:j=(nd l i).r.toNat)=>hnot j (er ▸ nr) hj),BB (fun (er:j=(nd l i).l.toNat)=>hnot j (er ▸ nl) hj)];exact hh
theorem Ga {l:LI} (h:TreeOK l) {b:Bx}:∀ (m i:Nat) (own out:LI),i+m=l.length→PInv l b i own out→∃ own',PInv l b l.length own' (OE (l.drop i) i own out)
 | 0,i,own,out,hd,hp=>by
  have hi:i=l.length:=by omega
  subst hi;rw [vaB,OE];exact ⟨own,hp⟩
 | m+1,i,own,out,hd,hp=>by
  have hi:i < l.length:=by omega
  rw [BF hi,OE];have hs:=zfu h hi hp;have e:nd l i=DM (l[i]).toInt:=by unfold nd; rw [eO hi]
  rw [e] at hs;exact Ga h m (i+1) _ _ (by omega) hs
theorem zcm {l:LI} (ht:G4 l 4=true) {b:Bx} (hb:b.emp=false) (hok:b.ok) :
  (∀ x∈IT l b,(D9 x).emp=false∧(D9 x).ok∧∀ p t,(D9 x).has p t=true→b.has p t=true∧HE l p=HP x) ∧
   ∀ p t,b.has p t=true→∃ x∈IT l b,(D9 x).has p t=true:=by
 have h:=tT ht;have h1:=h.len.1;have hz:((BN l.length Y0.I).set 0 b.I).getD 0 default=b.I:=by rw [sA (by simp; omega),BP rfl]
 have f0:∀ j,fr l 0 j→j=0:=fun j hj=>by
  rcases hj.2.2 with e | ⟨k,hk,_⟩
  ·exact e
  ·omega
 have h0:PInv l b 0 ((BN l.length Y0.I).set 0 b.I) []:=by
  refine ⟨by simp,fun j hj p t hh=>?_,fun j hj=>?_,fun p t hh=>.inr ⟨0,Au h (by omega),?_⟩,fun x hx=>by cases hx⟩
  ·obtain rfl:=f0 j hj;unfold I0 at hh;rw [hz,IO] at hh;exact ⟨hh,rfl⟩
  ·obtain rfl:=f0 j hj;unfold I0;rw [hz,IO];exact hok
  ·unfold I0;rw [hz,IO];exact hh
 obtain ⟨own',hp⟩:=Ga h l.length 0 _ _ (by omega) h0;have e:IT l b=OE (l.drop 0) 0 ((BN l.length Y0.I).set 0 b.I) []:=by unfold IT; rw [ht,hb]; rfl
 rw [e];refine ⟨hp.out,fun p t hh=>?_⟩;rcases hp.all p t hh with h1 | ⟨j,hj,_⟩
 ·exact h1
 ·have:=hj.1
  have:=hj.2.1
  omega
theorem Dm:∀ {l:LI} {a:Int},O8 l a≤a∧∀ x∈l,O8 l a≤HP x
 | [],a=>⟨vab _,fun x hx=>by cases hx⟩
 | y :: r,a=>by
  rw [O8];obtain ⟨h1,h2⟩:=Dm (l:=r) (a:=min a (HP y));refine ⟨by omega,fun x hx=>?_⟩;rcases AP.1 hx with rfl | hx
  ·omega
  ·exact h2 x hx
theorem Dj:∀ {l:LI} {a:Int},a≤O7 l a∧∀ x∈l,HP x≤O7 l a
 | [],a=>⟨vab _,fun x hx=>by cases hx⟩
 | y :: r,a=>by
  rw [O7];obtain ⟨h1,h2⟩:=Dj (l:=r) (a:=max a (HP y));refine ⟨by omega,fun x hx=>?_⟩;rcases AP.1 hx with rfl | hx
  ·omega
  ·exact h2 x hx
theorem Dl:∀ {l:LI} {a:Int},O8 l a=a∨∃ x∈l,O8 l a=HP x
 | [],a=>.inl rfl
 | y :: r,a=>by
  rw [O8];rcases Dl (l:=r) (a:=min a (HP y)) with h | ⟨x,hx,h⟩
  ·rw [h];by_cases hd:a≤HP y
   ·exact .inl (by omega)
   ·exact .inr ⟨y,AN ..,by omega⟩
  ·exact .inr ⟨x,AW _ hx,h⟩
theorem Di:∀ {l:LI} {a:Int},O7 l a=a∨∃ x∈l,O7 l a=HP x
 | [],a=>.inl rfl
 | y :: r,a=>by
  rw [O7];rcases Di (l:=r) (a:=max a (HP y)) with h | ⟨x,hx,h⟩
  ·rw [h];by_cases hd:HP y≤a
   ·exact .inl (by omega)
   ·exact .inr ⟨y,AN ..,by omega⟩
  ·exact .inr ⟨x,AW _ hx,h⟩
theorem zfM {ps:LI} (hp:ps≠[]):(∀ x∈ps,fX ps≤HP x∧HP x≤fW ps)∧(∃ x∈ps,HP x=fX ps)∧∃ x∈ps,HP x=fW ps:=by
 unfold fX fW;cases ps with
 | nil=>exact absurd rfl hp
 | cons y r=>
  have e:(y :: r).getD 0 default=y:=rfl;rw [e];refine ⟨fun x hx=>⟨Dm.2 x hx,Dj.2 x hx⟩,?_,?_⟩
  ·rcases Dl (l:=y :: r) (a:=HP y) with h | ⟨x,hx,h⟩
   ·exact ⟨y,AN ..,h.symm⟩
   ·exact ⟨x,hx,h.symm⟩
  ·rcases Di (l:=y :: r) (a:=HP y) with h | ⟨x,hx,h⟩
   ·exact ⟨y,AN ..,h.symm⟩
   ·exact ⟨x,hx,h.symm⟩
theorem X5 {l:LI} (ht:G4 l 4=true) {b:Bx} (hb:b.emp=false) (hok:b.ok) :
  (∀ p t,b.has p t=true→H9 l b≤HE l p∧HE l p≤H8 l b)∧(∃ p t,b.has p t=true∧HE l p=H9 l b)∧∃ p t,b.has p t=true∧HE l p=H8 l b:=by
 obtain ⟨h1,h2⟩:=zcm ht hb hok;have hne:IT l b≠[]:=fun e=>by
  obtain ⟨x,hx,_⟩:=h2 b.low b.s4.hi (Y1 b hb);rw [e] at hx;cases hx
 obtain ⟨q1,⟨x,hx,q2⟩,⟨y,hy,q3⟩⟩:=zfM hne;have hT:X4 l b=true:=by
  unfold X4;cases he:IT l b with
  | nil=>exact absurd he hne
  | cons _ _=>rfl
 unfold H9 H8;rw [hT,DJ,DJ];refine ⟨fun p t hh=>?_,⟨(D9 x).low,(D9 x).s4.hi,?_⟩,⟨(D9 y).low,(D9 y).s4.hi,?_⟩⟩
 ·obtain ⟨z,hz,hzh⟩:=h2 p t hh;rw [((h1 z hz).2.2 p t hzh).2];exact q1 z hz
 ·obtain ⟨r1,r2⟩:=(h1 x hx).2.2 _ _ (Y1 _ (h1 x hx).1);exact ⟨r1,r2.trans q2⟩
 ·obtain ⟨r1,r2⟩:=(h1 y hy).2.2 _ _ (Y1 _ (h1 y hy).1);exact ⟨r1,r2.trans q3⟩
open Go
theorem aE {m:Md} (hm:E0 m=true) {t:IV} (ht:t∈m.ts):G4 (FH t) 4=true:=by
 have h:=MD hm;exact ziR (Nw (CU.1 h.2.2.2.2 t ht)).2 h.1.2
theorem tL (g:LI→Int) (k:Int) (p:Pt):∀ (ts:LI) (s s':Int),(∀ t∈ts,g (FH t)≤HE (FH t) p)→s≤s'→I3 g k ts s≤P1 k p ts s'
 | [],_,_,_,h=>h
 | t :: r,s,s',hg,h=>by
  rw [I3,P1];have h1:=hg t (AN ..);refine tL g k p r _ _ (fun u hu=>hg u (AW _ hu)) ?_;cases (VE t==k) <;> simp only [BH,A9] <;> omega
theorem tJ (g:LI→Int) (k:Int) (p:Pt):∀ (ts:LI) (s s':Int),(∀ t∈ts,HE (FH t) p≤g (FH t))→s'≤s→P1 k p ts s'≤I3 g k ts s
 | [],_,_,_,h=>h
 | t :: r,s,s',hg,h=>by
  rw [I3,P1];have h1:=hg t (AN ..);refine tJ g k p r _ _ (fun u hu=>hg u (AW _ hu)) ?_;cases (VE t==k) <;> simp only [BH,A9] <;> omega
theorem rX {m:Md} {k:Int} {b:Bx} (h:HA m k b=true):E0 m=true∧IC m k=true∧b.emp=false:=by
 unfold HA at h;simp only [AH,B1] at h;exact h
theorem Ae {m:Md} {k:Int} (hm:E0 m=true) (hk:IC m k=true) (p:Pt):EU m k p=P1 k p m.ts (L0 m k):=by
 unfold EU;rw [hm,hk];rfl
theorem zgE {m:Md} {k:Int} {b:Bx} (h:HA m k b=true) (hok:b.ok) {p:Pt} {t:Int} (hh:b.has p t=true):ED m k b≤EU m k p∧EU m k p≤EB m k b:=by
 obtain ⟨hm,hk,hb⟩:=rX h;unfold ED EB;rw [h,DJ,DJ,Ae hm hk];exact ⟨tL _ k p m.ts _ _ (fun t ht=>((X5 (aE hm ht) hb hok).1 p _ hh).1) (vab _),tJ _ k p m.ts _ _ (fun t ht=>((X5 (aE hm ht) hb hok).1 p _ hh).2) (vab _)⟩
theorem zgD {m:Md} {k:Int} {b:Bx} (h:HA m k b=true) (hok:b.ok) {p:Pt} {t:Int} (hh:b.has p t=true) (hc:∀ u∈m.ts,∀ p' t',b.has p' t'=true→HE (FH u) p'=HE (FH u) p):ED m k b=EU m k p∧EB m k b=EU m k p:=by
 obtain ⟨hm,hk,hb⟩:=rX h;have h1:=zgE h hok hh;have h2:EU m k p≤ED m k b∧EB m k b≤EU m k p:=by
  unfold ED EB;rw [h,DJ,DJ,Ae hm hk];refine ⟨tJ _ k p m.ts _ _ (fun u hu=>?_) (vab _),tL _ k p m.ts _ _ (fun u hu=>?_) (vab _)⟩
  ·obtain ⟨_,⟨p',t',q1,q2⟩,_⟩:=X5 (aE hm hu) hb hok;rw [← hc u hu p' t' q1];exact Int.le_of_eq q2
  ·obtain ⟨_,_,⟨p',t',q1,q2⟩⟩:=X5 (aE hm hu) hb hok;rw [← hc u hu p' t' q1];exact Int.le_of_eq q2.symm
 omega
theorem nJ {x:Int}:∀ {l:List Int} {p:Int},x∈l→x=p∨x∈MU p l
 | y :: r,p,h=>by
  rw [MU];cases hb:(y==p) with
  | true=>
   have hb:=B8.1 hb;rw [DJ];rcases AP.1 h with h | h
   ·exact .inl (h.trans hb)
   ·rcases nJ (p:=y) h with h1 | h1
    ·exact .inl (h1.trans hb)
    ·exact .inr h1
  | false=>
   rw [DK];rcases AP.1 h with h | h
   ·exact .inr (h ▸ AN ..)
   ·rcases nJ (p:=y) h with h1 | h1
    ·exact .inr (h1 ▸ AN ..)
    ·exact .inr (AW _ h1)
theorem Ve {x:Int} {l:List Int} (h:x∈l):x∈KI l:=by
 cases l with
 | nil=>cases h
 | cons y r=>
  rw [KI];rcases AP.1 h with h | h
  ·exact h ▸ AN ..
  ·rcases nJ (p:=y) h with h1 | h1
   ·exact h1 ▸ AN ..
   ·exact AW _ h1
theorem ziI {ts:LI} {f a:Int}:a∈JT ts f↔∃ t∈ts,∃ w∈FH t,(DM w.toInt).lf=false∧(DM w.toInt).f=f∧(DM w.toInt).a=a:=by
 have e:a∈JT ts f↔a∈IM ts f:=by
  unfold JT;exact ⟨fun h=>(TA _).mem_iff.1 (y8 h),fun h=>Ve ((TA _).mem_iff.2 h)⟩
 rw [e];unfold IM;simp only [List.mem_flatMap];constructor
 ·rintro ⟨t,ht,w,hw,h⟩;unfold I4 at h;cases hc:(!(DM w.toInt).lf&&(DM w.toInt).f==f) with
  | false=>rw [hc,DK] at h; cases h
  | true=>
   rw [hc,DJ] at h;simp only [AH,B1,B8] at hc;exact ⟨t,ht,w,hw,hc.1,hc.2,(BJ.1 h).symm⟩
 ·rintro ⟨t,ht,w,hw,h1,h2,h3⟩;refine ⟨t,ht,w,hw,?_⟩;unfold I4;rw [h1,h2,DG];exact BJ.2 h3.symm
def ZH (m:Md) (s:Sp) (f:Int):Prop:=∀ a∈JT m.ts f,¬ (s.lo≤a∧a < s.hi)
theorem zcd {lo hi a:Int} {l:List Int}:a∈LF lo hi l↔a∈l∧lo≤a∧a < hi:=by
 unfold LF;rw [List.mem_filter];simp only [B1,vas,BO];constructor
 ·rintro ⟨h,h1,h2⟩; exact ⟨h,by omega,by omega⟩
 ·rintro ⟨h,h1,h2⟩; exact ⟨h,by omega,by omega⟩
theorem W2 {m:Md} {q:Qy} {b:Bx} {i:Nat} {a:Int}:a∈FF m q b i↔0≤IS q (i:Int)∧a∈JT m.ts (IS q (i:Int))∧(b.g i).lo≤a∧a < (b.g i).hi:=by
 unfold FF;cases hd:decide (IS q (i:Int) < 0) with
 | true=>
  have:=A1 hd
  rw [DJ];constructor
  ·intro h; cases h
  ·rintro ⟨h,_⟩; omega
 | false=>
  have:=BG hd
  rw [DK,zcd];constructor
  ·intro h; exact ⟨by omega,h⟩
  ·exact fun h=>h.2
theorem Aq {m:Md} {q:Qy} {b:Bx} {i:Nat} (h:FF m q b i=[]) (hf:0≤IS q (i:Int)):ZH m (b.g i) (IS q (i:Int)):=by
 intro a ha hr
 have:a∈FF m q b i:=W2.2 ⟨hf,ha,hr⟩
 rw [h] at this;cases this
theorem oE {q:Qy} {i:Nat} (hi:i < 4):IS q (i:Int)=(i:Int):=by
 unfold IS;rw [AE (show (i:Int)≥0 by omega),AE (show (i:Int) < 4 by omega)];rfl
theorem tZ {l:LI} {p p':Pt} (h:∀ w∈l,GK w.toInt=true→(DM w.toInt).lf=false→(p.g (DM w.toInt).f.toNat≤(DM w.toInt).a↔p'.g (DM w.toInt).f.toNat≤(DM w.toInt).a)):∀ (n:Nat) (a:Int),IR l p n a=IR l p' n a
 | 0,_=>rfl
 | n+1,a=>by
  rw [IR,IR];cases decide (a≥ic l.length) with
  | true=>rfl
  | false=>
   rw [DK,DK];by_cases hlt:a.toNat < l.length
   ·have hw:l.getD a.toNat default∈l:=by rw [eO hlt]; exact C1 hlt
    generalize l.getD a.toNat default=w at hw ⊢;cases hb:GK w.toInt with
    | false=>rfl
    | true=>
     rw [A2,DK,DK];cases hl:(DM w.toInt).lf with
     | true=>rfl
     | false=>
      have:=h w hw hb hl
      have ed:decide (p.g (DM w.toInt).f.toNat≤(DM w.toInt).a)=decide (p'.g (DM w.toInt).f.toNat≤(DM w.toInt).a):=by
       rw [vaZ,AQ,AQ];exact this
      rw [DK,DK,ed,tZ h n _,tZ h n _]
   ·have e:l.getD a.toNat default=default:=by
     rw [BW,BZ (by omega)];rfl
    rw [e];rfl
theorem Zg {m:Md} {b:Bx} (hf:∀ f:Nat,f < 4→ZH m (b.g f) (f:Int)) {u:IV} (hu:u∈m.ts) {p p':Pt} {t t':Int} (h:b.has p t=true) (h':b.has p' t'=true):HE (FH u) p'=HE (FH u) p:=by
 unfold HE jA;rw [tZ (p:=p') (p':=p) fun w hw hb hl=>?_];obtain ⟨⟨f0,f4⟩,_⟩:=p8 hb hl;have ef:(DM w.toInt).f=(((DM w.toInt).f.toNat:Nat):Int):=by omega
 have hlt:(DM w.toInt).f.toNat < 4:=by omega
 have h1:=PF.1 (Q2.1 h _ (show (DM w.toInt).f.toNat < 5 by omega));have h2:=PF.1 (Q2.1 h' _ (show (DM w.toInt).f.toNat < 5 by omega));rw [iT _ _ hlt] at h1 h2;have h3:=hf _ hlt (DM w.toInt).a (ziI.2 ⟨u,hu,w,hw,hl,ef,rfl⟩);omega
theorem gC {m:Md} {k:Int} {b:Bx} (h:HA m k b=true) (hok:b.ok) (hf:∀ f:Nat,f < 4→ZH m (b.g f) (f:Int)) {p:Pt} {t:Int} (hh:b.has p t=true):ED m k b=EU m k p∧EB m k b=EU m k p:=
 zgD h hok hh fun _ hu _ _ h'=>Zg hf hu hh h'
theorem pP {m:Md} {c lo:Int} {b:Bx}:∀ (d:Nat) (i a:Int) (z:Bool),(0 < RF m c lo b d i a z↔(z=true∨∃ j:Nat,j < d∧i+j≠c)∧(z=true→0 < a)∧∀ j:Nat,j < d→i+j≠c→EB m (i+j) b < lo)∨(z=false∧∀ j:Nat,j < d→i+j=c)
 | 0,i,a,z=>by
  cases z with
  | false=>exact .inr ⟨rfl,fun j hj=>absurd hj (Nat.not_lt_zero j)⟩
  | true=>
   refine .inl ?_;rw [RF];exact ⟨fun h=>⟨.inl rfl,fun _=>h,fun j hj=>absurd hj (Nat.not_lt_zero j)⟩,fun h=>h.2.1 rfl⟩
 | d+1,i,a,z=>by
  rw [RF];have sh:∀ j:Nat,i+1+(j:Int)=i+((j+1:Nat):Int):=fun j=>by omega
  cases hc:(i==c) with
  | true=>
   have hc:=B8.1 hc;rw [DJ];rcases pP (m:=m) (c:=c) (lo:=lo) (b:=b) d (i+1) a z with h | ⟨h1,h2⟩
   ·refine .inl (h.trans ?_);constructor
    ·rintro ⟨q1,q2,q3⟩;refine ⟨q1.imp_right ?_,q2,fun j hj hne=>?_⟩
     ·rintro ⟨j,hj,hne⟩; exact ⟨j+1,by omega,by rw [← sh j]; exact hne⟩
     ·cases j with
      | zero=>exact absurd (by simpa using hc) hne
      | succ j=>rw [← sh j] at hne ⊢; exact q3 j (by omega) hne
    ·rintro ⟨q1,q2,q3⟩;refine ⟨q1.imp_right ?_,q2,fun j hj hne=>?_⟩
     ·rintro ⟨j,hj,hne⟩;cases j with
      | zero=>exact absurd (by simpa using hc) hne
      | succ j=>exact ⟨j,by omega,by rw [sh j]; exact hne⟩
     ·rw [sh j] at hne ⊢; exact q3 (j+1) (by omega) hne
   ·refine .inr ⟨h1,fun j hj=>?_⟩;cases j with
    | zero=>simpa using hc
    | succ j=>rw [← sh j]; exact h2 j (by omega)
  | false=>
   have hc:i≠c:=fun e=>by rw [e,DG] at hc; cases hc
   rw [DK];refine .inl ?_;have key:∀ (a':Int),(0 < a'↔(z=true→0 < a)∧EB m i b < lo)→(0 < RF m c lo b d (i+1) a' true↔(z=true∨∃ j:Nat,j < d+1∧i+(j:Int)≠c)∧(z=true→0 < a)∧∀ j:Nat,j < d+1→i+(j:Int)≠c→EB m (i+j) b < lo):=fun a' ha'=>by
    rcases pP (m:=m) (c:=c) (lo:=lo) (b:=b) d (i+1) a' true with h | ⟨h1,_⟩
    ·rw [h];constructor
     ·rintro ⟨_,q2,q3⟩;obtain ⟨r1,r2⟩:=ha'.1 (q2 rfl);refine ⟨.inr ⟨0,by omega,by simpa using hc⟩,r1,fun j hj hne=>?_⟩;cases j with
      | zero=>simpa using r2
      | succ j=>rw [← sh j] at hne ⊢; exact q3 j (by omega) hne
     ·rintro ⟨_,q2,q3⟩;have r2:=q3 0 (by omega) (by simpa using hc);refine ⟨.inl rfl,fun _=>ha'.2 ⟨q2,by simpa using r2⟩,fun j hj hne=>?_⟩;rw [sh j] at hne ⊢;exact q3 (j+1) (by omega) hne
    ·cases h1
   cases z with
   | false=>
    rw [A6,Bool.true_or,DJ];exact key _ ⟨fun h=>⟨fun h=>(by cases h),by omega⟩,fun h=>by have:=h.2; omega⟩
   | true=>
    rw [A2,vax];cases hd:decide (lo - EB m i b < a) with
    | true=>
     have hd:=A1 hd;rw [DJ];exact key _ ⟨fun h=>⟨fun _=>by omega,by omega⟩,fun h=>by have:=h.2; omega⟩
    | false=>
     have hd:=BG hd;rw [DK];exact key _ ⟨fun h=>⟨fun _=>h,by omega⟩,fun h=>h.1 rfl⟩
theorem Dg {m:Md} {c:Int} {b:Bx} (h:NR m c b=true):0 < UW m c b↔∀ j:Nat,(j:Int) < m.c→(j:Int)≠c→EB m (j:Int) b < ED m c b:=by
 have h0:=h;unfold NR at h0;rw [AH,AQ] at h0;obtain ⟨hs,h2⟩:=h0;have hc:=y5 (rX hs).2.1;unfold UW;rw [h,DJ];rcases pP (m:=m) (c:=c) (lo:=ED m c b) (b:=b) m.c.toNat 0 0 false with h1 | ⟨_,h1⟩
 ·rw [h1];simp only [Int.zero_add];constructor
  ·rintro ⟨_,_,q⟩ j hj hne;exact q j (by omega) hne
  ·intro q;refine ⟨.inr ?_,fun h=>(by cases h),fun j hj hne=>q j (by omega) hne⟩;by_cases e:c=0
   ·exact ⟨1,by omega,by omega⟩
   ·exact ⟨0,by omega,by omega⟩
 ·have q0:=h1 0 (by omega);have q1:=h1 1 (by omega);omega
theorem zfN (p:Pt) (x t:Int):∀ {f i:Nat},f < 4→i < 5→co (p.p x f) t i=if i=f then x else co p t i
 | 0,0,_,_=>rfl
 | 0,1,_,_=>rfl
 | 0,2,_,_=>rfl
 | 0,3,_,_=>rfl
 | 0,4,_,_=>rfl
 | 1,0,_,_=>rfl
 | 1,1,_,_=>rfl
 | 1,2,_,_=>rfl
 | 1,3,_,_=>rfl
 | 1,4,_,_=>rfl
 | 2,0,_,_=>rfl
 | 2,1,_,_=>rfl
 | 2,2,_,_=>rfl
 | 2,3,_,_=>rfl
 | 2,4,_,_=>rfl
 | 3,0,_,_=>rfl
 | 3,1,_,_=>rfl
 | 3,2,_,_=>rfl
 | 3,3,_,_=>rfl
 | 3,4,_,_=>rfl
 | f+4,_,h,_=>absurd h (by omega)
 | _,i+5,_,h=>absurd h (by omega)
theorem zC (p:Pt) (t t':Int):∀ {i:Nat},i < 4→co p t i=co p t' i
 | 0,_=>rfl
 | 1,_=>rfl
 | 2,_=>rfl
 | 3,_=>rfl
 | i+4,h=>absurd h (by omega)
theorem Zd {q:Qy} {b:Bx} (hp:HC q=true) {p:Pt} {t:Int} (h:b.has p t=true):(J4 q b).has p 0=true:=by
 rw [Q2] at h ⊢;intro i hi;unfold J4;rw [hp,DJ,L3 _ _ (by omega) hi];by_cases e:i=4
 ·subst e;rw [BP rfl];rfl
 ·rw [BB e,zC p 0 t (by omega)];exact h i hi
theorem zgK {q:Qy} {b:Bx} (hp:HC q=true) {p:Pt} {t:Int} (h:b.has p t=true):(KB q b).has (JG q p t) 0=true:=by
 have hf:q.ft.toNat < 4:=by rcases RN hp with e | e | e | e <;> rw [e] <;> decide
 rw [Q2] at h ⊢;intro i hi;unfold KB JG;rw [hp,DJ,DJ,L3 _ _ (by omega) hi];by_cases e:i=4
 ·subst e;rw [BP rfl]
  have:co (p.p t q.ft.toNat) 0 4=0:=rfl
  rw [this];rfl
 ·rw [BB e,L3 _ _ (by omega) hi,zfN p t 0 hf hi];by_cases e2:i=q.ft.toNat
  ·rw [BP e2,BP e2];exact h 4 (by omega)
  ·rw [BB e2,BB e2,zC p 0 t (by omega)];exact h i hi
theorem Ze {q:Qy} {b:Bx} (hb:b.ok):(J4 q b).ok:=by
 unfold J4;cases HC q with
 | true=>exact fQ (s:=⟨0,0⟩) (i:=4) hb (show (0:Int)≤2147483647 by omega) (by omega)
 | false=>exact hb
theorem zgL {q:Qy} {b:Bx} (hb:b.ok):(KB q b).ok:=by
 unfold KB;cases hp:HC q with
 | true=>
  have hf:q.ft.toNat < 5:=by rcases RN hp with e | e | e | e <;> rw [e] <;> decide
  exact fQ (s:=⟨0,0⟩) (i:=4) (fQ hb (hb 4 (by omega)) hf) (show (0:Int)≤2147483647 by omega) (by omega)
 | false=>exact hb
theorem nG {m:Md} {k:Int} (h0:0≤k) (h1:k < m.c):IC m k=true:=by
 unfold IC;rw [AE h0,AE h1];rfl
theorem XX {m:Md} {k:Int} {b:Bx} (hm:E0 m=true) (hk:IC m k=true) (hb:b.emp=false):HA m k b=true:=by
 unfold HA;rw [hm,hk,hb];rfl
theorem qR {m:Md} {q:Qy} (hm:E0 m=true) (hk:q.k=3) (hf:0≤q.ft∧q.ft < m.d):HC q=true:=by
 have:=(MD hm).1
 unfold HC;rw [hk,AE (show q.ft≥0 by omega),AE (show q.ft < 4 by omega)];rfl
theorem zfi {m:Md} {q:Qy} {p:Pt} {own:Int}:fP m q p own=true↔∃ j:Nat,(j:Int) < m.c∧(j:Int)≠q.c∧EU m (j:Int) p≥own:=by
 unfold fP;rw [List.any_eq_true];constructor
 ·rintro ⟨c,hc,h⟩;simp only [AH,B1,A3,AQ] at h;exact ⟨c,by have:=vbn.1 hc; omega,h.1,h.2⟩
 ·rintro ⟨j,h1,h2,h3⟩;refine ⟨j,vbn.2 (by omega),?_⟩;simp only [AH,B1,A3,AQ];exact ⟨h2,h3⟩
theorem Uu {m:Md} {q:Qy} {b:Bx} (hr:FB m q=true) (hb:b.emp=false) (hok:b.ok) (hn:∀ i,i < 5→FF m q b i=[]):G0 m q b=true∨HJ m q b.low b.s4.hi=true:=by
 obtain ⟨hm,⟨c0,c1⟩,_,_,hk⟩:=XV hr;have hcl:=nG c0 c1;have hs:=XX hm hcl hb;have hh:=Y1 b hb;have hfl:∀ f:Nat,f < 4→ZH m (b.g f) (f:Int):=fun f hf=>by
  have:=Aq (hn f (by omega)) (by rw [oE hf]; omega)
  rwa [oE hf] at this
 unfold G0 HJ;rw [hr,hb,A8,A8,DK];rcases jW hk with ⟨e,_⟩ | ⟨e,h2,_⟩ | ⟨e,hf,_⟩
 ·rw [e];obtain ⟨q1,q2⟩:=gC hs hok hfl hh;show (HA m q.c b&&(decide (q.lo≤ED m q.c b)&&decide (EB m q.c b≤q.hi)))=true∨(!(Sp.has ⟨q.lo,q.hi⟩ (EU m q.c b.low)))=true;rw [hs,q1,q2,A8];unfold Sp.has;cases (decide (q.lo≤EU m q.c b.low)&&decide (EU m q.c b.low≤q.hi)) with
  | true=>exact .inl rfl
  | false=>exact .inr rfl
 ·rw [e];show (NR m q.c b&&decide (UW m q.c b > 0))=true∨fP m q b.low (EU m q.c b.low)=true;have hg:NR m q.c b=true:=by unfold NR; rw [hs,AE (show m.c≥2 from h2)]; rfl
  rw [hg,A8];cases ho:fP m q b.low (EU m q.c b.low) with
  | true=>exact .inr rfl
  | false=>
   refine .inl (AE ((Dg hg).2 fun j hj hne=>?_));have q1:=(gC hs hok hfl hh).1;have q2:=(gC (XX hm (nG (k:=(j:Int)) (by omega) hj) hb) hok hfl hh).2;have q3:¬ EU m (j:Int) b.low≥EU m q.c b.low:=fun h=>by
    rw [zfi.2 ⟨j,hj,hne,h⟩] at ho;cases ho
   omega
 ·rw [e];have hp:=qR hm e hf;have hf5:q.ft.toNat < 4:=by rcases RN hp with e | e | e | e <;> rw [e] <;> decide
  have ef:q.ft=((q.ft.toNat:Nat):Int):=by omega
  show cond (!(P7 q b)) true (cond q.fl (LC m q b&&decide (SQ m q b≤0)) (LC m q b&&decide (SR m q b≥0)))=true∨cond (decide (b.low.g q.ft.toNat≥b.s4.hi)) false (cond q.fl (decide (EU m q.c (JG q b.low b.s4.hi) > EU m q.c b.low)) (decide (EU m q.c (JG q b.low b.s4.hi) < EU m q.c b.low)))=true;cases ho:P7 q b with
  | false=>exact .inl rfl
  | true=>
   have hlt:b.low.g q.ft.toNat < b.s4.hi:=by
    unfold P7 at ho;simp only [AH,AQ] at ho;have h1:=ho.2.2
    have:b.low.g q.ft.toNat=(b.g q.ft.toNat).lo:=by
     match q.ft.toNat,hf5 with
     | 0,_=>rfl
     | 1,_=>rfl
     | 2,_=>rfl
     | 3,_=>rfl
     | n+4,h=>exact absurd h (by omega)
    omega
   have f1:=Zd (b:=b) hp hh;have f2:=zgK (b:=b) hp hh;have k1:=XX hm hcl (iN f1);have k2:=XX hm hcl (iN f2);have fl1:∀ f:Nat,f < 4→ZH m ((J4 q b).g f) (f:Int):=fun f hf=>by
    unfold J4;rw [hp,DJ,L3 _ _ (by omega) (by omega),BB (by omega)];exact hfl f hf
   have fl2:∀ f:Nat,f < 4→ZH m ((KB q b).g f) (f:Int):=fun f hf=>by
    unfold KB;rw [hp,DJ,L3 _ _ (by omega) (by omega),BB (by omega),L3 _ _ (by omega) (by omega)];by_cases e2:f=q.ft.toNat
    ·rw [BP e2];have e4:IS q ((4:Nat):Int)=q.ft:=by unfold IS; rw [e]; rfl
     have:=Aq (hn 4 (by omega)) (by rw [e4]; omega)
     rw [e4,ef,← e2] at this;exact this
    ·rw [BB e2];exact hfl f hf
   obtain ⟨q1,q2⟩:=gC k1 (Ze hok) fl1 f1;obtain ⟨q3,q4⟩:=gC k2 (zgL hok) fl2 f2;have hch:LC m q b=true:=by unfold LC; rw [hp,k1,k2]; rfl
   rw [A2,DK,hch,A8,A8,AL (show ¬ b.low.g q.ft.toNat≥b.s4.hi by omega),DK];unfold SQ SR;rw [hch,DJ,DJ,q1,q2,q3,q4];cases q.fl with
   | true=>
    rw [DJ,DJ];by_cases hd:EU m q.c (JG q b.low b.s4.hi) > EU m q.c b.low
    ·exact .inr (AE hd)
    ·exact .inl (AE (by omega))
   | false=>
    rw [DK,DK];by_cases hd:EU m q.c (JG q b.low b.s4.hi) < EU m q.c b.low
    ·exact .inr (AE hd)
    ·exact .inl (AE (by omega))
theorem Kv {m:Md} {q:Qy} {b:Bx}:∀ (d i:Nat),(LT m q b d i).isSome=false→∀ j,i≤j→j < i+d→FF m q b j=[]
 | 0,i,_,j,h1,h2=>by omega
 | d+1,i,h,j,h1,h2=>by
  rw [LT] at h;cases hc:decide ((FF m q b i).length > 0) with
  | true=>rw [hc,DJ] at h; cases h
  | false=>
   rw [hc,DK] at h;have hc:=BG hc;by_cases e:j=i
   ·subst e;exact List.length_eq_zero_iff.1 (by omega)
   ·exact Kv d (i+1) h j (by omega) (by omega)
theorem zic {m:Md} {q:Qy} {b:Bx} (h:(E2 m q b).isSome=false):∀ i,i < 5→FF m q b i=[]:=fun i hi=>Kv 5 0 h i (B4 _) (by omega)
theorem Kw {m:Md} {q:Qy} {b:Bx}:∀ (d i:Nat),(LT m q b d i).isSome=true→∃ j:Nat,i≤j∧j < i+d∧KD (LT m q b d i)=(j:Int)∧0 < (FF m q b j).length∧I2 (LT m q b d i)=(FF m q b j).getD (((FF m q b j).length - 1) / 2) 0∧∀ k,i≤k→k < j→FF m q b k=[]
 | 0,i,h=>by rw [LT] at h; cases h
 | d+1,i,h=>by
  rw [LT] at h ⊢;cases hc:decide ((FF m q b i).length > 0) with
  | true=>exact ⟨i,AX _,by omega,rfl,A1 hc,rfl,fun k h1 h2=>absurd h1 (by omega)⟩
  | false=>
   rw [hc,DK] at h;rw [DK];have hc:=BG hc;obtain ⟨j,h1,h2,h3,h4,h5,h6⟩:=Kw d (i+1) h;refine ⟨j,by omega,by omega,h3,h4,h5,fun k hk1 hk2=>?_⟩;by_cases e:k=i
   ·subst e;exact List.length_eq_zero_iff.1 (by omega)
   ·exact h6 k (by omega) hk2
theorem tA {m:Md} {q:Qy} {b:Bx} (h:(E2 m q b).isSome=true):∃ j:Nat,j < 5∧KD (E2 m q b)=(j:Int)∧0 < (FF m q b j).length∧I2 (E2 m q b)=(FF m q b j).getD (((FF m q b j).length - 1) / 2) 0∧I2 (E2 m q b)∈FF m q b j:=by
 obtain ⟨j,_,h2,h3,h4,h5,_⟩:=Kw 5 0 h;refine ⟨j,by omega,h3,h4,h5,?_⟩;have hlt:((FF m q b j).length - 1) / 2 < (FF m q b j).length:=by omega
 have:I2 (E2 m q b)=(FF m q b j)[((FF m q b j).length - 1) / 2]:=by
  refine Eq.trans h5 ?_;simp [hlt]
 rw [this];exact C1 hlt
open Go
abbrev kFt:List Kd:=[.z,.list false [.z],.list false [.z],.list false [.z],.list false [.z]]
structure Ft where
 d:Int
 c:Int
 bias:LI
 ts:LI
def Ft.cs (f:Ft):List FM.V:=[.int .i64 f.d,.int .i64 f.c,.list false [.z] f.bias,.list true kFt f.ts]
def Ft.V (f:Ft):FM.V:=.agg f.cs
def Ft.M (f:Ft):Md:=kC f.d f.c f.bias f.ts
def ftOf?:List FM.V→Option Ft
 | [.int .i64 d,.int .i64 c,.list false [.z] b,.list true [.z,.list false [.z],.list false [.z],.list false [.z],.list false [.z]] t]=>some ⟨d,c,b,t⟩
 | _=>none
def akOf?:List FM.V→Option Ak
 | [.int .i64 k,.int .i64 c,.int .i64 lo,.int .i64 size,.int .i64 ft,.int .i64 bu,.bool fl,.list false [.z] sp]=>some ⟨k,c,lo,size,ft,bu,fl,sp⟩
 | _=>none
abbrev lX (v:FM.V) (k:Ft→R):R:=RY ftOf? v k
abbrev uH (v:FM.V) (k:Ak→R):R:=RY akOf? v k
theorem uI {v:FM.V} {k:Ft→R} {z:FM.V × List (List FM.V)} (h:(lX v k).get=some z):∃ x:Ft,v=x.V∧(k x).get=some z:=by
 obtain ⟨l,x,rfl,hx,h⟩:=VN h;unfold ftOf? at hx;split at hx
 ·simp only [AC] at hx;subst hx;exact ⟨_,rfl,h⟩
 ·cases hx
theorem Pa {v:FM.V} {k:Ak→R} {z:FM.V × List (List FM.V)} (h:(uH v k).get=some z):∃ x:Ak,v=x.V∧(k x).get=some z:=by
 obtain ⟨l,x,rfl,hx,h⟩:=VN h;unfold akOf? at hx;split at hx
 ·simp only [AC] at hx;subst hx;exact ⟨_,rfl,h⟩
 ·cases hx
def FJ (a:Ak) (m:Md):Qy:=JE a m.d m.c
def OF (m:Md):Bool:=(decide (1≤m.d)&&decide (m.d≤4))&&(decide (1≤m.c)&&decide (m.c≤3))
def SI:DW
 | [f]=>lX f fun f=>.ok f.M.V []
 | _=>.no
def SH:DW
 | [a,m]=>uH a fun a=>JI m fun m=>.br (OF m) (.ok (FJ a m).V []) .no
 | _=>.no
def Qy.bud (q:Qy) (b:Int):Qy:=⟨q.k,q.c,q.a0,q.b0,q.a1,q.b1,q.a2,q.b2,q.a3,q.b3,q.a4,q.b4,q.lo,q.hi,q.ft,q.fl,b⟩
theorem So {vs:List FM.V} {z:FM.V × List (List FM.V)} (h:(SI vs).get=some z):(g6 vs).get=some z:=by
 unfold SI at h;split at h
 ·replace h:=uI h;obtain ⟨f,rfl,h⟩:=h;exact h
 ·simp [R.get] at h
theorem Sq {vs:List FM.V} {z:FM.V × List (List FM.V)} (h:(SH vs).get=some z):(gZ vs).get=some z:=by
 unfold SH at h;split at h
 ·replace h:=Pa h;obtain ⟨a,rfl,h⟩:=h;replace h:=JZ h;obtain ⟨m,rfl,h⟩:=h;exact h
 ·simp [R.get] at h
open Go
def Bx.good (b:Bx):Prop:=∀ i,i < 5 → -2147483648≤(b.g i).lo∧(b.g i).lo≤(b.g i).hi∧(b.g i).hi≤2147483647
theorem Bx.good.emp {b:Bx} (h:b.good):b.emp=false:=m6.2 fun i hi=>(h i hi).2.1
theorem Bx.good.ok {b:Bx} (h:b.good):b.ok:=fun i hi=>(h i hi).2.2
def Sp.good (s:Sp):Prop := -2147483648≤s.lo∧s.lo≤s.hi∧s.hi≤2147483647
theorem U2 {b:Bx} (hb:b.good) {s:Sp} (hs:s.good) {i:Nat} (hi:i < 5):(b.p s i).good:=by
 intro j hj;rw [L3 b s hi hj];by_cases h:j=i
 ·rw [BP h]; exact hs
 ·rw [BB h]; exact hb j hj
theorem Kr {lo hi:Int} (h0 : -2147483648≤lo) (h1:lo≤hi) (h2:hi≤2147483647):(M7 lo hi).good:=by
 unfold M7;rw [AL (by omega),DK];exact ⟨h0,h1,h2⟩
theorem zH {b:Bx} (hb:b.good) {i:Nat} (hi:i < 5) {a:Int} (h1:(b.g i).lo≤a) (h2:a < (b.g i).hi):(b.cutL (i:Int) a).good:=by
 unfold Bx.cutL;rw [BD];have h:=hb i hi;refine U2 hb (Kr h.1 ?_ ?_) hi <;> omega
theorem zF {b:Bx} (hb:b.good) {i:Nat} (hi:i < 5) {a:Int} (h1:(b.g i).lo≤a) (h2:a < (b.g i).hi):(b.cutH (i:Int) a).good:=by
 unfold Bx.cutH;rw [BD];have h:=hb i hi;have e:FR (a+1)=a+1:=EO (by omega) (by omega);refine U2 hb ?_ hi;unfold Sp.cutH;rw [AL (by omega),DK,e];exact Kr (by omega) (by omega) h.2.2
theorem gI {d i:Int} {s:Sp} (h:K8 d i s=true):s.good:=by
 unfold K8 at h;simp only [AH,B1,E5,Sp.emp,AQ,BO] at h;obtain ⟨_,h1,h2,h3⟩:=h;exact ⟨h2.1,by omega,h3.2⟩
theorem XU {m:Md} {q:Qy} (h:FB m q=true):E0 m=true∧(0≤q.c∧q.c < m.c)∧(0≤q.bu∧q.bu≤65536)∧P9 q.bx m.d=true∧RA m q=true:=by
 unfold FB at h;simp only [AH,AQ] at h;exact ⟨h.1,⟨h.2.1,h.2.2.1⟩,⟨h.2.2.2.1,h.2.2.2.2.1⟩,h.2.2.2.2.2.1,h.2.2.2.2.2.2⟩
theorem zgd {b:Bx} {d:Int} (h:P9 b d=true):b.good:=by
 unfold P9 at h;simp only [AH] at h;intro i hi
 match i,hi with
 | 0,_=>exact gI h.1
 | 1,_=>exact gI h.2.1
 | 2,_=>exact gI h.2.2.1
 | 3,_=>exact gI h.2.2.2.1
 | 4,_=>exact gI h.2.2.2.2
 | n+5,hi=>omega
theorem tG {m:Md} {q:Qy} (h:FB m q=true):(GR q).good:=by
 have hb:=zgd (XU h).2.2.2.1;unfold GR;refine U2 hb ?_ (by omega);cases hp:HC q with
 | false=>rw [DK]; exact ⟨by decide,by decide,by decide⟩
 | true=>
  rw [DJ];unfold HC at hp;simp only [AH,AQ] at hp;exact hb q.ft.toNat (by omega)
def ZO (s:Sr):Prop:=∀ x∈s.left,(D9 x).good
theorem lQ {s:Sr} (h:ZO s) (hl:0 < s.left.length):(D2 s.left).good:=by
 unfold D2;refine h _ ?_;rw [BW,BE (by omega)];exact C1 _
theorem zcM {m:Md} {q:Qy} (h:FB m q=true):ZO ⟨[(GR q).I],[],Vd.none,0⟩:=by
 intro x hx;obtain rfl:=BJ.1 hx;rw [IO];exact tG h
theorem Mx {m:Md} {q:Qy} {s:Sr} (hr:FB m q=true) (hg:ZO s) (hl:0 < s.left.length) (h1:G0 m q (D2 s.left)=false) (h2:HJ m q (D2 s.left).low (D2 s.left).s4.hi=false) :
  (E2 m q (D2 s.left)).isSome=true:=by
 have ht:=lQ hg hl;cases hs:(E2 m q (D2 s.left)).isSome with
 | true=>rfl
 | false=>
  rcases Uu hr ht.emp ht.ok (zic hs) with h | h
  ·rw [h1] at h; cases h
  ·rw [h2] at h; cases h
theorem ZX {l:LI} {x:IV} (h:x∈GB l):x∈l:=vaH h
theorem ziq {m:Md} {q:Qy} {s:Sr} (hg:ZO s) (hl:0 < s.left.length):ZO (GM m q s):=by
 have hp:∀ x∈GB s.left,(D9 x).good:=fun x hx=>hg x (ZX hx)
 unfold GM;cases G0 m q (D2 s.left) with
 | true=>exact hp
 | false=>
  cases HJ m q (D2 s.left).low (D2 s.left).s4.hi with
  | true=>exact hp
  | false=>
   cases hs:(E2 m q (D2 s.left)).isSome with
   | false=>exact hp
   | true=>
    obtain ⟨j,hj,ei,_,_,hm⟩:=tA hs;have hc:=W2.1 hm;have ht:=lQ hg hl;intro x hx;rw [DK,DK,DJ] at hx;rcases AV.1 hx with hx | hx
    ·exact hp x hx
    ·rw [ei] at hx;rcases AP.1 hx with rfl | hx
     ·rw [IO]; exact zF ht hj hc.2.2.1 hc.2.2.2
     ·obtain rfl:=BJ.1 hx;rw [IO]; exact zH ht hj hc.2.2.1 hc.2.2.2
theorem RX (n lo hi:Int) (h:lo≤hi) (h0 : -2000000000000000000≤lo) (h1:hi≤2000000000000000000):lo≤DN n lo hi∧DN n lo hi≤hi:=
 (HG (n:=n) (lo:=lo) (hi:=hi) (by omega) (by omega) (by omega)).2
theorem mG (f:Ft):E0 f.M=true:=zcJ _ _ _ _
theorem gY (f:Ft):OF f.M=true:=by
 have hd:1≤f.M.d∧f.M.d≤3:=ZB f.d;have hc:1≤f.M.c∧f.M.c≤3:=d6 f.c;unfold OF;rw [AE hd.1,AE (show f.M.d≤4 by omega),AE hc.1,AE hc.2];rfl
theorem kR (d:Int) (l:LI) (i:Nat):K8 d (i:Int) ⟨F3 d l (i:Int),F5 d l (i:Int)⟩=true:=by
 have h1:=RX (EL l (2*(i:Int))) (-2) 9 (by omega) (by omega) (by omega);have h2:=RX (EL l (2*(i:Int)+1)) 0 11 (by omega) (by omega) (by omega);unfold K8 Sp.emp F3 F5 E5;by_cases h:(i:Int) < d
 ·rw [AE h,DJ,DJ,AL (show ¬ (i:Int)≥d by omega)];simp only [BM,A6,A8,AH,B1,AQ,BO];omega
 ·rw [AL h,DK,DK];simp
theorem zce (a:Ak) (c:Int):FS a c=1∨(FS a c=2∧2≤c)∨FS a c=3:=by
 have h:=RX a.k 1 3 (by omega) (by omega) (by omega);unfold FS;cases h2:(DN a.k 1 3==2) with
 | true=>
  have h2':DN a.k 1 3=2:=by simpa using h2
  by_cases hc:c < 2
  ·rw [AE hc]; exact .inl rfl
  ·rw [AL hc]; exact .inr (.inl ⟨h2',by omega⟩)
 | false=>
  have h2':DN a.k 1 3≠2:=by simpa using h2
  rw [BM,DK];omega
theorem Tj (f:Ft) (a:Ak) {w:Int} (h0:0≤w) (h1:w≤65536):FB f.M ((FJ a f.M).bud w)=true:=by
 have hd:1≤f.M.d∧f.M.d≤3:=ZB f.d;have hc:1≤f.M.c∧f.M.c≤3:=d6 f.c;have hm:=mG f;generalize f.M=m at hd hc hm ⊢;have hcl:=RX a.c 0 (m.c - 1) (by omega) (by omega) (by omega);have hlo:=RX a.size 0 18000 (by omega) (by omega) (by omega);have hft:=RX a.ft 0 (m.d - 1) (by omega) (by omega) (by omega);have hreg:P9 ((FJ a m).bud w).bx m.d=true:=by
  unfold P9;simp only [AH];refine ⟨kR m.d a.sp 0,kR m.d a.sp 1,kR m.d a.sp 2,kR m.d a.sp 3,?_⟩;show K8 m.d 4 ⟨0,0⟩=true;unfold K8;simp [Sp.emp,E5]
 have hkind:RA m ((FJ a m).bud w)=true:=by
  unfold RA;show cond (FS a m.c==1) (decide (cond (FS a m.c==1) (KM a) 0≤cond (FS a m.c==1) (KM a+DN a.size 0 18000) 0)&&((cond (FS a m.c==3) (DN a.ft 0 (m.d - 1)) 0==0)&&!(cond (FS a m.c==3) a.fl false)))
   (cond (FS a m.c==2) (decide (m.c≥2)&&((cond (FS a m.c==1) (KM a) 0==0)&&((cond (FS a m.c==1) (KM a+DN a.size 0 18000) 0==0)&&((cond (FS a m.c==3) (DN a.ft 0 (m.d - 1)) 0==0)&&!(cond (FS a m.c==3) a.fl false)))))
    (cond (FS a m.c==3) (decide (cond (FS a m.c==3) (DN a.ft 0 (m.d - 1)) 0≥0)&&(decide (cond (FS a m.c==3) (DN a.ft 0 (m.d - 1)) 0 < m.d)&&((cond (FS a m.c==1) (KM a) 0==0)&&(cond (FS a m.c==1) (KM a+DN a.size 0 18000) 0==0)))) false))=true
  rcases zce a m.c with h | ⟨h,h2⟩ | h
  ·rw [h];show (decide (KM a≤KM a+DN a.size 0 18000)&&true)=true;rw [AE (by omega)]; rfl
  ·rw [h];show (decide (m.c≥2)&&true)=true;rw [AE h2]; rfl
  ·rw [h];show (decide (DN a.ft 0 (m.d - 1)≥0)&&(decide (DN a.ft 0 (m.d - 1) < m.d)&&true))=true;rw [AE hft.1,AE (by omega)]; rfl
 unfold FB;rw [hm,hreg,hkind,AE (show ((FJ a m).bud w).c≥0 from hcl.1),AE (show ((FJ a m).bud w).c < m.c by show DN a.c 0 (m.c - 1) < m.c; omega),AE (show ((FJ a m).bud w).bu≥0 from h0),AE (show ((FJ a m).bud w).bu≤65536 from h1)];rfl
open Go
abbrev jU:List Kd:=[.z,.z,.z,.z,.z,.z,.z,.z,.z,.z,.z]
def QK (a:Int) (b:Bx):IV:=.agg [.int a,.int b.s0.lo,.int b.s0.hi,.int b.s1.lo,.int b.s1.hi,.int b.s2.lo,.int b.s2.hi,.int b.s3.lo,.int b.s3.hi,.int b.s4.lo,.int b.s4.hi]
abbrev H3 (x:IV):Int:=cI x 0
def JW (x:IV):Bx:=⟨⟨cI x 1,cI x 2⟩,⟨cI x 3,cI x 4⟩,⟨cI x 5,cI x 6⟩,⟨cI x 7,cI x 8⟩,⟨cI x 9,cI x 10⟩⟩
theorem YA (a:Int) (b:Bx):H3 (QK a b)=a:=rfl
theorem TH (a:Int) (b:Bx):JW (QK a b)=b:=rfl
structure En where
 todo:LI
 lo:Int
 hi:Int
 any:Bool
def E4 (l:LI):IV:=l.getD (l.length - 1) default
def E3 (l:LI) (e:En):Nd:=DM (l.getD (H3 (E4 e.todo)).toNat default).toInt
def eD (l:LI) (e:En):En:=
 cond (!(GK (l.getD (H3 (E4 e.todo)).toNat default).toInt)||(JW (E4 e.todo)).emp) ⟨GB e.todo,e.lo,e.hi,e.any⟩
  (cond (!(E3 l e).lf)
   ⟨GB e.todo++[QK (E3 l e).l ((JW (E4 e.todo)).cutL (E3 l e).f (E3 l e).a),QK (E3 l e).r ((JW (E4 e.todo)).cutH (E3 l e).f (E3 l e).a)],e.lo,e.hi,e.any⟩
   ⟨GB e.todo,min (cond e.any e.lo (E3 l e).v) (E3 l e).v,max (cond e.any e.hi (E3 l e).v) (E3 l e).v,true⟩)
def nX (b:Bx):En:=⟨[QK 0 b],0,0,false⟩
structure EnI (l:LI) (b:Bx) (e:En):Prop where
 at_:∀ (j:Nat) (x:IV),e.todo[j]?=some x→(j:Int)≤H3 x∧H3 x < ic l.length
 ok:∀ x∈e.todo,(JW x).ok
 val:∀ x∈e.todo,∀ p t,(JW x).has p t=true→b.has p t=true∧HE l p=QJ l p (H3 x).toNat
 all:∀ p t,b.has p t=true→(∃ x∈e.todo,(JW x).has p t=true)∨(e.any=true∧e.lo≤HE l p∧HE l p≤e.hi)
 lo:e.any=true→∃ p t,b.has p t=true∧HE l p=e.lo
 hi:e.any=true→∃ p t,b.has p t=true∧HE l p=e.hi
theorem fU {l:LI} {j:Nat} {x:IV} (h:(GB l)[j]?=some x):l[j]?=some x:=by
 unfold GB at h;rw [CM] at h;split at h
 ·exact h
 ·cases h
theorem sY {l:LI} {x:IV} (hl:0 < l.length) (h:x∈l):x∈GB l∨x=E4 l:=by
 obtain ⟨j,hj⟩:=List.getElem?_of_mem h;have hjl:=(BS.1 hj).1;by_cases hc:j < l.length - 1
 ·refine .inl (vaf (i:=j) ?_);unfold GB;rw [CM,BP hc];exact hj
 ·have:j=l.length - 1:=by omega
  subst this;refine .inr ?_;unfold E4;rw [BW,hj];rfl
theorem VF {l:LI} (hl:0 < l.length):E4 l∈l∧l[l.length - 1]?=some (E4 l):=by
 unfold E4;rw [BW,BE (by omega)];exact ⟨C1 _,rfl⟩
theorem U4 (l:LI):(GB l).length=l.length - 1:=by
 unfold GB;rw [BC]; omega
theorem Wk {l:LI} (ht:TreeOK l) {b:Bx} {e:En} (h:EnI l b e) (hl:0 < e.todo.length):EnI l b (eD l e):=by
 obtain ⟨hm,hg⟩:=VF hl;have ha:=h.at_ _ _ hg;have h31:=ht.len.2;have hpm:∀ x∈GB e.todo,x∈e.todo:=fun x hx=>ZX hx
 have e0:((H3 (E4 e.todo)).toNat:Int)=H3 (E4 e.todo):=by omega
 have hlt:(H3 (E4 e.todo)).toNat < l.length:=by have:=ha.2; simp only [ic] at this; omega
 have hn:=ht.node _ hlt;have hv:=h.val _ hm;have hok:=h.ok _ hm;unfold eD;rw [hn,A2,vax];cases he:(JW (E4 e.todo)).emp with
 | true=>
  rw [DJ];refine ⟨fun j x hj=>h.at_ j x (fU hj),fun x hx=>h.ok x (hpm x hx),fun x hx=>h.val x (hpm x hx),fun p t hh=>?_,h.lo,h.hi⟩;rcases h.all p t hh with ⟨x,hx,hxh⟩ | hr
  ·rcases sY hl hx with hx | rfl
   ·exact .inl ⟨x,hx,hxh⟩
   ·have:=iN hxh
    rw [he] at this; cases this
  ·exact .inr hr
 | false=>
  rw [DK];cases hlf:(E3 l e).lf with
  | true=>
   rw [A2,DK];have hvl:∀ p t,(JW (E4 e.todo)).has p t=true→b.has p t=true∧HE l p=(E3 l e).v:=fun p t hh=>by
    obtain ⟨h1,h2⟩:=hv p t hh;exact ⟨h1,h2.trans (Oq ht p hlt hlf)⟩
   have hlow:=hvl _ _ (Y1 _ he);refine ⟨fun j x hj=>h.at_ j x (fU hj),fun x hx=>h.ok x (hpm x hx),fun x hx=>h.val x (hpm x hx),fun p t hh=>?_,fun _=>?_,fun _=>?_⟩
   ·rcases h.all p t hh with ⟨x,hx,hxh⟩ | ⟨h1,h2,h3⟩
    ·rcases sY hl hx with hx | rfl
     ·exact .inl ⟨x,hx,hxh⟩
     ·refine .inr ⟨rfl,?_,?_⟩
      ·rw [(hvl p t hxh).2]; show min _ _≤_; omega
      ·rw [(hvl p t hxh).2]; show _≤max _ _; omega
    ·refine .inr ⟨rfl,?_,?_⟩
     ·show min (cond e.any e.lo _) _≤_;rw [h1,DJ]; omega
     ·show _≤max (cond e.any e.hi _) _;rw [h1,DJ]; omega
   ·show ∃ p t,b.has p t=true∧HE l p=min (cond e.any e.lo (E3 l e).v) (E3 l e).v;cases hany:e.any with
    | false=>exact ⟨_,_,hlow.1,by rw [hlow.2,DK]; omega⟩
    | true=>
     rw [DJ];by_cases hc:e.lo≤(E3 l e).v
     ·obtain ⟨p,t,h1,h2⟩:=h.lo hany;exact ⟨p,t,h1,by omega⟩
     ·exact ⟨_,_,hlow.1,by rw [hlow.2]; omega⟩
   ·show ∃ p t,b.has p t=true∧HE l p=max (cond e.any e.hi (E3 l e).v) (E3 l e).v;cases hany:e.any with
    | false=>exact ⟨_,_,hlow.1,by rw [hlow.2,DK]; omega⟩
    | true=>
     rw [DJ];by_cases hc:(E3 l e).v≤e.hi
     ·obtain ⟨p,t,h1,h2⟩:=h.hi hany;exact ⟨p,t,h1,by omega⟩
     ·exact ⟨_,_,hlow.1,by rw [hlow.2]; omega⟩
  | false=>
   rw [A6,DJ];obtain ⟨⟨f0,f4⟩,fa,⟨l1,l2⟩,⟨r1,r2⟩,_⟩:=ht.fork _ hlt hlf;replace f0:0≤(E3 l e).f:=f0;replace f4:(E3 l e).f < 4:=f4;replace l1:((H3 (E4 e.todo)).toNat:Int) < (E3 l e).l:=l1;replace l2:(E3 l e).l < ic l.length:=l2;replace r1:((H3 (E4 e.todo)).toNat:Int) < (E3 l e).r:=r1;replace r2:(E3 l e).r < ic l.length:=r2;have ef:(E3 l e).f=(((E3 l e).f.toNat:Nat):Int):=by omega
   have hfl:(E3 l e).f.toNat < 5:=by omega
   have fa' : -2147483648≤(E3 l e).a:=by
    have:E5 (E3 l e).a=true:=fa
    unfold E5 at this;simp only [AH,AQ] at this;exact this.1
   have vf:∀ p:Pt,QJ l p (H3 (E4 e.todo)).toNat=QJ l p (cond (decide (p.g (E3 l e).f.toNat≤(E3 l e).a)) (E3 l e).l.toNat (E3 l e).r.toNat):=fun p=>Oo ht p hlt hlf
   have hL:∀ p t,((JW (E4 e.todo)).cutL (E3 l e).f (E3 l e).a).has p t=true↔(JW (E4 e.todo)).has p t=true∧co p t (E3 l e).f.toNat≤(E3 l e).a:=fun p t=>by
    have:=nN (b:=JW (E4 e.todo)) hfl (a:=(E3 l e).a) (p:=p) (t:=t)
    rwa [← ef] at this
   have hH:∀ p t,((JW (E4 e.todo)).cutH (E3 l e).f (E3 l e).a).has p t=true↔(JW (E4 e.todo)).has p t=true∧(E3 l e).a < co p t (E3 l e).f.toNat:=fun p t=>by
    have:=nL hok hfl fa' (p:=p) (t:=t)
    rwa [← ef] at this
   have okL:((JW (E4 e.todo)).cutL (E3 l e).f (E3 l e).a).ok:=by
    have:=zI hok hfl (E3 l e).a
    rwa [← ef] at this
   have okH:((JW (E4 e.todo)).cutH (E3 l e).f (E3 l e).a).ok:=by
    have:=zG hok hfl (E3 l e).a
    rwa [← ef] at this
   have hco:∀ p t,co p t (E3 l e).f.toNat=p.g (E3 l e).f.toNat:=fun p t=>iT p t (by omega)
   refine ⟨fun j x hj=>?_,fun x hx=>?_,fun x hx=>?_,fun p t hh=>?_,h.lo,h.hi⟩
   ·rw [vae,U4] at hj;split at hj
    ·exact h.at_ j x (fU hj)
    ·rename_i hc;have h1:=ha.1;rcases DC (j - (e.todo.length - 1)) 1 with h0 | h0
     ·have:j - (e.todo.length - 1)=0:=by omega
      rw [this] at hj;simp only [BY,AC] at hj;subst hj;rw [YA];omega
     ·rcases DC (j - (e.todo.length - 1)) 2 with h2 | h2
      ·have:j - (e.todo.length - 1)=1:=by omega
       rw [this] at hj;simp only [DI,BY,AC] at hj;subst hj;rw [YA];omega
      ·rw [BZ (by simpa using h2)] at hj;cases hj
   ·rcases AV.1 hx with hx | hx
    ·exact h.ok x (hpm x hx)
    ·rcases AP.1 hx with rfl | hx
     ·rw [TH]; exact okL
     ·obtain rfl:=BJ.1 hx;rw [TH]; exact okH
   ·rcases AV.1 hx with hx | hx
    ·exact h.val x (hpm x hx)
    ·rcases AP.1 hx with rfl | hx
     ·intro p t hh;rw [TH] at hh;obtain ⟨h1,h2⟩:=(hL p t).1 hh;obtain ⟨h3,h4⟩:=hv p t h1;rw [hco] at h2;rw [YA];exact ⟨h3,by rw [h4,vf,AE h2,DJ]⟩
     ·obtain rfl:=BJ.1 hx;intro p t hh;rw [TH] at hh;obtain ⟨h1,h2⟩:=(hH p t).1 hh;obtain ⟨h3,h4⟩:=hv p t h1;rw [hco] at h2;rw [YA];exact ⟨h3,by rw [h4,vf,AL (by omega),DK]⟩
   ·rcases h.all p t hh with ⟨x,hx,hxh⟩ | hr
    ·rcases sY hl hx with hx | rfl
     ·exact .inl ⟨x,AV.2 (.inl hx),hxh⟩
     ·by_cases hc:co p t (E3 l e).f.toNat≤(E3 l e).a
      ·exact .inl ⟨_,AV.2 (.inr (AN ..)),by rw [TH]; exact (hL p t).2 ⟨hxh,hc⟩⟩
      ·exact .inl ⟨_,AV.2 (.inr (AW _ (AN ..))),by rw [TH]; exact (hH p t).2 ⟨hxh,by omega⟩⟩
    ·exact .inr hr
theorem Wj {l:LI} (ht:TreeOK l) {b:Bx} (hb:b.ok):EnI l b (nX b):=by
 have h1:=ht.len.1;refine ⟨fun j x hj=>?_,fun x hx=>?_,fun x hx=>?_,fun p t hh=>.inl ⟨_,AN ..,by rw [TH]; exact hh⟩,(fun h=>by cases h),(fun h=>by cases h)⟩
 ·match j,hj with
  | 0,hj=>
   obtain rfl:QK 0 b=x:=by simpa [nX] using hj
   rw [YA];simp only [ic];omega
  | j+1,hj=>simp [nX] at hj
 ·obtain rfl:=BJ.1 hx;rw [TH]; exact hb
 ·obtain rfl:=BJ.1 hx;intro p t hh;rw [TH] at hh;exact ⟨hh,rfl⟩
def PY (l:LI):Nat:=(l.map fun x=>3 ^ (31 - (H3 x).toNat)).sum
theorem EnI.depth {l:LI} (ht:TreeOK l) {b:Bx} {e:En} (h:EnI l b e):e.todo.length≤31:=by
 by_cases hc:e.todo.length≤31
 ·exact hc
 ·obtain ⟨x,hx⟩:∃ x,e.todo[31]?=some x:=⟨_,BE (by omega)⟩
  have:=h.at_ 31 x hx
  have h2:=ht.len.2;simp only [ic] at this;omega
theorem Wg {l:LI} (hl:0 < l.length):PY l=PY (GB l)+3 ^ (31 - (H3 (E4 l)).toNat):=by
 have e:l=GB l++[E4 l]:=by
  have h2:=(VF hl).2;have h3:l[l.length - 1]=E4 l:=CX ((BE (by omega)).symm.trans h2);unfold GB;rw [← h3,List.take_append_getElem,CV (by omega)]
 unfold PY
 conv=>lhs; rw [e]
 rw [List.map_append,List.sum_append];simp
theorem ziK {a b c:Nat} (h1:a < b) (h2:a < c) (ha:a < 31):3 ^ (31 - b)+3 ^ (31 - c)+1≤3 ^ (31 - a):=by
 have e:3 ^ (31 - a)=3*3 ^ (30 - a):=by
  rw [show 31 - a=(30 - a)+1 by omega,Nat.pow_succ]; omega
 have e1:3 ^ (31 - b)≤3 ^ (30 - a):=Nat.pow_le_pow_right (by omega) (by omega);have e2:3 ^ (31 - c)≤3 ^ (30 - a):=Nat.pow_le_pow_right (by omega) (by omega);have e3:0 < 3 ^ (30 - a):=Nat.pow_pos (by omega);omega
theorem Wi {l:LI} (ht:TreeOK l) {b:Bx} {e:En} (h:EnI l b e) (hl:0 < e.todo.length):PY (eD l e).todo+1≤PY e.todo:=by
 obtain ⟨hm,hg⟩:=VF hl;have ha:=h.at_ _ _ hg;have h31:=ht.len.2;have hlt:(H3 (E4 e.todo)).toNat < l.length:=by have:=ha.2; simp only [ic] at this; omega
 have hpos:0 < 3 ^ (31 - (H3 (E4 e.todo)).toNat):=Nat.pow_pos (by omega);rw [Wg hl];unfold eD;cases !GK (l.getD (H3 (E4 e.todo)).toNat default).toInt||(JW (E4 e.todo)).emp with
 | true=>rw [DJ]; show PY (GB e.todo)+1≤_; omega
 | false=>
  rw [DK];cases hlf:(E3 l e).lf with
  | true=>rw [A2,DK]; show PY (GB e.todo)+1≤_; omega
  | false=>
   rw [A6,DJ];obtain ⟨_,_,⟨l1,l2⟩,⟨r1,r2⟩,_⟩:=ht.fork _ hlt hlf;replace l1:((H3 (E4 e.todo)).toNat:Int) < (E3 l e).l:=l1;replace r1:((H3 (E4 e.todo)).toNat:Int) < (E3 l e).r:=r1
   have:=ziK (a:=(H3 (E4 e.todo)).toNat) (b:=(E3 l e).l.toNat) (c:=(E3 l e).r.toNat) (by omega) (by omega) (by omega)
   unfold PY at *;rw [List.map_append,List.sum_append];simp only [A0,CB,vba,List.sum_nil,YA];omega
theorem Wh {l:LI} (hT:G4 l 4=true) {b:Bx} (hb:b.emp=false) (hok:b.ok) {e:En} (h:EnI l b e) (hl:e.todo=[]):e.lo=H9 l b∧e.hi=H8 l b:=by
 obtain ⟨t1,⟨p1,u1,q1,q2⟩,⟨p2,u2,q3,q4⟩⟩:=X5 hT hb hok;have hall:∀ p t,b.has p t=true→e.any=true∧e.lo≤HE l p∧HE l p≤e.hi:=fun p t hh=>by
  rcases h.all p t hh with ⟨x,hx,_⟩ | hr
  ·rw [hl] at hx; cases hx
  ·exact hr
 have hany:=(hall _ _ q1).1;obtain ⟨p3,u3,q5,q6⟩:=h.lo hany;obtain ⟨p4,u4,q7,q8⟩:=h.hi hany;have a1:=hall _ _ q1;have a2:=hall _ _ q3;have a3:=t1 _ _ q5;have a4:=t1 _ _ q7;omega
theorem ziC {l:LI} (hT:G4 l 4=true) {b c:Bx} (hb:b.emp=false) (hok:b.ok) (hc:c.emp=false) (hokc:c.ok) (h:∀ p,(∃ t,b.has p t=true)↔∃ t,c.has p t=true):H9 l b=H9 l c∧H8 l b=H8 l c:=by
 obtain ⟨t1,⟨p1,u1,q1,q2⟩,⟨p2,u2,q3,q4⟩⟩:=X5 hT hb hok;obtain ⟨s1,⟨p3,u3,q5,q6⟩,⟨p4,u4,q7,q8⟩⟩:=X5 hT hc hokc;obtain ⟨v1,w1⟩:=(h p1).1 ⟨u1,q1⟩;obtain ⟨v2,w2⟩:=(h p2).1 ⟨u2,q3⟩;obtain ⟨v3,w3⟩:=(h p3).2 ⟨u3,q5⟩;obtain ⟨v4,w4⟩:=(h p4).2 ⟨u4,q7⟩;have a1:=s1 _ _ w1;have a2:=s1 _ _ w2;have a3:=t1 _ _ w3;have a4:=t1 _ _ w4;omega
open Go
theorem rF:∀ {l:LI} {st st':LI × LI} {x:IV},IH l st=some st'→IH (l++[x]) st=LN st' x
 | [],st,st',x,h=>by
  obtain rfl:=CX h;rw [DA,IH];cases LN st x <;> rfl
 | y :: r,st,st',x,h=>by
  rw [CS,IH];rw [IH] at h;cases hs:LN st y with
  | none=>rw [hs] at h; cases h
  | some s1=>rw [hs] at h; exact rF h
theorem nV:∀ {l:LI} {st st':Int × Int} {x:IV},JA l st=some st'→JA (l++[x]) st=LE st' x
 | [],st,st',x,h=>by
  obtain rfl:=CX h;rw [DA,JA];cases LE st x <;> rfl
 | y :: r,st,st',x,h=>by
  rw [CS,JA];rw [JA] at h;cases hs:LE st y with
  | none=>rw [hs] at h; cases h
  | some s1=>rw [hs] at h; exact nV h
def LM (m:Md) (q:Qy) (b:Bx):Nat:=(FF m q b 0).length+(FF m q b 1).length+(FF m q b 2).length+(FF m q b 3).length+(FF m q b 4).length
theorem An {α:Type} {p q:α→Bool}:∀ {l:List α},(∀ x∈l,p x=true→q x=true)→(l.filter p).length≤(l.filter q).length
 | [],_=>AX _
 | x :: l,h=>by
  have ih:=An (l:=l) (p:=p) (q:=q) fun y hy=>h y (AW _ hy)
  have hx:=h x (AN ..);rw [vbk,vbk];cases hp:p x with
  | true=>rw [hx hp,BP rfl,BP rfl]; simp only [AM]; omega
  | false=>
   rw [BB (by decide)];cases q x with
   | true=>rw [BP rfl]; simp only [AM]; omega
   | false=>rw [BB (by decide)]; exact ih
theorem Ao {α:Type} {p q:α→Bool} {a:α}:∀ {l:List α},a∈l→p a=false→q a=true→(∀ x∈l,p x=true→q x=true)→(l.filter p).length < (l.filter q).length
 | [],h,_,_,_=>by cases h
 | x :: l,hm,h1,h2,h=>by
  have hx:=h x (AN ..);have hr:=fun y hy=>h y (AW _ hy)
  rw [vbk,vbk];rcases AP.1 hm with rfl | hm
  ·rw [h1,h2,BB (by decide),BP rfl]
   have:=An hr
   simp only [AM]; omega
  ·have ih:=Ao hm h1 h2 hr;cases hp:p x with
   | true=>rw [hx hp,BP rfl,BP rfl]; simp only [AM]; omega
   | false=>
    rw [BB (by decide)];cases q x with
    | true=>rw [BP rfl]; simp only [AM]; omega
    | false=>rw [BB (by decide)]; exact ih
theorem Vu {m:Md} {q:Qy} {b c:Bx} {i:Nat} (h:c.g i=b.g i):FF m q c i=FF m q b i:=by unfold FF; rw [h]
theorem zO {m:Md} {q:Qy} {b c:Bx} {i:Nat} {a:Int} (ha:a∈FF m q b i) (h1:(b.g i).lo≤(c.g i).lo) (h2:(c.g i).hi≤(b.g i).hi) (h3:a < (c.g i).lo∨(c.g i).hi≤a):(FF m q c i).length < (FF m q b i).length:=by
 obtain ⟨hf,hm,hl,hh⟩:=W2.1 ha;unfold FF;rw [AL (by omega),DK,DK];unfold LF;refine Ao hm ?_ ?_ ?_
 ·simp only [Bool.not_eq_false',vao,AQ]; omega
 ·simp only [B1,vas,BO]; omega
 ·intro x _;simp only [B1,vas,BO]; omega
theorem Gd {m:Md} {q:Qy} {b c:Bx} {j:Nat} (hj:j < 5) (h1:(FF m q c j).length < (FF m q b j).length) (h2:∀ i,i < 5→i≠j→c.g i=b.g i):LM m q c < LM m q b:=by
 have e:∀ i,i < 5→i≠j→(FF m q c i).length=(FF m q b i).length:=fun i hi hn=>by rw [Vu (h2 i hi hn)]
 unfold LM
 match j,hj with
 | 0,_=>have:=e 1 (by omega) (by omega); have:=e 2 (by omega) (by omega); have:=e 3 (by omega) (by omega); have:=e 4 (by omega) (by omega); omega
 | 1,_=>have:=e 0 (by omega) (by omega); have:=e 2 (by omega) (by omega); have:=e 3 (by omega) (by omega); have:=e 4 (by omega) (by omega); omega
 | 2,_=>have:=e 0 (by omega) (by omega); have:=e 1 (by omega) (by omega); have:=e 3 (by omega) (by omega); have:=e 4 (by omega) (by omega); omega
 | 3,_=>have:=e 0 (by omega) (by omega); have:=e 1 (by omega) (by omega); have:=e 2 (by omega) (by omega); have:=e 4 (by omega) (by omega); omega
 | 4,_=>have:=e 0 (by omega) (by omega); have:=e 1 (by omega) (by omega); have:=e 2 (by omega) (by omega); have:=e 3 (by omega) (by omega); omega
 | n+5,h=>omega
theorem Kq {lo hi:Int} (h:lo≤hi):M7 lo hi=⟨lo,hi⟩:=by unfold M7; rw [AL (by omega),DK]
theorem Gc {m:Md} {q:Qy} {b:Bx} {j:Nat} (hj:j < 5) {a:Int} (ha:a∈FF m q b j):LM m q (b.cutL (j:Int) a) < LM m q b:=by
 obtain ⟨hf,hm,hl,hh⟩:=W2.1 ha;have e:∀ i,i < 5→(b.cutL (j:Int) a).g i=if i=j then ⟨(b.g j).lo,a⟩ else b.g i:=fun i hi=>by
  unfold Bx.cutL;rw [BD,L3 b _ hj hi];unfold Sp.cutL;rw [show min (b.g j).hi a=a by omega,Kq hl]
 refine Gd hj (zO ha ?_ ?_ ?_) fun i hi hn=>by rw [e i hi,BB hn]
 ·rw [e j hj,BP rfl]; exact vab _
 ·rw [e j hj,BP rfl]; show a≤_; omega
 ·rw [e j hj,BP rfl]; exact .inr (vab _)
theorem zfw {m:Md} {q:Qy} {b:Bx} (hb:b.good) {j:Nat} (hj:j < 5) {a:Int} (ha:a∈FF m q b j):LM m q (b.cutH (j:Int) a) < LM m q b:=by
 obtain ⟨hf,hm,hl,hh⟩:=W2.1 ha;have hg:=hb j hj;have e:∀ i,i < 5→(b.cutH (j:Int) a).g i=if i=j then ⟨a+1,(b.g j).hi⟩ else b.g i:=fun i hi=>by
  unfold Bx.cutH;rw [BD,L3 b _ hj hi];unfold Sp.cutH;rw [AL (by omega),DK,show FR (a+1)=a+1 from EO (by omega) (by omega),show max (b.g j).lo (a+1)=a+1 by omega,Kq (by omega)]
 refine Gd hj (zO ha ?_ ?_ ?_) fun i hi hn=>by rw [e i hi,BB hn]
 ·rw [e j hj,BP rfl]; show _≤a+1; omega
 ·rw [e j hj,BP rfl]; exact vab _
 ·rw [e j hj,BP rfl]; exact .inl (by show a < a+1; omega)
structure Rp (m:Md) (q:Qy) (s:Sr):Prop where
 left:ZO s
 pt:∀ (j:Nat) (x:IV),s.left[j]?=some x→LM m q (D9 x)+j≤LM m q (GR q)
 ps:∃ outs,IH s.proof ([(GR q).I],[])=some (s.left,outs)∧∀ x∈outs,G0 m q (D9 x)=true
 dp:∃ most,JA s.proof (1,1)=some (ic s.left.length,most)∧1≤most∧most≤(LM m q (GR q):Int)+1
theorem zgs {m:Md} {q:Qy} (h:FB m q=true):Rp m q ⟨[(GR q).I],[],Vd.none,0⟩ where
 left:=zcM h
 pt j x hj:=by
  match j,hj with
  | 0,hj=>
   obtain rfl:(GR q).I=x:=by simpa using hj
   rw [IO]; omega
  | j+1,hj=>simp at hj
 ps:=⟨[],rfl,fun x hx=>by cases hx⟩
 dp:=⟨1,rfl,by omega,by omega⟩
theorem Ia {m:Md} {q:Qy} {s:Sr} (hr:FB m q=true) (h:Rp m q s) (hl:0 < s.left.length) (hn:G0 m q (D2 s.left)=false→HJ m q (D2 s.left).low (D2 s.left).s4.hi=false):Rp m q (GM m q s):=by
 obtain ⟨outs,hps,hout⟩:=h.ps;obtain ⟨most,hdp,hm1,hm2⟩:=h.dp;have hg:=ziq (m:=m) (q:=q) h.left hl;have ht:=lQ h.left hl;have htop:s.left[s.left.length - 1]?=some (E4 s.left):=(VF hl).2;have ept:D2 s.left=D9 (E4 s.left):=rfl;have hpt:=h.pt _ _ htop;rw [← ept] at hpt;cases hc:G0 m q (D2 s.left) with
 | true=>
  have e:(GM m q s).left=GB s.left∧(GM m q s).proof=s.proof++[NV true 0 0]:=by
   unfold GM;rw [hc,DJ];exact ⟨rfl,rfl⟩
  refine ⟨hg,fun j x hj=>?_,⟨outs++[(D2 s.left).I],?_,fun x hx=>?_⟩,⟨most,?_,hm1,hm2⟩⟩
  ·rw [e.1] at hj;exact h.pt j x (fU hj)
  ·rw [e.2,rF hps,e.1];rfl
  ·rcases AV.1 hx with hx | hx
   ·exact hout x hx
   ·obtain rfl:=BJ.1 hx;rw [IO]; exact hc
  ·rw [e.2,nV hdp,e.1,U4];unfold LE;have h1:(ic s.left.length==0)=false:=A3.2 (by simp only [ic]; omega);show cond ((ic s.left.length==0)||!true) none (some (ic s.left.length - 1,most))=_;rw [h1];show some (ic s.left.length - 1,most)=_;rw [show ic s.left.length - 1=ic (s.left.length - 1) by simp only [ic]; omega]
 | false=>
  have hb:=hn hc;have hs:=Mx hr h.left hl hc hb;obtain ⟨j,hj,ei,_,_,hm⟩:=tA hs;have hcut:=W2.1 hm;have e:(GM m q s).left=GB s.left++[((D2 s.left).cutH (j:Int) (I2 (E2 m q (D2 s.left)))).I,((D2 s.left).cutL (j:Int) (I2 (E2 m q (D2 s.left)))).I]∧(GM m q s).proof=s.proof++[NV false (j:Int) (I2 (E2 m q (D2 s.left)))]:=by
   unfold GM;rw [hc,DK,hb,DK,hs,DJ,ei];exact ⟨rfl,rfl⟩
  generalize I2 (E2 m q (D2 s.left))=a at hm hcut e;refine ⟨hg,fun k x hk=>?_,⟨outs,?_,hout⟩,⟨max most (ic s.left.length+1),?_,by omega,?_⟩⟩
  ·rw [e.1,vae,U4] at hk;split at hk
   ·exact h.pt k x (fU hk)
   ·rcases DC (k - (s.left.length - 1)) 1 with h0 | h0
    ·rw [show k - (s.left.length - 1)=0 by omega] at hk;simp only [BY,AC] at hk;subst hk;rw [IO]
     have:=zfw ht hj hm
     omega
    ·rcases DC (k - (s.left.length - 1)) 2 with h2 | h2
     ·rw [show k - (s.left.length - 1)=1 by omega] at hk;simp only [DI,BY,AC] at hk;subst hk;rw [IO]
      have:=Gc (q:=q) hj hm
      omega
     ·rw [BZ (by simpa using h2)] at hk;cases hk
  ·rw [e.2,rF hps,e.1];unfold LN;show cond false _ (cond (decide (a < ((D2 s.left).g ((j:Int)).toNat).lo)||decide (a≥((D2 s.left).g ((j:Int)).toNat).hi)) none _)=_;rw [DK,BD,AL (by omega),AL (by omega)];rfl
  ·rw [e.2,nV hdp,e.1];unfold LE;have h1:(ic s.left.length==0)=false:=A3.2 (by simp only [ic]; omega);have h2:JF (NV false (j:Int) a)=true:=by
    show (decide ((0:Int)≤(j:Int))&&decide ((j:Int)≤4))=true;rw [AE (by omega),AE (by omega)]; rfl
   show cond ((ic s.left.length==0)||!(JF (NV false (j:Int) a))) none (some (ic s.left.length+1,max most (ic s.left.length+1)))=_;rw [h1,h2];show some (ic s.left.length+1,max most (ic s.left.length+1))=_;rw [AS,U4]
   have:ic (s.left.length - 1+[((D2 s.left).cutH (j:Int) a).I,((D2 s.left).cutL (j:Int) a).I].length)=ic s.left.length+1:=by simp only [ic,AM,A7]; omega
   rw [this]
  ·have h3:0 < LM m q (D2 s.left):=Nat.lt_of_le_of_lt (B4 _) (Gc (q:=q) hj hm);simp only [ic];omega
open Go
def O9 (ts:LI):Nat:=(ts.map fun t=>(FH t).length).sum
theorem ziH (w:IV):(I4 0 w).length+(I4 1 w).length+(I4 2 w).length+(I4 3 w).length≤1:=by
 unfold I4;cases (DM w.toInt).lf with
 | true=>simp
 | false=>
  generalize (DM w.toInt).f=f;by_cases h0:f=0
  ·subst h0; exact AX _
  by_cases h1:f=1
  ·subst h1; exact AX _
  by_cases h2:f=2
  ·subst h2; exact AX _
  by_cases h3:f=3
  ·subst h3; exact AX _
  rw [A3.2 h0,A3.2 h1,A3.2 h2,A3.2 h3];simp
theorem ziG (f:Int) (w:IV):(I4 f w).length≤1:=by
 unfold I4;cases (!(DM w.toInt).lf&&(DM w.toInt).f==f) <;> simp
theorem El:∀ (l:LI),(l.flatMap (I4 0)).length+(l.flatMap (I4 1)).length+(l.flatMap (I4 2)).length+(l.flatMap (I4 3)).length≤l.length
 | []=>AX _
 | w :: l=>by
  have:=El l
  have:=ziH w
  simp only [vap,AS,AM];omega
theorem Ej (f:Int):∀ (l:LI),(l.flatMap (I4 f)).length≤l.length
 | []=>AX _
 | w :: l=>by
  have:=Ej f l
  have:=ziG f w
  simp only [vap,AS,AM];omega
theorem Hc:∀ (ts:LI),(IM ts 0).length+(IM ts 1).length+(IM ts 2).length+(IM ts 3).length≤O9 ts
 | []=>AX _
 | t :: ts=>by
  have:=Hc ts
  have:=El (FH t)
  unfold IM O9 at *;simp only [vap,AS,A0,vba];omega
theorem Hb (f:Int):∀ (ts:LI),(IM ts f).length≤O9 ts
 | []=>AX _
 | t :: ts=>by
  have:=Hb f ts
  have:=Ej f (FH t)
  unfold IM O9 at *;simp only [vap,AS,A0,vba];omega
theorem d8 (m:Md) (q:Qy) (b:Bx) (i:Nat):(FF m q b i).length≤(IM m.ts (IS q (i:Int))).length:=by
 unfold FF;cases decide (IS q (i:Int) < 0) with
 | true=>rw [DJ]; exact B4 _
 | false=>
  rw [DK];unfold LF JT;refine C2 (List.length_filter_le ..) ?_;rw [← (TA (IM m.ts (IS q (i:Int)))).length_eq];exact iS _
theorem zfx (m:Md) (q:Qy) (b:Bx):LM m q b≤2*O9 m.ts:=by
 have h0:=d8 m q b 0;have h1:=d8 m q b 1;have h2:=d8 m q b 2;have h3:=d8 m q b 3;have h4:=d8 m q b 4;have h5:=Hb (IS q ((4:Nat):Int)) m.ts;have h6:=Hc m.ts;rw [oE (by omega)] at h0 h1 h2 h3;unfold LM;simp only [Int.natCast_zero] at *;have e1:((1:Nat):Int)=1:=rfl;have e2:((2:Nat):Int)=2:=rfl;have e3:((3:Nat):Int)=3:=rfl;rw [e1] at h1;rw [e2] at h2;rw [e3] at h3;omega
theorem oJ (f:Ft):O9 f.M.ts≤60:=by
 have hd:=ZB f.d;have key:∀ (l:LI),O9 (l.map (aD f.d f.c))≤15*l.length:=by
  intro l
  induction l with
  | nil=>exact AX _
  | cons t l ih=>
   obtain ⟨i,hi,hn⟩:=Et (t.cell 1).toList (t.cell 2).toList (t.cell 3).toList (t.cell 4).toList (dim:=N9 f.d) ⟨hd.1,by omega⟩;have e:(FH (aD f.d f.c t)).length=2*i+1:=by
    show ((PB (t.cell 1).toList (t.cell 2).toList (t.cell 3).toList (t.cell 4).toList (N9 f.d)).nodes.map S5).length=_;rw [BK,hn.len]
   unfold O9 at *;simp only [A0,vba,AM];rw [e];omega
 have h4:(f.ts.take 4).length≤4:=by rw [BC]; omega
 have:=key (f.ts.take 4)
 show O9 ((f.ts.take 4).map (aD f.d f.c))≤60;omega
open Go
def ziw (q:Qy) (s:Sr):Prop:=∀ x∈s.left,∀ p t,(D9 x).has p t=true→(GR q).has p t=true
structure Ri (m:Md) (q:Qy) (s:Sr):Prop where
 sp:0≤s.spent∧s.spent≤q.bu
 opn:s.v.kind=0→Rp m q s∧0 < s.left.length∧s.spent=ic s.proof.length∧s.v.proof=[]∧ziw q s
 holds:s.v.kind=1→Rp m q s∧s.left=[]∧s.spent=ic s.proof.length∧s.v.proof=s.proof
 fails:s.v.kind=2→s.v.proof=[]∧1≤s.spent∧(GR q).has ⟨s.v.w0,s.v.w1,s.v.w2,s.v.w3⟩ s.v.twin=true∧HJ m q ⟨s.v.w0,s.v.w1,s.v.w2,s.v.w3⟩ s.v.twin=true
 kinds:s.v.kind=0∨s.v.kind=1∨s.v.kind=2
theorem Hv {m:Md} {q:Qy} (h:FB m q=true):Ri m q ⟨[(GR q).I],[],Vd.none,0⟩ where
 sp:=⟨vab _,(XU h).2.2.1.1⟩
 opn _:=⟨zgs h,by simp,rfl,rfl,fun x hx p t hh=>by
  obtain rfl:=BJ.1 hx;rw [IO] at hh; exact hh⟩
 holds h:=absurd (show (0:Int)=1 from h) (by decide)
 fails h:=absurd (show (0:Int)=2 from h) (by decide)
 kinds:=.inl rfl
theorem zgi {m:Md} {q:Qy} {s:Sr} (hr:FB m q=true) (h:Ri m q s) (ho:JR q s=false):Ri m q (GM m q s):=by
 unfold JR at ho;rw [vas] at ho;have hk:s.v.kind=0:=by simpa using ho.1
 have hs:¬ s.spent≥q.bu:=BG ho.2;obtain ⟨hrp,hl,hsp,hvp,hsub⟩:=h.opn hk;have hsp0:=h.sp;have ht:=lQ hrp.left hl;have htm:E4 s.left∈s.left:=(VF hl).1;have ept:D2 s.left=D9 (E4 s.left):=rfl;cases hc:G0 m q (D2 s.left) with
 | true=>
  have hrp':=Ia hr hrp hl (fun h=>by rw [hc] at h; cases h);have e:GM m q s=⟨GB s.left,s.proof++[NV true 0 0],cond (ic (s.left.length - 1)==0) ⟨1,s.proof++[NV true 0 0],0,0,0,0,0,0⟩ s.v,s.spent+1⟩:=by
   unfold GM;rw [hc,DJ]
  rw [e] at hrp' ⊢;have hlen:s.spent+1=ic (s.proof++[NV true 0 0]).length:=by
   rw [hsp]; simp only [ic,AS,AM,A7]; omega
  cases he:(ic (s.left.length - 1)==0) with
  | true=>
   rw [he] at hrp';have h1:s.left.length=1:=by
    have:ic (s.left.length - 1)=0:=by simpa using he
    simp only [ic] at this; omega
   have hnil:GB s.left=[]:=List.length_eq_zero_iff.1 (by rw [U4]; omega);exact ⟨⟨by show 0≤s.spent+1; omega,by show s.spent+1≤_; omega⟩,fun h=>absurd (show (1:Int)=0 from h) (by decide),fun _=>⟨hrp',hnil,hlen,rfl⟩,fun h=>absurd (show (1:Int)=2 from h) (by decide),.inr (.inl rfl)⟩
  | false=>
   rw [he] at hrp';have h1:s.left.length - 1≠0:=fun h=>by rw [h] at he; exact absurd he (by decide)
   refine ⟨⟨by show 0≤s.spent+1; omega,by show s.spent+1≤_; omega⟩,fun _=>⟨hrp',?_,hlen,hvp,fun x hx=>hsub x (ZX hx)⟩,fun h=>?_,fun h=>?_,.inl hk⟩
   ·show 0 < (GB s.left).length;rw [U4]; omega
   ·replace h:s.v.kind=1:=h;omega
   ·replace h:s.v.kind=2:=h;omega
 | false=>
  cases hb:HJ m q (D2 s.left).low (D2 s.left).s4.hi with
  | true=>
   have e:GM m q s=⟨GB s.left,s.proof,⟨2,[],(D2 s.left).s0.lo,(D2 s.left).s1.lo,(D2 s.left).s2.lo,(D2 s.left).s3.lo,(D2 s.left).s4.hi,0⟩,s.spent+1⟩:=by
    unfold GM;rw [hc,DK,hb,DJ]
   rw [e];refine ⟨⟨by show 0≤s.spent+1; omega,by show s.spent+1≤_; omega⟩,fun h=>absurd (show (2:Int)=0 from h) (by decide),fun h=>absurd (show (2:Int)=1 from h) (by decide),fun _=>⟨rfl,by show 1≤s.spent+1; omega,?_,hb⟩,.inr (.inr rfl)⟩;exact hsub _ htm _ _ (by rw [← ept]; exact Y1 _ ht.emp)
  | false=>
   have hrp':=Ia hr hrp hl (fun _=>hb);have hs2:=Mx hr hrp.left hl hc hb;obtain ⟨j,hj,ei,_,_,hm⟩:=tA hs2;have hcut:=W2.1 hm;have hg:=ht j hj;have e:GM m q s=⟨GB s.left++[((D2 s.left).cutH (j:Int) (I2 (E2 m q (D2 s.left)))).I,((D2 s.left).cutL (j:Int) (I2 (E2 m q (D2 s.left)))).I],
     s.proof++[NV false (j:Int) (I2 (E2 m q (D2 s.left)))],s.v,s.spent+1⟩:=by
    unfold GM;rw [hc,DK,hb,DK,hs2,DJ,ei]
   rw [e] at hrp' ⊢;generalize I2 (E2 m q (D2 s.left))=a at hm hcut hrp';refine ⟨⟨by show 0≤s.spent+1; omega,by show s.spent+1≤_; omega⟩,fun _=>⟨hrp',by simp,?_,hvp,fun x hx p t hh=>?_⟩,fun h=>?_,fun h=>?_,.inl hk⟩
   ·show s.spent+1=_;rw [hsp]; simp only [ic,AS,AM,A7]; omega
   ·rcases AV.1 hx with hx | hx
    ·exact hsub x (ZX hx) p t hh
    ·rcases AP.1 hx with rfl | hx
     ·rw [IO] at hh;exact hsub _ htm p t (by rw [← ept]; exact ((nL ht.ok hj (by omega)).1 hh).1)
     ·obtain rfl:=BJ.1 hx;rw [IO] at hh;exact hsub _ htm p t (by rw [← ept]; exact ((nN hj).1 hh).1)
   ·replace h:s.v.kind=1:=h;omega
   ·replace h:s.v.kind=2:=h;omega
theorem rS {m:Md} {q:Qy} (hr:FB m q=true):∀ (d:Nat) (s:Sr),Ri m q s→q.bu < s.spent+d→Ri m q (LR m q d s)∧JR q (LR m q d s)=true
 | 0,s,h,hd=>⟨h,by
  unfold JR
  have:LR m q 0 s=s:=rfl
  rw [this,AE (show s.spent≥q.bu by omega)];simp⟩
 | d+1,s,h,hd=>by
  rw [LR];cases ho:JR q s with
  | true=>rw [DJ]; exact ⟨h,ho⟩
  | false=>
   rw [DK];refine rS hr d (GM m q s) (zgi hr h ho) ?_
   have:(GM m q s).spent=s.spent+1:=by
    unfold GM;cases G0 m _ _ <;> cases HJ m _ _ _ <;> cases (E2 m _ _).isSome <;> rfl
   omega
theorem zgC {m:Md} {q:Qy} (hr:FB m q=true) (hp:LM m q (GR q)≤199) :
  ((FN m q).kind=1→J8 m q (FN m q)=true∧ic (FN m q).proof.length=(FN m q).spent∧0 < KK (FN m q).proof) ∧
  ((FN m q).kind=2→J8 m q (FN m q)=true∧(FN m q).proof=[]∧1≤(FN m q).spent) ∧
  ((FN m q).kind=3→(FN m q).spent=q.bu∧(FN m q).proof=[]) ∧
  ((FN m q).kind=1∨(FN m q).kind=2∨(FN m q).kind=3)∧0≤(FN m q).spent∧(FN m q).spent≤q.bu:=by
 have h3:=(XU hr).2.2.1;have hnew:RH m q=⟨[(GR q).I],[],Vd.none,0⟩:=by unfold RH; rw [hr,DJ]
 obtain ⟨hi,ho⟩:=rS hr (q.bu.toNat+1) _ (Hv hr) (by show q.bu < 0+_; omega);unfold FN;rw [hnew];generalize LR m q (q.bu.toNat+1) _=s at hi ho;rcases hi.kinds with hk | hk | hk
 ·have ek:(GS s).kind=3:=by simp [GS,hk]
  have hsp:s.spent=q.bu:=by
   unfold JR at ho;rw [hk] at ho
   have:s.spent≥q.bu:=by simpa using ho
   have:=hi.sp
   omega
  exact ⟨fun h=>by omega,fun h=>by omega,fun _=>⟨hsp,(hi.opn hk).2.2.2.1⟩,.inr (.inr ek),hi.sp.1,hi.sp.2⟩
 ·have ek:(GS s).kind=1:=by simp [GS,hk]
  obtain ⟨hrp,hl,hsp,hvp⟩:=hi.holds hk;obtain ⟨outs,hps,hout⟩:=hrp.ps;obtain ⟨most,hdp,hm1,hm2⟩:=hrp.dp;have hlen:=hi.sp;rw [hl] at hps hdp;have hdeep:KK s.proof=most:=by
   unfold KK;rw [AL (by omega),DK,hdp];show cond (!((ic ([]:LI).length)==0)||decide (most > 200)) 0 most=most;rw [AL (by omega)];rfl
  have epr:(GS s).proof=s.proof:=hvp;refine ⟨fun _=>⟨?_,?_,?_⟩,fun h=>by omega,fun h=>by omega,.inl ek,hi.sp.1,hi.sp.2⟩
  ·unfold J8;rw [hr,ek,epr];show (true&&cond true (match J9 (GR q) s.proof with | some l=>l.all fun x=>G0 m q (D9 x) | none=>false) _)=true;unfold J9;rw [hdeep,AE (show most > 0 by omega),DJ,hps];show (true&&(outs.all fun x=>G0 m q (D9 x)))=true;rw [A8,CU];exact hout
  ·rw [epr]; exact hsp.symm
  ·rw [epr,hdeep]; omega
 ·have ek:(GS s).kind=2:=by simp [GS,hk]
  obtain ⟨hvp,hsp,hh,hb⟩:=hi.fails hk;refine ⟨fun h=>by omega,fun _=>⟨?_,hvp,hsp⟩,fun h=>by omega,.inr (.inl ek),hi.sp.1,hi.sp.2⟩;unfold J8;rw [hr,ek];show (true&&((GR q).has ⟨s.v.w0,s.v.w1,s.v.w2,s.v.w3⟩ s.v.twin&&HJ m q ⟨s.v.w0,s.v.w1,s.v.w2,s.v.w3⟩ s.v.twin))=true;rw [hh,hb];rfl
open Go
theorem Zn {s:Sp}:W8 s=true↔s.good:=by
 unfold W8 Sp.good;simp only [AH,AQ]
theorem ZI {b:Bx}:GA b=true↔b.good:=by
 unfold GA;simp only [AH,Zn];constructor
 ·rintro ⟨h0,h1,h2,h3,h4⟩ i hi
  match i,hi with
  | 0,_=>exact h0
  | 1,_=>exact h1
  | 2,_=>exact h2
  | 3,_=>exact h3
  | 4,_=>exact h4
  | n+5,hi=>omega
 ·intro h;exact ⟨h 0 (by omega),h 1 (by omega),h 2 (by omega),h 3 (by omega),h 4 (by omega)⟩
theorem zi2 {b:Bx} (h4:b.s4.lo≤b.s4.hi) (p:Pt):(∃ t,(b.p ⟨0,0⟩ 4).has p t=true)↔∃ t,b.has p t=true:=by
 constructor
 ·rintro ⟨t,h⟩;refine ⟨b.s4.lo,?_⟩;unfold Bx.has at h ⊢;simp only [AH] at h ⊢;exact ⟨h.1,h.2.1,h.2.2.1,h.2.2.2.1,PF.2 ⟨vab _,h4⟩⟩
 ·rintro ⟨t,h⟩;refine ⟨0,?_⟩;unfold Bx.has at h ⊢;simp only [AH] at h ⊢;exact ⟨h.1,h.2.1,h.2.2.1,h.2.2.2.1,PF.2 ⟨vab _,vab _⟩⟩
theorem tI {g g':LI→Int} (k:Int):∀ (ts:LI) (s:Int),(∀ t∈ts,g (FH t)=g' (FH t))→I3 g k ts s=I3 g' k ts s
 | [],_,_=>rfl
 | t :: ts,s,h=>by
  rw [I3,I3,h t (AN ..)];exact tI k ts _ fun u hu=>h u (AW _ hu)
theorem Ig {m:Md} (hm:E0 m=true) (k:Int) {b:Bx} (hb:b.good):ED m k (b.p ⟨0,0⟩ 4)=ED m k b∧EB m k (b.p ⟨0,0⟩ 4)=EB m k b:=by
 have hg:(b.p ⟨0,0⟩ 4).good:=U2 hb ⟨by decide,by decide,by decide⟩ (by omega);have ht:∀ t∈m.ts,H9 (FH t) (b.p ⟨0,0⟩ 4)=H9 (FH t) b∧H8 (FH t) (b.p ⟨0,0⟩ 4)=H8 (FH t) b:=fun t ht=>
  ziC (aE hm ht) hg.emp hg.ok hb.emp hb.ok (zi2 (hb 4 (by omega)).2.1)
 have es:HA m k (b.p ⟨0,0⟩ 4)=HA m k b:=by unfold HA; rw [hg.emp,hb.emp]
 unfold ED EB;rw [es];cases HA m k b with
 | false=>exact ⟨rfl,rfl⟩
 | true=>
  rw [DJ,DJ,DJ,DJ];exact ⟨tI k m.ts _ fun t h=>(ht t h).1,tI k m.ts _ fun t h=>(ht t h).2⟩
def WU (m:Md) (q:Qy) (b:Bx):Nat→Nat→Bool
 | 0,_=>true
 | d+1,i=>cond (!((i:Int)==q.c)&&decide (EB m (i:Int) b≥ED m q.c b)) false (WU m q b d (i+1))
def K6 (q:Qy) (b:Bx):Bx:=b.p b.s4 q.ft.toNat
def sC (m:Md) (q:Qy) (b:Bx):Bool:=
 cond b.emp true
  (cond (q.k==1) (decide (q.lo≤ED m q.c b)&&decide (EB m q.c b≤q.hi))
   (cond (q.k==2) (WU m q b m.c.toNat 0)
    (cond (decide ((b.g q.ft.toNat).lo≥b.s4.hi)) true
     (cond q.fl (decide (EB m q.c (K6 q b)≤ED m q.c b)) (decide (ED m q.c (K6 q b)≥EB m q.c b))))))
theorem vP {m:Md} {q:Qy} {b:Bx}:∀ (d i:Nat),WU m q b d i=true↔∀ j:Nat,i≤j→j < i+d→(j:Int)≠q.c→EB m (j:Int) b < ED m q.c b
 | 0,i=>⟨fun _ j h1 h2=>by omega,fun _=>rfl⟩
 | d+1,i=>by
  rw [WU];cases hc:(!((i:Int)==q.c)&&decide (EB m (i:Int) b≥ED m q.c b)) with
  | true=>
   rw [DJ];simp only [AH,B1,A3,AQ] at hc;refine ⟨(fun h=>by cases h),fun h=>?_⟩
   have:=h i (AX _) (by omega) hc.1
   omega
  | false=>
   rw [DK,vP d (i+1)];rw [Bool.and_eq_false_iff,Bool.not_eq_false',B8,BO] at hc;constructor
   ·intro h j h1 h2 hn;rcases DC i j with h3 | h3
    ·exact h j h3 (by omega) hn
    ·have:j=i:=by omega
     subst this;rcases hc with hc | hc
     ·exact absurd hc hn
     ·omega
   ·intro h j h1 h2 hn;exact h j (by omega) (by omega) hn
theorem zgN {m:Md} {q:Qy} {b:Bx} (hr:FB m q=true) (hb:b.emp=true∨b.good):sC m q b=G0 m q b:=by
 unfold sC G0;rw [hr,A8];cases he:b.emp with
 | true=>rfl
 | false=>
  rw [DK,DK];have hg:b.good:=by
   rcases hb with h | h
   ·rw [he] at h; cases h
   ·exact h
  obtain ⟨hm,⟨c0,c1⟩,_,_,hk⟩:=XU hr;have hcl:=nG c0 c1;have hs:=XX hm hcl he;rcases jW hk with ⟨e,_⟩ | ⟨e,h2,_⟩ | ⟨e,hf,_⟩
  ·rw [e];show (decide (q.lo≤ED m q.c b)&&decide (EB m q.c b≤q.hi))=(HA m q.c b&&(decide (q.lo≤ED m q.c b)&&decide (EB m q.c b≤q.hi)));rw [hs,A8]
  ·rw [e];show WU m q b m.c.toNat 0=(NR m q.c b&&decide (UW m q.c b > 0));have hmg:NR m q.c b=true:=by unfold NR; rw [hs,AE (by omega)]; rfl
   rw [hmg,A8,vaZ,vP,AQ]
   have:=Dg hmg
   constructor
   ·intro h;exact this.2 fun j hj hn=>h j (B4 _) (by omega) hn
   ·intro h j _ h2 hn;exact this.1 h j (by omega) hn
  ·rw [e];have hp:=qR hm e hf;have h44:=hg 4 (by omega);have hg2:(K6 q b).good:=U2 hg h44 (by have:=hf; have:=(XU hr).1; rcases RN hp with e | e | e | e <;> rw [e] <;> decide);have s1:=Ig hm q.c hg;have s2:=Ig hm q.c hg2;have f1:J4 q b=b.p ⟨0,0⟩ 4:=by unfold J4; rw [hp,DJ]
   have f2:KB q b=(K6 q b).p ⟨0,0⟩ 4:=by unfold KB; rw [hp,DJ]; rfl
   have hch:LC m q b=true:=by
    unfold LC;rw [hp,f1,f2,XX hm hcl (U2 hg ⟨by decide,by decide,by decide⟩ (by omega)).emp,XX hm hcl (U2 hg2 ⟨by decide,by decide,by decide⟩ (by omega)).emp];rfl
   have e1:SQ m q b=EB m q.c (K6 q b) - ED m q.c b:=by unfold SQ; rw [hch,DJ,f1,f2,s1.1,s2.2]
   have e2:SR m q b=ED m q.c (K6 q b) - EB m q.c b:=by unfold SR; rw [hch,DJ,f1,f2,s1.2,s2.1]
   have eo:P7 q b=!decide ((b.g q.ft.toNat).lo≥b.s4.hi):=by
    unfold P7;rw [hp,he];by_cases h:(b.g q.ft.toNat).lo < b.s4.hi
    ·rw [AE h,AL (by omega)]; rfl
    ·rw [AL h,AE (by omega)]; rfl
   show cond (decide ((b.g q.ft.toNat).lo≥b.s4.hi)) true _=cond (!(P7 q b)) true (cond q.fl (LC m q b&&decide (SQ m q b≤0)) (LC m q b&&decide (SR m q b≥0)));rw [eo,Bool.not_not,hch,A8,A8,e1,e2];have d1:decide (EB m q.c (K6 q b) - ED m q.c b≤0)=decide (EB m q.c (K6 q b)≤ED m q.c b):=by
    rw [vaZ,AQ,AQ]; omega
   have d2:decide (ED m q.c (K6 q b) - EB m q.c b≥0)=decide (ED m q.c (K6 q b)≥EB m q.c b):=by
    rw [vaZ,AQ,AQ]; omega
   rw [d1,d2]
open Go
theorem nW {x:IV} {left most:Int} {st:Int × Int} (h:LE (left,most) x=some st):left≠0∧JF x=true∧((G3 x=true∧st=(left - 1,most))∨(G3 x=false∧st=(left+1,max most (left+1)))):=by
 unfold LE at h;cases hz:(left==0) with
 | true=>simp only [hz,Bool.true_or,BH] at h; cases h
 | false=>
  have hne:left≠0:=by simpa using hz
  simp only [hz,vax] at h;cases hr:JF x with
  | false=>rw [hr] at h; cases h
  | true=>
   rw [hr] at h;simp only [A2,A9] at h;cases hs:G3 x with
   | true=>rw [hs] at h; exact ⟨hne,rfl,.inl ⟨rfl,(CX h).symm⟩⟩
   | false=>rw [hs] at h; exact ⟨hne,rfl,.inr ⟨rfl,(CX h).symm⟩⟩
theorem rT {x:IV} (h:JF x=true) (hs:G3 x=false):0≤FC x∧FC x≤4:=by
 unfold JF at h;rw [hs,DK,AH,AQ,AQ] at h;exact h
theorem Gt {x:IV} {left out:LI} {most:Int} {st:Int × Int} {lo:LI × LI} (hl:∀ y∈left,(D9 y).good) (ho:∀ y∈out,(D9 y).good) (hd:LE (ic left.length,most) x=some st) (hp:LN (left,out) x=some lo) :
  (∀ y∈lo.1,(D9 y).good)∧(∀ y∈lo.2,(D9 y).good)∧st.1=ic lo.1.length:=by
 obtain ⟨hne,hr,hd⟩:=nW hd;have hlen:0 < left.length:=by simp only [ic] at hne; omega
 have ht:(D2 left).good:=hl _ (VF hlen).1;unfold LN at hp;rcases hd with ⟨hs,rfl⟩ | ⟨hs,rfl⟩
 ·rw [hs] at hp;obtain rfl:=CX hp;refine ⟨fun y hy=>hl y (ZX hy),fun y hy=>?_,?_⟩
  ·rcases AV.1 hy with hy | hy
   ·exact ho y hy
   ·obtain rfl:=BJ.1 hy;rw [IO]; exact ht
  ·show ic left.length - 1=ic (GB left).length;rw [U4]; simp only [ic]; omega
 ·rw [hs] at hp;have hpl:=rT hr hs;have ej:FC x=(((FC x).toNat:Nat):Int):=by omega
  cases hc:(decide (FV x < ((D2 left).g (FC x).toNat).lo)||decide (FV x≥((D2 left).g (FC x).toNat).hi)) with
  | true=>simp only [hc,A9,BH] at hp; cases hp
  | false=>
   simp only [hc,A9] at hp;obtain rfl:=CX hp;simp only [vas,BO] at hc;refine ⟨fun y hy=>?_,ho,?_⟩
   ·rcases AV.1 hy with hy | hy
    ·exact hl y (ZX hy)
    ·rcases AP.1 hy with rfl | hy
     ·rw [IO,ej]; exact zF ht (by omega) (by omega) (by omega)
     ·obtain rfl:=BJ.1 hy;rw [IO,ej]; exact zH ht (by omega) (by omega) (by omega)
   ·show ic left.length+1=ic (GB left++[_,_]).length;rw [AS,U4];simp only [ic,AM,A7]; omega
theorem Gr:∀ {l:LI} {left out:LI} {most:Int} {st:Int × Int} {lo:LI × LI},(∀ y∈left,(D9 y).good)→(∀ y∈out,(D9 y).good)→JA l (ic left.length,most)=some st→IH l (left,out)=some lo→∀ y∈lo.2,(D9 y).good
 | [],left,out,most,st,lo,_,ho,_,hp=>by
  obtain rfl:=CX hp;exact ho
 | x :: l,left,out,most,st,lo,hl,ho,hd,hp=>by
  rw [JA] at hd;rw [IH] at hp;cases h1:LE (ic left.length,most) x with
  | none=>rw [h1] at hd; cases hd
  | some s1=>
   cases h2:LN (left,out) x with
   | none=>rw [h2] at hp; cases hp
   | some l1=>
    rw [h1] at hd;rw [h2] at hp;obtain ⟨g1,g2,g3⟩:=Gt hl ho h1 h2;obtain ⟨a,b⟩:=l1;obtain ⟨c,d⟩:=s1;obtain rfl:c=ic a.length:=g3;exact Gr g1 g2 hd hp
theorem zS {l:LI} (h:KK l > 0):∃ st,JA l (1,1)=some st:=by
 unfold KK at h;cases hc:decide (ic l.length > 65536) with
 | true=>rw [hc,DJ] at h; omega
 | false=>
  rw [hc,DK] at h;cases hd:JA l (1,1) with
  | none=>rw [hd] at h; exact absurd h (by decide)
  | some st=>exact ⟨st,rfl⟩
theorem zfK {b:Bx} (hb:b.good) {l outs:LI} (h:J9 b l=some outs):∀ y∈outs,(D9 y).good:=by
 unfold J9 at h;cases hd:decide (KK l > 0) with
 | false=>rw [hd,DK] at h; cases h
 | true=>
  rw [hd,DJ] at h;obtain ⟨st,hst⟩:=zS (A1 hd);cases hp:IH l ([b.I],[]) with
  | none=>rw [hp] at h; cases h
  | some lo=>
   rw [hp] at h;obtain rfl:=CX h;refine Gr (left:=[b.I]) (out:=[]) (most:=1) (fun y hy=>?_) (fun y hy=>by cases hy) hst hp;obtain rfl:=BJ.1 hy;rw [IO]; exact hb
open Go Go.Proofs
def YO (N:Nat):Env:=D6 [(111,PP),(112,LB),(55,MQ)] [(3,⟨[0,4,5,6,7,8,9],[500],[⟨.tmp 9,500,252,true,jU⟩]⟩)] 88 N
open Go Go.Proofs
set_option maxRecDepth 100000
def Q7 (l O:LI) (n:Nat) (lo hi:Int) (any:Bool):St:=⟨[(0,.list false [.int .u64] l),(4,.int .i64 0),(5,.int .i64 0),(6,.int .i64 lo),(7,.int .i64 hi),(8,.bool any),(9,.row 500 0 n)],[(500,some (.row true 252 true jU O))]⟩
abbrev pA:KP:=⟨[0,4,5,6,7,8,9],[500],[⟨.tmp 9,500,252,true,jU⟩]⟩
noncomputable abbrev o7 (N:Nat):Out→St→DP:=DS 0 (DT (YO N) (DL Y3 [1,1,1,1]) (DV (YO N) none [.tmp 4,.tmp 5] [[.z],[.z]]))
def eW (n:Nat):Int:=AA AB (ic (n - 0) - 1)
def eX (O:LI) (n:Nat):IV:=O.getD (0+(eW n).toNat) default
def JN (l:LI) (x:IV):Int:=(l.getD (H3 x).toNat default).toInt
theorem zdK (N:Nat) (l:LI) (b:Bx):D1 (YO N) Y3 [.tmp 4,.tmp 5] [[.z],[.z]] [.list false [.int .u64] l,b.V] =
 D0 (YO N) (DL Y3 [1,1,1,0,0,0]) pA N (Q7 l [QK 0 b] 1 0 0 false) (o7 N):=by kernel_rfl
theorem Mf (N:Nat) (l O:LI) (n:Nat) (lo hi:Int) (any:Bool) (again:St→DP) (k:Out→St→DP):FG (YO N) (DL Y3 [1,1,1,0,0,0]) (Q7 l O n lo hi any) (EW again pA k) =
 cond (decide (ic (n - 0) > 0)) (cond (decide (0≤eW n)&&decide (eW n < ic (n - 0))) (cond (decide (0≤eW n)&&decide (eW n≤ic (n - 0)))
 (cond (decide (0≤H3 (eX O n))&&decide (H3 (eX O n) < ic l.length))
 (cond (!(GK (JN l (eX O n)))) (again (Q7 l O (0+(eW n).toNat) lo hi any))
 (cond (JW (eX O n)).emp (again (Q7 l O (0+(eW n).toNat) lo hi any))
 (cond (!(DM (JN l (eX O n))).lf)
 (cond (H6 (DM (JN l (eX O n))).f) (cond (decide ((0+(eW n).toNat+2)*88≤EG))
 (again (Q7 l (O.take (0+(eW n).toNat)++[QK (DM (JN l (eX O n))).l ((JW (eX O n)).cutL (DM (JN l (eX O n))).f (DM (JN l (eX O n))).a),QK (DM (JN l (eX O n))).r ((JW (eX O n)).cutH (DM (JN l (eX O n))).f (DM (JN l (eX O n))).a)]) (0+(eW n).toNat+2) lo hi any)) none) none)
 (cond (!any) (again (Q7 l O (0+(eW n).toNat) (min (DM (JN l (eX O n))).v (DM (JN l (eX O n))).v) (max (DM (JN l (eX O n))).v (DM (JN l (eX O n))).v) true))
 (again (Q7 l O (0+(eW n).toNat) (min lo (DM (JN l (eX O n))).v) (max hi (DM (JN l (eX O n))).v) any)))))) none) none) none)
 (k (.exit 0) (Q7 l O n lo hi any)):=by kernel_rfl
theorem Xu (N:Nat) (l O:LI) (n:Nat) (lo hi:Int) (any:Bool):o7 N (.exit 0) (Q7 l O n lo hi any)=some (.tup [.int .i64 lo,.int .i64 hi],[]):=by kernel_rfl
theorem ZD (N:Nat) {l:LI} (hT:G4 l 4=true) {b:Bx} (hb:b.good):∀ (c:Nat) (O:LI) (n:Nat) (lo hi:Int) (any:Bool),n≤O.length→EnI l b ⟨O.take n,lo,hi,any⟩→PY (O.take n) < c →
  D0 (YO N) (DL Y3 [1,1,1,0,0,0]) pA c (Q7 l O n lo hi any) (o7 N)=some (.tup [.int .i64 (H9 l b),.int .i64 (H8 l b)],[])
 | 0,_,_,_,_,_,_,_,h=>absurd h (by omega)
 | c+1,O,0,lo,hi,any,hn,h,hc=>by
  obtain ⟨e1,e2⟩:=Wh hT hb.emp hb.ok h rfl;replace e1:lo=H9 l b:=e1;replace e2:hi=H8 l b:=e2;rw [EA,Mf,show decide (ic (0 - 0) > 0)=false from rfl,DK,Xu,e1,e2]
 | c+1,O,j+1,lo,hi,any,hn,h,hc=>by
  have ht:=tT hT;have hlen:(O.take (j+1)).length=j+1:=by rw [BC]; omega
  have hl:0 < (En.mk (O.take (j+1)) lo hi any).todo.length:=by show 0 < (O.take (j+1)).length; omega
  have hd:=h.depth ht;replace hd:(O.take (j+1)).length≤31:=hd;have hs:=Wk ht h hl;have hw:=Wi ht h hl;have htop:E4 (O.take (j+1))=O.getD j default:=by
   unfold E4;rw [hlen,BW,BW,CM,BP (by omega)];rfl
  have hpop:GB (O.take (j+1))=O.take j:=by
   unfold GB;rw [hlen,List.take_take];congr 1;omega
  have ew:eW (j+1)=(j:Int):=by
   unfold eW;rw [show ic (j+1 - 0) - 1=(j:Int) by simp only [ic]; omega];exact EO (by omega) (by omega)
  have ej:0+(eW (j+1)).toNat=j:=by rw [ew]; omega
  have ex:eX O (j+1)=E4 (O.take (j+1)):=by unfold eX; rw [ej,htop]
  have ha:=h.at_ _ _ (VF hl).2;replace ha:((((O.take (j+1)).length - 1:Nat)):Int)≤H3 (E4 (O.take (j+1)))∧H3 (E4 (O.take (j+1))) < ic l.length:=ha;have i1:decide (ic (j+1 - 0) > 0)=true:=AE (by simp only [ic]; omega);have i2:(decide (0≤eW (j+1))&&decide (eW (j+1) < ic (j+1 - 0)))=true:=by rw [ew,AE (by omega),AE (by simp only [ic]; omega)]; rfl
  have i3:(decide (0≤eW (j+1))&&decide (eW (j+1)≤ic (j+1 - 0)))=true:=by rw [ew,AE (by omega),AE (by simp only [ic]; omega)]; rfl
  rw [EA,Mf,i1,DJ,i2,DJ,i3,DJ,ej,ex,AE (show 0≤H3 (E4 (O.take (j+1))) by omega),AE ha.2,B3,DJ];unfold eD at hs hw;simp only [E3,hpop] at hs hw;have eWdef:JN l (E4 (O.take (j+1)))=(l.getD (H3 (E4 (O.take (j+1)))).toNat default).toInt:=rfl;rw [← eWdef] at hs hw;have hfk:(DM (JN l (E4 (O.take (j+1))))).lf=false→H6 (DM (JN l (E4 (O.take (j+1))))).f=true:=fun hf=>by
   have hk:(H3 (E4 (O.take (j+1)))).toNat < l.length:=by have:=ha.2; simp only [ic] at this; omega
   have:=(ht.fork _ hk hf).1
   replace this:0≤(DM (JN l (E4 (O.take (j+1))))).f∧(DM (JN l (E4 (O.take (j+1))))).f < 4:=this;unfold H6;rw [AE this.1,AE (by omega)];rfl
  generalize JN l (E4 (O.take (j+1)))=wd at hs hw hfk ⊢;generalize JW (E4 (O.take (j+1)))=vb at hs hw ⊢;cases hnb:GK wd with
  | false=>
   rw [A6,DJ];simp only [hnb,A6,Bool.true_or,BH] at hs hw;exact ZD N hT hb c O j lo hi any (by omega) hs (by omega)
  | true=>
   rw [A2,DK];simp only [hnb,A2,vax] at hs hw;cases he:vb.emp with
   | true=>
    rw [DJ];simp only [he,BH] at hs hw;exact ZD N hT hb c O j lo hi any (by omega) hs (by omega)
   | false=>
    rw [DK];simp only [he,A9] at hs hw;cases hlf:(DM wd).lf with
    | true=>
     rw [A2,DK];simp only [hlf,A2,A9] at hs hw;cases any with
     | false=>
      rw [A6,DJ];exact ZD N hT hb c O j _ _ true (by omega) hs (by omega)
     | true=>
      rw [A2,DK];exact ZD N hT hb c O j _ _ true (by omega) hs (by omega)
    | false=>
     rw [A6,DJ];simp only [hlf,A6,BH] at hs hw;have e2:∀ v1 v2:IV,(O.take j++[v1,v2]).take (j+2)=O.take j++[v1,v2]:=fun v1 v2=>CV (by simp only [AS,BC,AM,A7]; omega)
     rw [hfk hlf,DJ,AE (show (j+2)*88≤EG by unfold EG; omega),DJ];refine ZD N hT hb c _ (j+2) lo hi any (by simp only [AS,BC,AM,A7]; omega) ?_ ?_
     ·rw [e2]; exact hs
     ·rw [e2]; omega
theorem zhb:DY PR B0 158 bP:=by
 refine D7 [(111,PP),(112,LB),(55,MQ)] [(3,⟨[0,4,5,6,7,8,9],[500],[⟨.tmp 9,500,252,true,jU⟩]⟩)] bP [[.z],[.z]] Tryz.func158 zax ⟨k9,XZ,aA,trivial⟩ ?_;intro vs r hwf h;unfold bP at h;split at h
 ·rename_i l b;replace h:=JY h;obtain ⟨b,rfl,h⟩:=h;cases hg:(G4 l 4&&GA b) with
  | false=>rw [hg] at h; simp [R.get] at h
  | true=>
  rw [hg,R.get_br,DJ,R.get_ok] at h;rw [AH] at hg;refine ⟨3 ^ 31+1,(zdK (3 ^ 31+1) l b).trans ?_⟩;rw [← h];have hgd:=ZI.1 hg.2;refine ZD (3 ^ 31+1) hg.1 hgd (3 ^ 31+1) [QK 0 b] 1 0 0 false (AX _) (Wj (tT hg.1) hgd.ok) ?_;show PY [QK 0 b] < 3 ^ 31+1;unfold PY;simp only [A0,CB,vba,List.sum_nil,YA];show 3 ^ 31+0 < 3 ^ 31+1;omega
 ·simp [R.get] at h
open Go Go.Proofs
def YP (N:Nat):Env:=D6 [(111,PP),(110,cT)] [(6,⟨[4,5,6,7,19,20,21],[500,501],[⟨.tmp 6,500,36,true,E9⟩,⟨.tmp 7,501,36,true,E9⟩]⟩)] 75 N
end Go.FM
