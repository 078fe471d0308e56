/-
  A small machine that reckons what a call comes to; the functions of the program, one by one. (WHAT span's, box's, couple's, leaves', bound's, grid's, quer, NORMAL FORMS: what the functions' runs come to (written by a, NORMAL FORMS: what the functions' runs come to (written by a, and so on.)
-/
import Derived.Test.YtehhekmihbaghaaGreatDoorWc
set_option linter.all false
set_option maxRecDepth 100000
open Array renaming getElem?_eq_some_iff→C9,getElem?_toList→vaq,getElem?_modify→va0
open Bool renaming and_eq_true→AH,not_true→A2,not_false→BB,true_and→BH,false_and→BV,not_eq_true'→BY,and_self→B1,and_true→CE,or_eq_false_iff→van,and_false→vau,or_eq_true→vax,false_or→vaB,eq_iff_iff→va6
open Go.Addr.mk renaming injEq→DA
open Go.IntKind renaming wrap→AA,i64→AB
open Go.Lib renaming compactUpTo→vbn
open Go.ResultVar renaming tmp→CA,cell→vbi
open Go.Sort renaming ahead→vbD
open Go.Value renaming ownBlock→B6
open Go.Value.slice renaming injEq→CG
open Go.World renaming cell?→vaF
open Int renaming toNat→AD,toNat_natCast→BD,le_refl→vab
open List renaming length→AG,getD→AI,take→AK,length_cons→AN,drop→AR,mem_cons_self→AT,mem_cons→AU,mem_append→AV,length_append→AW,mem_cons_of_mem→AX,map_cons→AZ,map→A5,getElem?_eq_getElem→A6,length_nil→A7,length_take→A8,drop_eq_getElem_cons→A9,replicate→BG,getElem?_cons_zero→BK,getElem?_eq_none→BM,getElem?_eq_some_iff→BN,getD_eq_getElem?_getD→BO,take_length→BS,mem_singleton→BU,drop_zero→B4,getElem?_map→B5,length_map→B7,map_nil→CB,getElem?_take→CI,drop_of_length_le→CN,all_eq_true→CP,take_of_length_le→CV,getElem_mem→CX,mem_map→CY,getElem?_cons_succ→DB,cons_append→vaa,length_singleton→vae,getElem?_append→vaf,mem_of_getElem?→vag,append_nil→vak,drop_length→vas,range→vav,length_set→vay,mem_range→vaH,flatMap_cons→vaX,mem_of_mem_take→va2,nil_append→vba,filter_cons→vbg,append_assoc→vbj,pairwise_cons→vbA
open List.Perm renaming refl→vbI
open Nat renaming le_of_ble_eq_true→AM,le_refl→AY,zero_add→BF,beq→BI,blt→BJ,ble→BW,zero_le→BZ,le_trans→CZ,ble_eq_true_of_le→C2,add_zero→C4,lt_or_ge→C6,min_eq_left→var,add_assoc→vaL,sub_zero→vaY,beq_refl→vbh
open Option.some renaming injEq→AC,inj→CS
open Prod.mk renaming injEq→AS
namespace Go.FM
open Go
def Nd.cs (x:Nd):List FM.V:=[.bool x.lf,.int .i64 x.v,.int .i64 x.f,.int .i64 x.a,.int .i64 x.l,.int .i64 x.r]
def Nd.V (x:Nd):FM.V:=.agg x.cs
def Md.cs (m:Md):List FM.V:=[.int .i64 m.d,.int .i64 m.c,.int .i64 m.b0,.int .i64 m.b1,.int .i64 m.b2,.list true [.z,.list false [.int .u64]] m.ts]
def Md.V (m:Md):FM.V:=.agg m.cs
def Qy.cs (q:Qy):List FM.V:=[.int .i64 q.k,.int .i64 q.c,.int .i64 q.a0,.int .i64 q.b0,.int .i64 q.a1,.int .i64 q.b1,.int .i64 q.a2,.int .i64 q.b2,.int .i64 q.a3,.int .i64 q.b3,.int .i64 q.a4,.int .i64 q.b4,.int .i64 q.lo,.int .i64 q.hi,.int .i64 q.ft,.bool q.fl,.int .i64 q.bu]
def Vd.cs (v:Vd):List FM.V:=[.int .i64 v.kind,.list true [.bool,.z,.z] v.proof,.int .i64 v.w0,.int .i64 v.w1,.int .i64 v.w2,.int .i64 v.w3,.int .i64 v.twin,.int .i64 v.spent]
def Ak.cs (a:Ak):List FM.V:=[.int .i64 a.k,.int .i64 a.c,.int .i64 a.lo,.int .i64 a.size,.int .i64 a.ft,.int .i64 a.bu,.bool a.fl,.list false [.z] a.sp]
def Ak.V (a:Ak):FM.V:=.agg a.cs
structure Sp where
 lo:Int
 hi:Int
def Sp.cs (s:Sp):List FM.V:=[.int .i64 s.lo,.int .i64 s.hi]
def Sp.V (s:Sp):FM.V:=.agg s.cs
structure Bx where
 s0:Sp
 s1:Sp
 s2:Sp
 s3:Sp
 s4:Sp
def Bx.g (b:Bx):Nat→Sp
 | 0=>b.s0
 | 1=>b.s1
 | 2=>b.s2
 | 3=>b.s3
 | _=>b.s4
def Bx.p (b:Bx) (s:Sp):Nat→Bx
 | 0=>⟨s,b.s1,b.s2,b.s3,b.s4⟩
 | 1=>⟨b.s0,s,b.s2,b.s3,b.s4⟩
 | 2=>⟨b.s0,b.s1,s,b.s3,b.s4⟩
 | 3=>⟨b.s0,b.s1,b.s2,s,b.s4⟩
 | _=>⟨b.s0,b.s1,b.s2,b.s3,s⟩
def Bx.cs (b:Bx):List FM.V:=[.int .i64 b.s0.lo,.int .i64 b.s0.hi,.int .i64 b.s1.lo,.int .i64 b.s1.hi,.int .i64 b.s2.lo,.int .i64 b.s2.hi,.int .i64 b.s3.lo,.int .i64 b.s3.hi,.int .i64 b.s4.lo,.int .i64 b.s4.hi]
def Bx.V (b:Bx):FM.V:=.agg b.cs
structure Pt where
 p0:Int
 p1:Int
 p2:Int
 p3:Int
def Pt.cs (p:Pt):List FM.V:=[.int .i64 p.p0,.int .i64 p.p1,.int .i64 p.p2,.int .i64 p.p3]
def Pt.V (p:Pt):FM.V:=.agg p.cs
def Pt.g (p:Pt):Nat→Int
 | 0=>p.p0
 | 1=>p.p1
 | 2=>p.p2
 | _=>p.p3
def spOf?:List FM.V→Option Sp
 | [.int .i64 a,.int .i64 b]=>some ⟨a,b⟩
 | _=>none
def ptOf?:List FM.V→Option Pt
 | [.int .i64 a,.int .i64 b,.int .i64 c,.int .i64 d]=>some ⟨a,b,c,d⟩
 | _=>none
def bxOf?:List FM.V→Option Bx
 | [.int .i64 a0,.int .i64 b0,.int .i64 a1,.int .i64 b1,.int .i64 a2,.int .i64 b2,.int .i64 a3,.int .i64 b3,.int .i64 a4,.int .i64 b4]=>some ⟨⟨a0,b0⟩,⟨a1,b1⟩,⟨a2,b2⟩,⟨a3,b3⟩,⟨a4,b4⟩⟩
 | _=>none
def mdOf?:List FM.V→Option Md
 | [.int .i64 d,.int .i64 c,.int .i64 b0,.int .i64 b1,.int .i64 b2,.list true [.z,.list false [.int .u64]] ts]=>some ⟨d,c,b0,b1,b2,ts⟩
 | _=>none
def qyOf?:List FM.V→Option Qy
 | [.int .i64 k,.int .i64 c,.int .i64 a0,.int .i64 b0,.int .i64 a1,.int .i64 b1,.int .i64 a2,.int .i64 b2,.int .i64 a3,.int .i64 b3,.int .i64 a4,.int .i64 b4,.int .i64 lo,.int .i64 hi,.int .i64 ft,.bool fl,.int .i64 bu]=>
  some ⟨k,c,a0,b0,a1,b1,a2,b2,a3,b3,a4,b4,lo,hi,ft,fl,bu⟩
 | _=>none
def vdOf?:List FM.V→Option Vd
 | [.int .i64 k,.list true [.bool,.z,.z] p,.int .i64 a,.int .i64 b,.int .i64 c,.int .i64 d,.int .i64 t,.int .i64 s]=>some ⟨k,p,a,b,c,d,t,s⟩
 | _=>none
def PM {α:Type} (of:List FM.V→Option α) (v:FM.V) (k:α→R):R:=
 match v with
 | .agg l=>match of l with | some x=>k x | none=>.no
 | _=>.no
abbrev gH (v:FM.V) (k:Sp→R):R:=PM spOf? v k
abbrev SM (v:FM.V) (k:Pt→R):R:=PM ptOf? v k
abbrev IH (v:FM.V) (k:Bx→R):R:=PM bxOf? v k
abbrev I7 (v:FM.V) (k:Md→R):R:=PM mdOf? v k
abbrev I8 (v:FM.V) (k:Qy→R):R:=PM qyOf? v k
abbrev Fe (v:FM.V) (k:Vd→R):R:=PM vdOf? v k
theorem SL {α:Type} {of:List FM.V→Option α} {v:FM.V} {k:α→R} {z:FM.V × List (List FM.V)} (h:(PM of v k).get=some z):∃ l x,v = .agg l∧of l=some x∧(k x).get=some z:=by
 unfold PM at h;split at h
 ·rename_i l;split at h
  ·rename_i x hx;exact ⟨l,x,rfl,hx,h⟩
  ·simp [R.get] at h
 ·simp [R.get] at h
theorem oM {v:FM.V} {k:Sp→R} {z:FM.V × List (List FM.V)} (h:(gH v k).get=some z):∃ x:Sp,v=x.V∧(k x).get=some z:=by
 obtain ⟨l,x,rfl,hx,h⟩:=SL h;unfold spOf? at hx;split at hx
 ·simp only [AC] at hx;subst hx;exact ⟨_,rfl,h⟩
 ·cases hx
theorem U6 {v:FM.V} {k:Pt→R} {z:FM.V × List (List FM.V)} (h:(SM v k).get=some z):∃ x:Pt,v=x.V∧(k x).get=some z:=by
 obtain ⟨l,x,rfl,hx,h⟩:=SL h;unfold ptOf? at hx;split at hx
 ·simp only [AC] at hx;subst hx;exact ⟨_,rfl,h⟩
 ·cases hx
theorem IS {v:FM.V} {k:Bx→R} {z:FM.V × List (List FM.V)} (h:(IH v k).get=some z):∃ x:Bx,v=x.V∧(k x).get=some z:=by
 obtain ⟨l,x,rfl,hx,h⟩:=SL h;unfold bxOf? at hx;split at hx
 ·simp only [AC] at hx;subst hx;exact ⟨_,rfl,h⟩
 ·cases hx
theorem JK {v:FM.V} {k:Md→R} {z:FM.V × List (List FM.V)} (h:(I7 v k).get=some z):∃ x:Md,v=x.V∧(k x).get=some z:=by
 obtain ⟨l,x,rfl,hx,h⟩:=SL h;unfold mdOf? at hx;split at hx
 ·simp only [AC] at hx;subst hx;exact ⟨_,rfl,h⟩
 ·cases hx
theorem JL {v:FM.V} {k:Qy→R} {z:FM.V × List (List FM.V)} (h:(I8 v k).get=some z):∃ x:Qy,v=x.V∧(k x).get=some z:=by
 obtain ⟨l,x,rfl,hx,h⟩:=SL h;unfold qyOf? at hx;split at hx
 ·simp only [AC] at hx;subst hx;exact ⟨_,rfl,h⟩
 ·cases hx
theorem zdU {v:FM.V} {k:Vd→R} {z:FM.V × List (List FM.V)} (h:(Fe v k).get=some z):∃ x:Vd,v=x.V∧(k x).get=some z:=by
 obtain ⟨l,x,rfl,hx,h⟩:=SL h;unfold vdOf? at hx;split at hx
 ·simp only [AC] at hx;subst hx;exact ⟨_,rfl,h⟩
 ·cases hx
def Sp.emp (s:Sp):Bool:=decide (s.lo > s.hi)
def Sp.has (s:Sp) (n:Int):Bool:=decide (s.lo≤n)&&decide (n≤s.hi)
def LM (lo hi:Int):Sp:=cond (decide (lo > hi)) ⟨1,0⟩ ⟨lo,hi⟩
def Sp.cutL (s:Sp) (a:Int):Sp:=LM s.lo (min s.hi a)
def Sp.cutH (s:Sp) (a:Int):Sp:=cond (decide (a≥s.hi)) ⟨1,0⟩ (LM (max s.lo (E7 (a+1))) s.hi)
def TG:DO
 | []=>.ok (.agg [.int .i64 1,.int .i64 0]) []
 | _=>.no
def Y6:DO
 | [.int .i64 lo,.int .i64 hi]=>.ok (LM lo hi).V []
 | _=>.no
def TE:DO
 | [s]=>gH s fun s=>.ok (.bool (s.emp)) []
 | _=>.no
def TF:DO
 | [s,.int .i64 n]=>gH s fun s=>.ok (.bool (s.has n)) []
 | _=>.no
def cC:DO
 | [s,.int .i64 n]=>gH s fun s=>.ok (.tup [(s.cutL n).V,(s.cutH n).V]) []
 | _=>.no
def Bx.I (b:Bx):IV:=.agg [.int b.s0.lo,.int b.s0.hi,.int b.s1.lo,.int b.s1.hi,.int b.s2.lo,.int b.s2.hi,.int b.s3.lo,.int b.s3.hi,.int b.s4.lo,.int b.s4.hi]
abbrev cI (x:IV) (j:Nat):Int:=(x.cell j).toInt
def DW (x:IV):Bx:=⟨⟨cI x 0,cI x 1⟩,⟨cI x 2,cI x 3⟩,⟨cI x 4,cI x 5⟩,⟨cI x 6,cI x 7⟩,⟨cI x 8,cI x 9⟩⟩
abbrev EV:List Kd:=[.z,.z,.z,.z,.z,.z,.z,.z,.z,.z]
def Bx.emp (b:Bx):Bool:=b.s0.emp||(b.s1.emp||(b.s2.emp||(b.s3.emp||b.s4.emp)))
def VP:Bx:=⟨⟨0,0⟩,⟨0,0⟩,⟨0,0⟩,⟨0,0⟩,⟨0,0⟩⟩
def HG (i:Int):Bool:=decide (0≤i)&&decide (i < 5)
def Bx.cutL (b:Bx) (i a:Int):Bx:=b.p ((b.g i.toNat).cutL a) i.toNat
def Bx.cutH (b:Bx) (i a:Int):Bx:=b.p ((b.g i.toNat).cutH a) i.toNat
def Pt.p (p:Pt) (x:Int):Nat→Pt
 | 0=>⟨x,p.p1,p.p2,p.p3⟩
 | 1=>⟨p.p0,x,p.p2,p.p3⟩
 | 2=>⟨p.p0,p.p1,x,p.p3⟩
 | _=>⟨p.p0,p.p1,p.p2,x⟩
def Bx.low (b:Bx):Pt:=⟨b.s0.lo,b.s1.lo,b.s2.lo,b.s3.lo⟩
def Bx.has (b:Bx) (p:Pt) (t:Int):Bool:=b.s0.has p.p0&&(b.s1.has p.p1&&(b.s2.has p.p2&&(b.s3.has p.p3&&b.s4.has t)))
def J0:DO
 | [b]=>IH b fun b=>.ok (.bool (b.emp)) []
 | _=>.no
def XT:DO
 | [b]=>IH b fun b=>.ok b.low.V []
 | _=>.no
def XS:DO
 | [b,p,.int .i64 t]=>IH b fun b=>SM p fun p=>.ok (.bool (b.has p t)) []
 | _=>.no
def NK:DO
 | [b,.int .i64 i,.int .i64 a]=>IH b fun b=>.br (HG i) (.ok (.tup [(b.cutL i a).V,(b.cutH i a).V]) []) .no
 | _=>.no
def H0 (l:LI) (p:Pt):Nat→Int→Int × Nd
 | 0,_=>(-1,Nd.zero)
 | n+1,a=>
  cond (decide (a≥ic l.length)) (-1,Nd.zero)
   (cond (!(FU (l.getD a.toNat default).toInt)) (-1,Nd.zero)
    (cond (DF (l.getD a.toNat default).toInt).lf (a,DF (l.getD a.toNat default).toInt)
     (cond (decide (p.g (DF (l.getD a.toNat default).toInt).f.toNat≤(DF (l.getD a.toNat default).toInt).a)) (H0 l p n (DF (l.getD a.toNat default).toInt).l) (H0 l p n (DF (l.getD a.toNat default).toInt).r))))
def Mb (l:LI) (p:Pt):Int:=(H0 l p 31 0).1
def dD (l:LI) (p:Pt):Nd:=(H0 l p 31 0).2
def ZA:DO
 | [.list false [.int .u64] l,p]=>SM p fun p=>.ok (.tup [.int .i64 (Mb l p),(dD l p).V]) []
 | _=>.no
def GO (l:LI) (p:Pt):Int:=(dD l p).v
def Y9:DO
 | [.list false [.int .u64] l,p]=>SM p fun p=>.ok (.int .i64 (GO l p)) []
 | _=>.no
def KF (m:Md) (c:Int):Int:=cond (c==0) m.b0 (cond (c==1) m.b1 m.b2)
abbrev SG (t:IV):Int:=cI t 0
abbrev E3 (t:IV):LI:=(t.cell 1).toList
def NY (c:Int) (p:Pt):LI→Int→Int
 | [],s=>s
 | t :: r,s=>NY c p r (cond (SG t==c) (s+GO (E3 t) p) s)
def HO (m:Md) (c:Int):Bool:=decide (0≤c)&&decide (c < m.c)
def YO:DO
 | [m,.int .i64 k,p]=>I7 m fun m=>SM p fun p=>.br (EQ m&&HO m k) (.ok (.int .i64 (NY k p m.ts (KF m k))) []) .no
 | _=>.no
def EB (m:Md) (k:Int) (p:Pt):Int:=cond (EQ m&&HO m k) (NY k p m.ts (KF m k)) 0
def YM:DO
 | [m,.int .i64 k,p]=>I7 m fun m=>SM p fun p=>.ok (.int .i64 (EB m k p)) []
 | _=>.no
def T6 (x:Int):List Int→List Int
 | []=>[x]
 | y :: r=>cond (decide (x≤y)) (x :: y :: r) (y :: T6 x r)
def JW:List Int→List Int
 | []=>[]
 | x :: r=>T6 x (JW r)
def K7:Int→List Int→List Int
 | _,[]=>[]
 | p,x :: r=>cond (x==p) (K7 x r) (x :: K7 x r)
def JA:List Int→List Int
 | []=>[]
 | x :: r=>x :: K7 x r
def OC (f:Int) (w:IV):List Int:=cond (!(DF w.toInt).lf&&(DF w.toInt).f==f) [(DF w.toInt).a] []
def KY (ts:LI) (f:Int):List Int:=ts.flatMap fun t=>(E3 t).flatMap (OC f)
def I6 (ts:LI) (f:Int):List Int:=JA (JW (KY ts f))
def iZ (l:List Int):LI:=l.map IV.int
def YN:DO
 | [m,.int .i64 f]=>I7 m fun m=>.br (EQ m) (.ok (.vec 3 false [.z] (iZ (I6 m.ts f))) []) .no
 | _=>.no
def dQ:Ip:=⟨3,false,fun rs l=>match rs with
 | []=>some (iZ (JW (l.map IV.toInt)))
 | _=>none⟩
def dO:Ip:=⟨3,true,fun rs l=>match rs with
 | []=>some (iZ (JA (l.map IV.toInt)))
 | _=>none⟩
def KM (a b:Int) (l:List Int):List Int:=l.filter fun t=>!(decide (t < a)||decide (t≥b))
def dP:Ip:=⟨3,true,fun rs l=>match rs with
 | [.clo f [.bor [.int .i64 a,.int .i64 b]]]=>cond (BI f 169) (some (iZ (KM a b (l.map IV.toInt)))) none
 | _=>none⟩
def Qy.bx (q:Qy):Bx:=⟨⟨q.a0,q.b0⟩,⟨q.a1,q.b1⟩,⟨q.a2,q.b2⟩,⟨q.a3,q.b3⟩,⟨q.a4,q.b4⟩⟩
def L4 (d i:Int) (s:Sp):Bool:=!(decide (i≥d)&&!((s.lo==0)&&(s.hi==0)))&&(!s.emp&&(EU s.lo&&EU s.hi))
def QK (b:Bx) (d:Int):Bool:=L4 d 0 b.s0&&(L4 d 1 b.s1&&(L4 d 2 b.s2&&(L4 d 3 b.s3&&L4 d 4 b.s4)))
def YY:DO
 | [b,.int .i64 d]=>IH b fun b=>.ok (.bool (QK b d)) []
 | _=>.no
def RR (m:Md) (q:Qy):Bool:=
 cond (q.k==1) (decide (q.lo≤q.hi)&&((q.ft==0)&&!q.fl))
  (cond (q.k==2) (decide (m.c≥2)&&((q.lo==0)&&((q.hi==0)&&((q.ft==0)&&!q.fl))))
   (cond (q.k==3) (decide (q.ft≥0)&&(decide (q.ft < m.d)&&((q.lo==0)&&(q.hi==0)))) false))
def E6 (m:Md) (q:Qy):Bool:=EQ m&&(decide (q.c≥0)&&(decide (q.c < m.c)&&(decide (q.bu≥0)&&(decide (q.bu≤65536)&&(QK q.bx m.d&&RR m q)))))
def GM (q:Qy):Bool:=(q.k==3)&&(decide (q.ft≥0)&&decide (q.ft < 4))
def GW (q:Qy):Bx:=q.bx.p (cond (GM q) (q.bx.g q.ft.toNat) ⟨0,0⟩) 4
def IG (q:Qy) (p:Pt) (t:Int):Pt:=cond (GM q) (p.p t q.ft.toNat) p
def aK (m:Md) (q:Qy) (p:Pt) (own:Int):Bool:=(vav m.c.toNat).any fun c=>!((c:Int)==q.c)&&decide (EB m (c:Int) p≥own)
def G0 (m:Md) (q:Qy) (p:Pt) (t:Int):Bool:=
 E6 m q &&
  cond (q.k==1) (!(Sp.has ⟨q.lo,q.hi⟩ (EB m q.c p)))
   (cond (q.k==2) (aK m q p (EB m q.c p))
    (cond (decide (p.g q.ft.toNat≥t)) false
     (cond q.fl (decide (EB m q.c (IG q p t) > EB m q.c p)) (decide (EB m q.c (IG q p t) < EB m q.c p)))))
def M7 (n:Nd) (i:Nat) (own:LI):LI:=
 cond n.lf own ((own.set n.l.toNat ((DW (own.getD i default)).cutL n.f n.a).I).set n.r.toNat ((DW (own.getD i default)).cutH n.f n.a).I)
def aO (b:Bx) (v:Int):IV:=.agg [.int b.s0.lo,.int b.s0.hi,.int b.s1.lo,.int b.s1.hi,.int b.s2.lo,.int b.s2.hi,.int b.s3.lo,.int b.s3.hi,.int b.s4.lo,.int b.s4.hi,.int v]
abbrev G2 (x:IV):Int:=cI x 10
abbrev K9:List Kd:=[.z,.z,.z,.z,.z,.z,.z,.z,.z,.z,.z]
def ML:LI→Nat→LI→LI→LI
 | [],_,_,out=>out
 | w :: r,i,own,out=>ML r (i+1) (M7 (DF w.toInt) i own) (cond ((DF w.toInt).lf&&!(DW (own.getD i default)).emp) (out++[aO (DW (own.getD i default)) (DF w.toInt).v]) out)
def H1 (l:LI) (b:Bx):LI:=cond (GC l 4&&!b.emp) (ML l 0 ((BG l.length VP.I).set 0 b.I) []) []
def YL:DO
 | [.list false [.int .u64] l,b]=>IH b fun b=>.ok (.list true K9 (H1 l b)) []
 | _=>.no
def M9:LI→Int→Int
 | [],a=>a
 | x :: r,a=>M9 r (min a (G2 x))
def M8:LI→Int→Int
 | [],a=>a
 | x :: r,a=>M8 r (max a (G2 x))
def aT (ps:LI):Int:=M9 ps (G2 (ps.getD 0 default))
def aS (ps:LI):Int:=M8 ps (G2 (ps.getD 0 default))
def UT (l:LI) (b:Bx):Bool:=!((H1 l b).isEmpty)
def HL (l:LI) (b:Bx):Int:=cond (UT l b) (aT (H1 l b)) 0
def HK (l:LI) (b:Bx):Int:=cond (UT l b) (aS (H1 l b)) 0
def XR:DO
 | [.list false [.int .u64] l,b]=>IH b fun b=>.ok (.tup [.int .i64 (HL l b),.int .i64 (HK l b),.bool (UT l b)]) []
 | _=>.no
def IB (h:LI→Int) (c:Int):LI→Int→Int
 | [],s=>s
 | t :: r,s=>IB h c r (cond (SG t==c) (s+h (E3 t)) s)
def GL (m:Md) (c:Int) (b:Bx):Bool:=EQ m&&(HO m c&&!b.emp)
def D0 (m:Md) (c:Int) (b:Bx):Int:=cond (GL m c b) (IB (fun l=>HL l b) c m.ts (KF m c)) 0
def DV (m:Md) (c:Int) (b:Bx):Int:=cond (GL m c b) (IB (fun l=>HK l b) c m.ts (KF m c)) 0
def PV:DO
 | [m,.int .i64 k,b]=>I7 m fun m=>IH b fun b=>.ok (.tup [.int .i64 (D0 m k b),.int .i64 (DV m k b),.bool (GL m k b)]) []
 | _=>.no
def O6 (m:Md) (c lo:Int) (b:Bx):Nat→Int→Int→Bool→Int
 | 0,_,a,_=>a
 | n+1,i,a,z=>cond (i==c) (O6 m c lo b n (i+1) a z)
  (cond (!z||decide (lo - DV m i b < a)) (O6 m c lo b n (i+1) (lo - DV m i b) true) (O6 m c lo b n (i+1) a z))
def LY (m:Md) (c:Int) (b:Bx):Bool:=GL m c b&&decide (m.c≥2)
def RT (m:Md) (c:Int) (b:Bx):Int:=cond (LY m c b) (O6 m c (D0 m c b) b m.c.toNat 0 0 false) 0
def XQ:DO
 | [m,.int .i64 k,b]=>I7 m fun m=>IH b fun b=>.ok (.tup [.int .i64 (RT m k b),.bool (LY m k b)]) []
 | _=>.no
def IZ (q:Qy) (b:Bx):Bx:=cond (GM q) (b.p ⟨0,0⟩ 4) b
def I4 (q:Qy) (b:Bx):Bx:=cond (GM q) ((b.p b.s4 q.ft.toNat).p ⟨0,0⟩ 4) b
def N3 (q:Qy) (b:Bx):Bool:=GM q&&(!b.emp&&decide ((b.g q.ft.toNat).lo < b.s4.hi))
def J1 (m:Md) (q:Qy) (b:Bx):Bool:=GM q&&(GL m q.c (IZ q b)&&GL m q.c (I4 q b))
def P8 (m:Md) (q:Qy) (b:Bx):Int:=cond (J1 m q b) (D0 m q.c (I4 q b) - DV m q.c (IZ q b)) 0
def P7 (m:Md) (q:Qy) (b:Bx):Int:=cond (J1 m q b) (DV m q.c (I4 q b) - D0 m q.c (IZ q b)) 0
def GG (m:Md) (q:Qy) (b:Bx):Bool:=
 E6 m q &&
  cond b.emp true
   (cond (q.k==1) (GL m q.c b&&(decide (q.lo≤D0 m q.c b)&&decide (DV m q.c b≤q.hi)))
    (cond (q.k==2) (LY m q.c b&&decide (RT m q.c b > 0))
     (cond (!(N3 q b)) true
      (cond q.fl (J1 m q b&&decide (P7 m q b≤0)) (J1 m q b&&decide (P8 m q b≥0))))))
def IY (q:Qy) (i:Int):Int:=cond (decide (i≥0)&&decide (i < 4)) i (cond ((i==4)&&(q.k==3)) q.ft (-1))
def EZ (m:Md) (q:Qy) (b:Bx) (i:Nat):List Int:=
 cond (decide (IY q (i:Int) < 0)) [] (KM (b.g i).lo (b.g i).hi (I6 m.ts (IY q (i:Int))))
def J9 (m:Md) (q:Qy) (b:Bx):Nat→Nat→Option (Int × Int)
 | 0,_=>none
 | n+1,i=>cond (decide ((EZ m q b i).length > 0)) (some ((i:Int),(EZ m q b i).getD (((EZ m q b i).length - 1) / 2) 0)) (J9 m q b n (i+1))
def EL (m:Md) (q:Qy) (b:Bx):Option (Int × Int):=J9 m q b 5 0
def YX:DO
 | [m,q]=>I7 m fun m=>I8 q fun q=>.ok (.bool (RR m q)) []
 | _=>.no
def MB:DO
 | [m,q]=>I7 m fun m=>I8 q fun q=>.ok (.bool (E6 m q)) []
 | _=>.no
def TC:DO
 | [q]=>I8 q fun q=>.ok (.bool (GM q)) []
 | _=>.no
def NO:DO
 | [q]=>I8 q fun q=>.ok (.bool (GM q)) []
 | _=>.no
def TB:DO
 | [q]=>I8 q fun q=>.ok (GW q).V []
 | _=>.no
def YW:DO
 | [q,p,.int .i64 t]=>I8 q fun q=>SM p fun p=>.ok (IG q p t).V []
 | _=>.no
def TA:DO
 | [m,q,p,.int .i64 t]=>I7 m fun m=>I8 q fun q=>SM p fun p=>.ok (.bool (G0 m q p t)) []
 | _=>.no
def YA:DO
 | [q,b]=>I8 q fun q=>IH b fun b=>.ok (IZ q b).V []
 | _=>.no
def YC:DO
 | [q,b]=>I8 q fun q=>IH b fun b=>.ok (I4 q b).V []
 | _=>.no
def YB:DO
 | [q,b]=>I8 q fun q=>IH b fun b=>.ok (.bool (N3 q b)) []
 | _=>.no
def X9:DO
 | [m,q,b]=>I7 m fun m=>I8 q fun q=>IH b fun b=>.ok (.tup [.int .i64 (P8 m q b),.int .i64 (P7 m q b),.bool (J1 m q b)]) []
 | _=>.no
def YE:DO
 | [m,q,b]=>I7 m fun m=>I8 q fun q=>IH b fun b=>.ok (.bool (GG m q b)) []
 | _=>.no
def YF:DO
 | [b]=>IH b fun b=>.ok (.tup [b.low.V,.int .i64 b.s4.hi]) []
 | _=>.no
def YI:DO
 | [q,.int .i64 i]=>I8 q fun q=>.ok (.int .i64 (IY q i)) []
 | _=>.no
def YH:DO
 | [m,q,b,.int .i64 i]=>I7 m fun m=>I8 q fun q=>IH b fun b=>.br (EQ m&&HG i) (.ok (.list false [.z] (iZ (EZ m q b i.toNat))) []) .no
 | _=>.no
def I5 (o:Option (Int × Int)):Int:=match o with | none=>0 | some (i,_)=>i
def IA (o:Option (Int × Int)):Int:=match o with | none=>0 | some (_,a)=>a
def YG:DO
 | [m,q,b]=>I7 m fun m=>I8 q fun q=>IH b fun b=>.br (EQ m) (.ok (.tup [.int .i64 (I5 (EL m q b)),.int .i64 (IA (EL m q b)),.bool (EL m q b).isSome]) []) .no
 | _=>.no
structure Sr where
 left:LI
 proof:LI
 v:Vd
 spent:Int
def L5 (s:Bool) (p a:Int):IV:=.agg [.bool s,.int p,.int a]
def DR (l:LI):Bx:=DW (l.getD (l.length - 1) default)
def FN (l:LI):LI:=l.take (l.length - 1)
def FV (m:Md) (q:Qy) (s:Sr):Sr:=
 cond (GG m q (DR s.left)) ⟨FN s.left,s.proof++[L5 true 0 0],cond (ic (s.left.length - 1)==0) ⟨1,s.proof++[L5 true 0 0],0,0,0,0,0,0⟩ s.v,s.spent+1⟩
  (cond (G0 m q (DR s.left).low (DR s.left).s4.hi) ⟨FN s.left,s.proof,⟨2,[],(DR s.left).s0.lo,(DR s.left).s1.lo,(DR s.left).s2.lo,(DR s.left).s3.lo,(DR s.left).s4.hi,0⟩,s.spent+1⟩
   (cond (EL m q (DR s.left)).isSome
    ⟨FN s.left++[((DR s.left).cutH (I5 (EL m q (DR s.left))) (IA (EL m q (DR s.left)))).I,((DR s.left).cutL (I5 (EL m q (DR s.left))) (IA (EL m q (DR s.left)))).I],
     s.proof++[L5 false (I5 (EL m q (DR s.left))) (IA (EL m q (DR s.left)))],s.v,s.spent+1⟩
    ⟨FN s.left,s.proof,⟨3,[],0,0,0,0,0,0⟩,s.spent+1⟩))
def I3 (q:Qy) (s:Sr):Bool:=!(s.v.kind==0)||decide (s.spent≥q.bu)
def KW (m:Md) (q:Qy):Nat→Sr→Sr
 | 0,s=>s
 | n+1,s=>cond (I3 q s) s (KW m q n (FV m q s))
def RU (m:Md) (q:Qy):Sr:=cond (E6 m q) ⟨[(GW q).I],[],Vd.none,0⟩ ⟨[],[],⟨4,[],0,0,0,0,0,0⟩,0⟩
def GR (s:Sr):Vd:=⟨cond (s.v.kind==0) 3 s.v.kind,s.v.proof,s.v.w0,s.v.w1,s.v.w2,s.v.w3,s.v.twin,s.spent⟩
def HI (m:Md) (q:Qy):Vd:=GR (KW m q (q.bu.toNat+1) (RU m q))
def FJ (m:Md) (q:Qy) (r:List FM.V):List FM.V:=m.cs++(q.cs++r)
def seOf? (l:List FM.V):Option (Md × Qy × List FM.V):=
 match mdOf? (l.take 6),qyOf? ((l.drop 6).take 17) with
 | some m,some q=>some (m,q,(l.drop 6).drop 17)
 | _,_=>none
abbrev kH (l:LI):FM.V:=.vec 36 true EV l
abbrev Un (l:LI):FM.V:=.vec 127 true EH l
abbrev dI (l:LI):FM.V:=.list true EH l
def W1 (v:Vd) (vp:FM.V) (sp:Int):List FM.V:=[.int .i64 v.kind,vp,.int .i64 v.w0,.int .i64 v.w1,.int .i64 v.w2,.int .i64 v.w3,.int .i64 v.twin,.int .i64 v.spent,.int .i64 sp]
def NE (t:Nat) (m:Md) (q:Qy) (s:Sr):List FM.V:=
 FJ m q (match t with
  | 0=>kH s.left :: Un s.proof :: W1 s.v .zs s.spent
  | 1=>kH s.left :: .zs :: W1 s.v .zs s.spent
  | 2=>kH s.left :: dI s.proof :: W1 s.v (dI s.v.proof) s.spent
  | _=>.zs :: .zs :: W1 s.v .zs s.spent)
def srT?:List FM.V→Option (Nat × Sr)
 | [.vec 36 true [.z,.z,.z,.z,.z,.z,.z,.z,.z,.z] l,.vec 127 true [.bool,.z,.z] p,.int .i64 k,.zs,.int .i64 a,.int .i64 b,.int .i64 c,.int .i64 d,.int .i64 t,.int .i64 vs,.int .i64 sp]=>some (0,⟨l,p,⟨k,[],a,b,c,d,t,vs⟩,sp⟩)
 | [.vec 36 true [.z,.z,.z,.z,.z,.z,.z,.z,.z,.z] l,.zs,.int .i64 k,.zs,.int .i64 a,.int .i64 b,.int .i64 c,.int .i64 d,.int .i64 t,.int .i64 vs,.int .i64 sp]=>some (1,⟨l,[],⟨k,[],a,b,c,d,t,vs⟩,sp⟩)
 | [.vec 36 true [.z,.z,.z,.z,.z,.z,.z,.z,.z,.z] l,.list true [.bool,.z,.z] p,.int .i64 k,.list true [.bool,.z,.z] vp,.int .i64 a,.int .i64 b,.int .i64 c,.int .i64 d,.int .i64 t,.int .i64 vs,.int .i64 sp]=>some (2,⟨l,p,⟨k,vp,a,b,c,d,t,vs⟩,sp⟩)
 | [.zs,.zs,.int .i64 k,.zs,.int .i64 a,.int .i64 b,.int .i64 c,.int .i64 d,.int .i64 t,.int .i64 vs,.int .i64 sp]=>some (3,⟨[],[],⟨k,[],a,b,c,d,t,vs⟩,sp⟩)
 | _=>none
def gI (v:FM.V) (k:Nat→Md→Qy→Sr→R):R:=
 match v with
 | .bor l=>match seOf? l with
  | some (m,q,r)=>match srT? r with
   | some (t,s)=>k t m q s
   | none=>.no
  | none=>.no
 | _=>.no
def fW (m:Md) (q:Qy) (t:Nat) (s:Sr):Nat:=
 cond (GG m q (DR s.left)) (cond (ic (s.left.length - 1)==0) 2 0)
  (cond (G0 m q (DR s.left).low (DR s.left).s4.hi) t (cond (EL m q (DR s.left)).isSome 0 t))
def YZ:DO
 | [m,q]=>I7 m fun m=>I8 q fun q=>.br (E6 m q) (.ok (.bor (NE 1 m q ⟨[(GW q).I],[],Vd.none,0⟩)) []) (.ok (.bor (NE 3 m q ⟨[],[],⟨4,[],0,0,0,0,0,0⟩,0⟩)) [])
 | _=>.no
def Y1:DO
 | [x]=>gI x fun t m q s=>
  .br (I3 q s) (.ok (.bool false) [NE t m q s])
   (.br (BW t 1&&(E6 m q&&(decide (0≤s.spent)&&(BJ 0 s.left.length&&(BW s.left.length 100000&&BW s.proof.length 100000)))))
    (.br (GG m q (DR s.left)) (.br (ic (s.left.length - 1)==0) (.ok (.bool true) [NE 2 m q (FV m q s)]) (.ok (.bool true) [NE 0 m q (FV m q s)]))
     (.br (G0 m q (DR s.left).low (DR s.left).s4.hi) (.ok (.bool true) [NE t m q (FV m q s)])
      (.br (EL m q (DR s.left)).isSome (.ok (.bool true) [NE 0 m q (FV m q s)]) (.ok (.bool true) [NE t m q (FV m q s)])))) .no)
 | _=>.no
def Y2:DO
 | [x]=>gI x fun t m q s=>.br (BW s.v.proof.length 100000) (.ok (GR s).V [NE t m q s]) .no
 | _=>.no
def Y0:DO
 | [m,q]=>I7 m fun m=>I8 q fun q=>.ok (HI m q).V []
 | _=>.no
def cA:DO
 | [.list true [.bool,.z,.z] l]=>.br (BW l.length 100000) (.ok (.vec 127 true EH l) []) .no
 | _=>.no
open Go Go.Proofs
def Hw (N:Nat):Env:=DZ [] [] 2 N
theorem Zg (N:Nat):DS (Hw N) r8 [.cell 0 34] [[.z,.z]] []=(some ((.agg [.i 1,.i 0]),[])):=by kernel_rfl
def Hx (N:Nat):Env:=DZ [(194,TG)] [] 12 N
theorem Zh (N:Nat) (lo hi:Int):DS (Hx N) r9 [.cell 4 34] [[.z,.z]] [.i lo,.i hi]=(cond (decide (lo > hi)) (some ((.agg [.i 1,.i 0]),[])) (some ((.agg [.i lo,.i hi]),[]))):=by kernel_rfl
def Hu (N:Nat):Env:=DZ [] [] 8 N
theorem Ze (N:Nat) (s:Sp):DS (Hu N) rZ [.tmp 2] [[.bool]] [(Sp.V s)]=(some ((.bool (decide (Sp.lo s > Sp.hi s))),[])):=by kernel_rfl
def Hv (N:Nat):Env:=DZ [] [] 15 N
theorem Zf (N:Nat) (s:Sp) (n:Int):DS (Hv N) r7 [.tmp 4] [[.bool]] [(Sp.V s),.i n]=(cond (decide (Sp.lo s≤n)) (some ((.bool (decide (n≤Sp.hi s))),[])) (some ((.bool false),[]))):=by kernel_rfl
def Ht (N:Nat):Env:=DZ [(194,TG),(193,Y6)] [] 29 N
theorem Zd (N:Nat) (s:Sp) (atv:Int):DS (Ht N) rY [.cell 4 34,.cell 5 34] [[.z,.z],[.z,.z]] [(Sp.V s),.i atv]=(cond (decide (atv≥Sp.hi s)) (some ((.tup [(Sp.V (LM (Sp.lo s) (min (Sp.hi s) atv))),.agg [.i 1,.i 0]]),[])) (some ((.tup [(Sp.V (LM (Sp.lo s) (min (Sp.hi s) atv))),(Sp.V (LM (max (Sp.lo s) (AA AB (atv+1))) (Sp.hi s)))]),[]))):=by kernel_rfl
def JM (N:Nat):Env:=DZ [(55,K4)] [(3,⟨[0,3,4,5,6,9],[3,5],[]⟩)] 46 N
abbrev K1 (p:Pt) (l0:LI) (x4 x6 x9:Int) (u00:Bool) (u01 u02 u03 u04 u05:Int):St:=⟨[(0,(.list false [.int .u64] l0)),(3,(.ptr 3 0 0)),(4,(.i x4)),(5,(.ptr 5 0 0)),(6,(.i x6)),(9,(.i x9))],[(3,(some (.box (Pt.cs p)))),(5,(some (.box [.bool u00,.i u01,.i u02,.i u03,.i u04,.i u05])))]⟩
theorem Zt (N:Nat) (l:LI) (p:Pt):DS (JM N) MG [.tmp 4,.cell 5 111] [[.z],[.bool,.z,.z,.z,.z,.z]] [.list false [.int .u64] l,(Pt.V p)]=(DT (JM N) (DE MG [1,1,0,1,0,0]) ⟨[0,3,4,5,6,9],[3,5],[]⟩ N (K1 p l 0 0 0 false 0 0 0 0 0) (DK 0 (DM (JM N) (DE MG [1,1,1]) (DP (JM N) none [.tmp 4,.cell 5 111] [[.z],[.bool,.z,.z,.z,.z,.z]])))):=by kernel_rfl
theorem Dg (N:Nat) (p:Pt) (l0:LI) (x4 x6 x9:Int) (u00:Bool) (u01 u02 u03 u04 u05:Int) (again:St→DH) (k:Out→St→DH):E4 (JM N) (DE MG [1,1,0,1,0,0]) (K1 p l0 x4 x6 x9 u00 u01 u02 u03 u04 u05) (EO again ⟨[0,3,4,5,6,9],[3,5],[]⟩ k)=(cond (decide (x9 < 31)) (cond (decide (x6≥ic (AG l0))) (k (.exit 0) (K1 p l0 x4 x6 x9 u00 u01 u02 u03 u04 u05)) (cond (decide (0≤x6)&&decide (x6 < ic (AG l0))) (cond (!FU (IV.toInt (AI l0 (AD x6) default))) (k .ret (K1 p l0 (-1) x6 x9 false 0 0 0 0 0)) (cond (Nd.lf (DF (IV.toInt (AI l0 (AD x6) default)))) (k .ret ⟨[(0,(.list false [.int .u64] l0)),(3,(.ptr 3 0 0)),(4,(.i x6)),(5,(.ptr 5 0 0)),(6,(.i x6)),(9,(.i x9))],[(3,(some (.box (Pt.cs p)))),(5,(some (.box (Nd.cs (DF (IV.toInt (AI l0 (AD x6) default)))))))]⟩) (cond (decide (Nd.f (DF (IV.toInt (AI l0 (AD x6) default)))=ic 0)) (cond (decide (Pt.p0 p≤Nd.a (DF (IV.toInt (AI l0 (AD x6) default))))) (again (K1 p l0 x4 (Nd.l (DF (IV.toInt (AI l0 (AD x6) default)))) (AA AB (x9+1)) u00 u01 u02 u03 u04 u05)) (again (K1 p l0 x4 (Nd.r (DF (IV.toInt (AI l0 (AD x6) default)))) (AA AB (x9+1)) u00 u01 u02 u03 u04 u05))) (cond (decide (Nd.f (DF (IV.toInt (AI l0 (AD x6) default)))=ic 1)) (cond (decide (Pt.p1 p≤Nd.a (DF (IV.toInt (AI l0 (AD x6) default))))) (again (K1 p l0 x4 (Nd.l (DF (IV.toInt (AI l0 (AD x6) default)))) (AA AB (x9+1)) u00 u01 u02 u03 u04 u05)) (again (K1 p l0 x4 (Nd.r (DF (IV.toInt (AI l0 (AD x6) default)))) (AA AB (x9+1)) u00 u01 u02 u03 u04 u05))) (cond (decide (Nd.f (DF (IV.toInt (AI l0 (AD x6) default)))=ic 2)) (cond (decide (Pt.p2 p≤Nd.a (DF (IV.toInt (AI l0 (AD x6) default))))) (again (K1 p l0 x4 (Nd.l (DF (IV.toInt (AI l0 (AD x6) default)))) (AA AB (x9+1)) u00 u01 u02 u03 u04 u05)) (again (K1 p l0 x4 (Nd.r (DF (IV.toInt (AI l0 (AD x6) default)))) (AA AB (x9+1)) u00 u01 u02 u03 u04 u05))) (cond (decide (Nd.f (DF (IV.toInt (AI l0 (AD x6) default)))=ic 3)) (cond (decide (Pt.p3 p≤Nd.a (DF (IV.toInt (AI l0 (AD x6) default))))) (again (K1 p l0 x4 (Nd.l (DF (IV.toInt (AI l0 (AD x6) default)))) (AA AB (x9+1)) u00 u01 u02 u03 u04 u05)) (again (K1 p l0 x4 (Nd.r (DF (IV.toInt (AI l0 (AD x6) default)))) (AA AB (x9+1)) u00 u01 u02 u03 u04 u05))) none)))))) none)) (k (.exit 0) (K1 p l0 x4 x6 x9 u00 u01 u02 u03 u04 u05))):=by kernel_rfl
theorem t6 (N:Nat) (p:Pt) (l0:LI) (x4 x6 x9:Int) (u00:Bool) (u01 u02 u03 u04 u05:Int):(DK 0 (DM (JM N) (DE MG [1,1,1]) (DP (JM N) none [.tmp 4,.cell 5 111] [[.z],[.bool,.z,.z,.z,.z,.z]]))) (.exit 0) (K1 p l0 x4 x6 x9 u00 u01 u02 u03 u04 u05)=(some ((.tup [.i (-1),.agg [.bool false,.i 0,.i 0,.i 0,.i 0,.i 0]]),[])):=by kernel_rfl
theorem Ol (N:Nat) (p:Pt) (l0:LI) (x4 x6 x9:Int) (u00:Bool) (u01 u02 u03 u04 u05:Int):(DK 0 (DM (JM N) (DE MG [1,1,1]) (DP (JM N) none [.tmp 4,.cell 5 111] [[.z],[.bool,.z,.z,.z,.z,.z]]))) .ret (K1 p l0 x4 x6 x9 u00 u01 u02 u03 u04 u05)=(some ((.tup [.i x4,.agg [.bool u00,.i u01,.i u02,.i u03,.i u04,.i u05]]),[])):=by kernel_rfl
def Ig (N:Nat):Env:=DZ [(217,ZA)] [] 15 N
theorem Zs (N:Nat) (l:LI) (p:Pt):DS (Ig N) sH [.tmp 4] [[.z]] [.list false [.int .u64] l,(Pt.V p)]=(some ((.i (Nd.v (dD l p))),[])):=by kernel_rfl
def KC (N:Nat):Env:=DZ [(195,Y9)] [(3,⟨[1,5,6,7,15,16,17],[5],[]⟩)] 33 N
abbrev QY (p:Pt) (x1 x6 x7:Int) (l15:LI) (x16 x17:Int):St:=⟨[(1,(.i x1)),(5,(.ptr 5 0 0)),(6,(.i x6)),(7,(.i x7)),(15,(.list true LA l15)),(16,(.i x16)),(17,(.i x17))],[(5,(some (.box (Pt.cs p))))]⟩
theorem Yc (N:Nat) (m:Md) (u00:Int) (p:Pt):DS (KC N) M2 [.tmp 6] [[.z]] [(Md.V m),.i u00,(Pt.V p)]=(cond (decide (u00=ic 0)) (DT (KC N) (DE M2 [1,1,0,1,0,0]) ⟨[1,5,6,7,15,16,17],[5],[]⟩ N (QY p u00 0 (Md.b0 m) (Md.ts m) (ic (AG (Md.ts m))) 0) (DK 0 (DM (KC N) (DE M2 [1,1,1]) (DP (KC N) none [.tmp 6] [[.z]])))) (cond (decide (u00=ic 1)) (DT (KC N) (DE M2 [1,1,0,1,0,0]) ⟨[1,5,6,7,15,16,17],[5],[]⟩ N (QY p u00 0 (Md.b1 m) (Md.ts m) (ic (AG (Md.ts m))) 0) (DK 0 (DM (KC N) (DE M2 [1,1,1]) (DP (KC N) none [.tmp 6] [[.z]])))) (cond (decide (u00=ic 2)) (DT (KC N) (DE M2 [1,1,0,1,0,0]) ⟨[1,5,6,7,15,16,17],[5],[]⟩ N (QY p u00 0 (Md.b2 m) (Md.ts m) (ic (AG (Md.ts m))) 0) (DK 0 (DM (KC N) (DE M2 [1,1,1]) (DP (KC N) none [.tmp 6] [[.z]])))) none))):=by kernel_rfl
theorem Cv (N:Nat) (p:Pt) (x1 x6 x7:Int) (l15:LI) (x16 x17:Int) (again:St→DH) (k:Out→St→DH):E4 (KC N) (DE M2 [1,1,0,1,0,0]) (QY p x1 x6 x7 l15 x16 x17) (EO again ⟨[1,5,6,7,15,16,17],[5],[]⟩ k)=(cond (decide (x17 < x16)) (cond (decide (0≤x17)&&decide (x17 < ic (AG l15))) (cond (IV.toInt (IV.cell (AI l15 (AD x17) default) 0)==x1) (again (QY p x1 x6 (AA AB (x7+GO (IV.toList (IV.cell (AI l15 (AD x17) default) 1)) p)) l15 x16 (AA AB (x17+1)))) (again (QY p x1 x6 x7 l15 x16 (AA AB (x17+1))))) none) (k (.exit 0) (QY p x1 x6 x7 l15 x16 x17))):=by kernel_rfl
theorem Nn (N:Nat) (p:Pt) (x1 x6 x7:Int) (l15:LI) (x16 x17:Int):(DK 0 (DM (KC N) (DE M2 [1,1,1]) (DP (KC N) none [.tmp 6] [[.z]]))) (.exit 0) (QY p x1 x6 x7 l15 x16 x17)=(some ((.i x7),[])):=by kernel_rfl
def Hc (N:Nat):Env:=DZ [(53,K3),(159,YO)] [] 24 N
theorem Xy (N:Nat) (m:Md) (u00:Int) (p:Pt):DS (Hc N) rH [.tmp 6] [[.z]] [(Md.V m),.i u00,(Pt.V p)]=(cond (!EQ m) (some ((.i 0),[])) (cond (decide (u00 < 0)) (some ((.i 0),[])) (cond (decide (u00≥Md.c m)) (some ((.i 0),[])) (cond (EQ m&&HO m u00) (some ((.i (NY u00 p (Md.ts m) (KF m u00))),[])) none)))):=by kernel_rfl
def Fz (N:Nat):Env:=DZ [(155,TE)] [(2,⟨[2,5,6],[],[]⟩)] 12 N
def Gb (N:Nat):Env:=DZ [] [(3,⟨[1,2,3,5],[1,2,3],[]⟩)] 16 N
open Go Go.Proofs
def MA (N:Nat):Env:=eH [(53,K3),(55,K4)] [(202,dO),(201,dQ)] [(5,⟨[1,4,5,16,17,18],[500],[⟨.tmp 5,500,3,false,[.z]⟩]⟩),(8,⟨[1,4,5,16,17,18,23,24,25],[500],[⟨.tmp 5,500,3,false,[.z]⟩]⟩)] 54 N
abbrev XD (x1:Int) (n5:Nat) (l16:LI) (x17 x18:Int) (u00:LI):St:=⟨[(1,(.i x1)),(4,.zs),(5,(.row 500 0 n5)),(16,(.list true LA l16)),(17,(.i x17)),(18,(.i x18))],[(500,(some (.row true 3 false [.z] u00)))]⟩
abbrev SS (x1:Int) (n5:Nat) (l16:LI) (x17 x18:Int) (l23:LI) (x24 x25:Int) (u00:LI):St:=⟨[(1,(.i x1)),(4,.zs),(5,(.row 500 0 n5)),(16,(.list true LA l16)),(17,(.i x17)),(18,(.i x18)),(23,(.list false [.int .u64] l23)),(24,(.i x24)),(25,(.i x25))],[(500,(some (.row true 3 false [.z] u00)))]⟩
theorem Yb (N:Nat) (m:Md) (u00:Int):DS (MA N) M1 [.tmp 4] [] [(Md.V m),.i u00]=(cond (!EQ m) (some (.any,[])) (DT (MA N) (DE M1 [1,1,1,0,1,0,0]) ⟨[1,4,5,16,17,18],[500],[⟨(.tmp 5),500,3,false,[.z]⟩]⟩ N (XD u00 0 (Md.ts m) (ic (AG (Md.ts m))) 0 []) (DK 0 (DM (MA N) (DE M1 [1,1,1,1]) (DP (MA N) none [.tmp 4] []))))):=by kernel_rfl
theorem Ct (N:Nat) (x1:Int) (n5:Nat) (l16:LI) (x17 x18:Int) (u00:LI) (again:St→DH) (k:Out→St→DH):E4 (MA N) (DE M1 [1,1,1,0,1,0,0]) (XD x1 n5 l16 x17 x18 u00) (EO again ⟨[1,4,5,16,17,18],[500],[⟨(.tmp 5),500,3,false,[.z]⟩]⟩ k)=(cond (decide (x18 < x17)) (cond (decide (0≤x18)&&decide (x18 < ic (AG l16))) (DT (MA N) (DE M1 [1,1,1,0,1,0,0,1,1,0,0,1,1,0,0]) ⟨[1,4,5,16,17,18,23,24,25],[500],[⟨(.tmp 5),500,3,false,[.z]⟩]⟩ N (SS x1 n5 l16 x17 x18 (IV.toList (IV.cell (AI l16 (AD x18) default) 1)) (ic (AG (IV.toList (IV.cell (AI l16 (AD x18) default) 1)))) 0 u00) (DK 2 (DK 1 (DM (MA N) (DE M1 [1,1,1,0,1,0,0,1,1,1]) (EO again ⟨[1,4,5,16,17,18],[500],[⟨(.tmp 5),500,3,false,[.z]⟩]⟩ k))))) none) (k (.exit 0) (XD x1 n5 l16 x17 x18 u00))):=by kernel_rfl
theorem Cu (N:Nat) (x1:Int) (n5:Nat) (l16:LI) (x17 x18:Int) (l23:LI) (x24 x25:Int) (u00:LI) (again:St→DH) (k:Out→St→DH):E4 (MA N) (DE M1 [1,1,1,0,1,0,0,1,1,0,0,1,1,0,0]) (SS x1 n5 l16 x17 x18 l23 x24 x25 u00) (EO again ⟨[1,4,5,16,17,18,23,24,25],[500],[⟨(.tmp 5),500,3,false,[.z]⟩]⟩ k)=(cond (decide (x25 < x24)) (cond (decide (0≤x25)&&decide (x25 < ic (AG l23))) (cond (!Nd.lf (DF (IV.toInt (AI l23 (AD x25) default)))) (cond (Nd.f (DF (IV.toInt (AI l23 (AD x25) default)))==x1) (cond (decide ((n5+1)*8≤D6)) (again (SS x1 (n5+1) l16 x17 x18 l23 x24 (AA AB (x25+1)) (AK n5 u00++[IV.int (Nd.a (DF (IV.toInt (AI l23 (AD x25) default))))]))) none) (again (SS x1 n5 l16 x17 x18 l23 x24 (AA AB (x25+1)) u00))) (again (SS x1 n5 l16 x17 x18 l23 x24 (AA AB (x25+1)) u00))) none) (k (.exit 2) (SS x1 n5 l16 x17 x18 l23 x24 x25 u00))):=by kernel_rfl
theorem Nl (N:Nat) (x1:Int) (n5:Nat) (l16:LI) (x17 x18:Int) (u00:LI):(DK 0 (DM (MA N) (DE M1 [1,1,1,1]) (DP (MA N) none [.tmp 4] []))) (.exit 0) (XD x1 n5 l16 x17 x18 u00)=(cond (BI n5 (AG u00)) (cond (BI (AG (iZ (JW (A5 IV.toInt u00)))) (AG u00)) (cond (BI n5 (AG (iZ (JW (A5 IV.toInt u00))))) (cond (BW (AG (iZ (JA (A5 IV.toInt (iZ (JW (A5 IV.toInt u00))))))) (AG (iZ (JW (A5 IV.toInt u00))))) (some ((.vec 3 false [.z] (AK (AG (iZ (JA (A5 IV.toInt (iZ (JW (A5 IV.toInt u00))))))) (iZ (JA (A5 IV.toInt (iZ (JW (A5 IV.toInt u00)))))))),[])) none) none) none) none):=by kernel_rfl
theorem Nm (N:Nat) (again:St→DH) (k:Out→St→DH) (x1:Int) (n5:Nat) (l16:LI) (x17 x18:Int) (l23:LI) (x24 x25:Int) (u00:LI):(DK 2 (DK 1 (DM (MA N) (DE M1 [1,1,1,0,1,0,0,1,1,1]) (EO again ⟨[1,4,5,16,17,18],[500],[⟨(.tmp 5),500,3,false,[.z]⟩]⟩ k)))) (.exit 2) (SS x1 n5 l16 x17 x18 l23 x24 x25 u00)=(again (XD x1 n5 l16 x17 (AA AB (x18+1)) u00)):=by kernel_rfl
def Gz (N:Nat):Env:=DZ [] [] 23 N
theorem Xt (N:Nat) (q:Qy) (u00:Int):DS (Gz N) rE [.tmp 4] [[.z]] [(Qy.V q),.i u00]=(cond (decide (u00≥0)) (cond (decide (u00 < 4)) (some ((.i u00),[])) (cond (u00==4) (cond (Qy.k q==3) (some ((.i (Qy.ft q)),[])) (some ((.i (-1)),[]))) (some ((.i (-1)),[])))) (cond (u00==4) (cond (Qy.k q==3) (some ((.i (Qy.ft q)),[])) (some ((.i (-1)),[]))) (some ((.i (-1)),[])))):=by kernel_rfl
def oV (N:Nat):Env:=eH [(166,YI),(168,YN)] [(167,dP)] [] 24 N
def Ho (N:Nat):Env:=DZ [] [] 71 N
theorem Yq (N:Nat) (m:Md) (a1:Qy):DS (Ho N) rT [.tmp 4] [[.bool]] [(Md.V m),(Qy.V a1)]=(cond (Qy.k a1==1) (cond (decide (Qy.lo a1≤Qy.hi a1)) (cond (Qy.ft a1==0) (some ((.bool (!Qy.fl a1)),[])) (some ((.bool false),[]))) (some ((.bool false),[]))) (cond (Qy.k a1==2) (cond (decide (Md.c m≥2)) (cond (Qy.lo a1==0) (cond (Qy.hi a1==0) (cond (Qy.ft a1==0) (some ((.bool (!Qy.fl a1)),[])) (some ((.bool false),[]))) (some ((.bool false),[]))) (some ((.bool false),[]))) (some ((.bool false),[]))) (cond (Qy.k a1==3) (cond (decide (Qy.ft a1≥0)) (cond (decide (Qy.ft a1 < Md.d m)) (cond (Qy.lo a1==0) (some ((.bool (Qy.hi a1==0)),[])) (some ((.bool false),[]))) (some ((.bool false),[]))) (some ((.bool false),[]))) (some ((.bool false),[]))))):=by kernel_rfl
def Hl (N:Nat):Env:=DZ [(53,K3),(108,YX),(107,YY)] [] 41 N
theorem Yn (N:Nat) (m:Md) (q:Qy):DS (Hl N) rQ [.tmp 4] [[.bool]] [(Md.V m),(Qy.V q)]=(cond (EQ m) (cond (decide (Qy.c q≥0)) (cond (decide (Qy.c q < Md.c m)) (cond (decide (Qy.bu q≥0)) (cond (decide (Qy.bu q≤65536)) (cond (QK {s0:={lo:=Qy.a0 q,hi:=Qy.b0 q},s1:={lo:=Qy.a1 q,hi:=Qy.b1 q},s2:={lo:=Qy.a2 q,hi:=Qy.b2 q},s3:={lo:=Qy.a3 q,hi:=Qy.b3 q},s4:={lo:=Qy.a4 q,hi:=Qy.b4 q}} (Md.d m)) (some ((.bool (RR m q)),[])) (some ((.bool false),[]))) (some ((.bool false),[]))) (some ((.bool false),[]))) (some ((.bool false),[]))) (some ((.bool false),[]))) (some ((.bool false),[]))):=by kernel_rfl
def Hp (N:Nat):Env:=DZ [] [] 16 N
theorem Yr (N:Nat) (q:Qy):DS (Hp N) rU [.tmp 2] [[.bool]] [(Qy.V q)]=(cond (Qy.k q==3) (cond (decide (Qy.ft q≥0)) (some ((.bool (decide (Qy.ft q < 4))),[])) (some ((.bool false),[]))) (some ((.bool false),[]))):=by kernel_rfl
def Hn (N:Nat):Env:=DZ [(109,TC)] [] 16 N
theorem Yp (N:Nat) (q:Qy):DS (Hn N) rS [.cell 2 36] [[.z,.z,.z,.z,.z,.z,.z,.z,.z,.z]] [(Qy.V q)]=(cond (GM q) (cond (decide (Qy.ft q=ic 0)) (some ((.agg [.i (Qy.a0 q),.i (Qy.b0 q),.i (Qy.a1 q),.i (Qy.b1 q),.i (Qy.a2 q),.i (Qy.b2 q),.i (Qy.a3 q),.i (Qy.b3 q),.i (Qy.a0 q),.i (Qy.b0 q)]),[])) (cond (decide (Qy.ft q=ic 1)) (some ((.agg [.i (Qy.a0 q),.i (Qy.b0 q),.i (Qy.a1 q),.i (Qy.b1 q),.i (Qy.a2 q),.i (Qy.b2 q),.i (Qy.a3 q),.i (Qy.b3 q),.i (Qy.a1 q),.i (Qy.b1 q)]),[])) (cond (decide (Qy.ft q=ic 2)) (some ((.agg [.i (Qy.a0 q),.i (Qy.b0 q),.i (Qy.a1 q),.i (Qy.b1 q),.i (Qy.a2 q),.i (Qy.b2 q),.i (Qy.a3 q),.i (Qy.b3 q),.i (Qy.a2 q),.i (Qy.b2 q)]),[])) (cond (decide (Qy.ft q=ic 3)) (some ((.agg [.i (Qy.a0 q),.i (Qy.b0 q),.i (Qy.a1 q),.i (Qy.b1 q),.i (Qy.a2 q),.i (Qy.b2 q),.i (Qy.a3 q),.i (Qy.b3 q),.i (Qy.a3 q),.i (Qy.b3 q)]),[])) (cond (decide (Qy.ft q=ic 4)) (some ((.agg [.i (Qy.a0 q),.i (Qy.b0 q),.i (Qy.a1 q),.i (Qy.b1 q),.i (Qy.a2 q),.i (Qy.b2 q),.i (Qy.a3 q),.i (Qy.b3 q),.i 0,.i 0]),[])) none))))) (some ((.agg [.i (Qy.a0 q),.i (Qy.b0 q),.i (Qy.a1 q),.i (Qy.b1 q),.i (Qy.a2 q),.i (Qy.b2 q),.i (Qy.a3 q),.i (Qy.b3 q),.i 0,.i 0]),[]))):=by kernel_rfl
def Hm (N:Nat):Env:=DZ [(109,TC)] [] 14 N
theorem Yo (N:Nat) (q:Qy) (p:Pt) (twin:Int):DS (Hm N) rR [.cell 6 53] [[.z,.z,.z,.z]] [(Qy.V q),(Pt.V p),.i twin]=(cond (GM q) (cond (decide (Qy.ft q=ic 0)) (some ((.agg [.i twin,.i (Pt.p1 p),.i (Pt.p2 p),.i (Pt.p3 p)]),[])) (cond (decide (Qy.ft q=ic 1)) (some ((.agg [.i (Pt.p0 p),.i twin,.i (Pt.p2 p),.i (Pt.p3 p)]),[])) (cond (decide (Qy.ft q=ic 2)) (some ((.agg [.i (Pt.p0 p),.i (Pt.p1 p),.i twin,.i (Pt.p3 p)]),[])) (cond (decide (Qy.ft q=ic 3)) (some ((.agg [.i (Pt.p0 p),.i (Pt.p1 p),.i (Pt.p2 p),.i twin]),[])) none)))) (some ((Pt.V p),[]))):=by kernel_rfl
def KD (N:Nat):Env:=DZ [(115,YM),(65,MB),(116,YW),(114,TF)] [(9,⟨[4,5,6,8,9,36,37],[4,5,6],[]⟩)] 75 N
abbrev QZ (m:Md) (a1:Qy) (a2:Pt) (b8:Bool) (x9 x36 x37:Int):St:=⟨[(4,(.ptr 4 0 0)),(5,(.ptr 5 0 0)),(6,(.ptr 6 0 0)),(8,(.bool b8)),(9,(.i x9)),(36,(.i x36)),(37,(.i x37))],[(4,(some (.box (Md.cs m)))),(5,(some (.box (Qy.cs a1)))),(6,(some (.box (Pt.cs a2))))]⟩
theorem Ym (N:Nat) (m:Md) (a1:Qy) (a2:Pt) (a3:Int):DS (KD N) MF [.tmp 8] [[.bool]] [(Md.V m),(Qy.V a1),(Pt.V a2),.i a3]=(cond (!E6 m a1) (some ((.bool false),[])) (cond (Qy.k a1==1) (some ((.bool (!Sp.has {lo:=Qy.lo a1,hi:=Qy.hi a1} (EB m (Qy.c a1) a2))),[])) (cond (Qy.k a1==2) (DT (KD N) (DE MF [1,1,1,0,1,0,1,1,1,0,0,1,0,0]) ⟨[4,5,6,8,9,36,37],[4,5,6],[]⟩ N (QZ m a1 a2 false (EB m (Qy.c a1) a2) (Md.c m) 0) (DK 1 (DM (KD N) (DE MF [1,1,1,0,1,0,1,1,1,0,1]) (DK 0 (DM (KD N) (DE MF [1,1,1,1]) (DP (KD N) none [.tmp 8] [[.bool]])))))) (cond (decide (Qy.ft a1=ic 0)) (cond (decide (Pt.p0 a2≥a3)) (some ((.bool false),[])) (cond (Qy.fl a1) (some ((.bool (decide (EB m (Qy.c a1) (IG a1 a2 a3) > EB m (Qy.c a1) a2))),[])) (some ((.bool (decide (EB m (Qy.c a1) (IG a1 a2 a3) < EB m (Qy.c a1) a2))),[])))) (cond (decide (Qy.ft a1=ic 1)) (cond (decide (Pt.p1 a2≥a3)) (some ((.bool false),[])) (cond (Qy.fl a1) (some ((.bool (decide (EB m (Qy.c a1) (IG a1 a2 a3) > EB m (Qy.c a1) a2))),[])) (some ((.bool (decide (EB m (Qy.c a1) (IG a1 a2 a3) < EB m (Qy.c a1) a2))),[])))) (cond (decide (Qy.ft a1=ic 2)) (cond (decide (Pt.p2 a2≥a3)) (some ((.bool false),[])) (cond (Qy.fl a1) (some ((.bool (decide (EB m (Qy.c a1) (IG a1 a2 a3) > EB m (Qy.c a1) a2))),[])) (some ((.bool (decide (EB m (Qy.c a1) (IG a1 a2 a3) < EB m (Qy.c a1) a2))),[])))) (cond (decide (Qy.ft a1=ic 3)) (cond (decide (Pt.p3 a2≥a3)) (some ((.bool false),[])) (cond (Qy.fl a1) (some ((.bool (decide (EB m (Qy.c a1) (IG a1 a2 a3) > EB m (Qy.c a1) a2))),[])) (some ((.bool (decide (EB m (Qy.c a1) (IG a1 a2 a3) < EB m (Qy.c a1) a2))),[])))) none))))))):=by kernel_rfl
theorem Cy (N:Nat) (m:Md) (a1:Qy) (a2:Pt) (b8:Bool) (x9 x36 x37:Int) (again:St→DH) (k:Out→St→DH):E4 (KD N) (DE MF [1,1,1,0,1,0,1,1,1,0,0,1,0,0]) (QZ m a1 a2 b8 x9 x36 x37) (EO again ⟨[4,5,6,8,9,36,37],[4,5,6],[]⟩ k)=(cond (decide (x37 < x36)) (cond (x37 != Qy.c a1) (cond (decide (EB m x37 a2≥x9)) (k .ret (QZ m a1 a2 true x9 x36 x37)) (again (QZ m a1 a2 b8 x9 x36 (AA AB (x37+1))))) (again (QZ m a1 a2 b8 x9 x36 (AA AB (x37+1))))) (k (.exit 1) (QZ m a1 a2 b8 x9 x36 x37))):=by kernel_rfl
theorem Nr (N:Nat) (m:Md) (a1:Qy) (a2:Pt) (b8:Bool) (x9 x36 x37:Int):(DK 1 (DM (KD N) (DE MF [1,1,1,0,1,0,1,1,1,0,1]) (DK 0 (DM (KD N) (DE MF [1,1,1,1]) (DP (KD N) none [.tmp 8] [[.bool]]))))) (.exit 1) (QZ m a1 a2 b8 x9 x36 x37)=(some ((.bool false),[])):=by kernel_rfl
theorem Nt (N:Nat) (m:Md) (a1:Qy) (a2:Pt) (b8:Bool) (x9 x36 x37:Int):(DK 1 (DM (KD N) (DE MF [1,1,1,0,1,0,1,1,1,0,1]) (DK 0 (DM (KD N) (DE MF [1,1,1,1]) (DP (KD N) none [.tmp 8] [[.bool]]))))) .ret (QZ m a1 a2 b8 x9 x36 x37)=(some ((.bool b8),[])):=by kernel_rfl
def Hq (N:Nat):Env:=DZ [(93,PT),(155,TE)] [(2,⟨[1,4,7,8],[],[]⟩)] 35 N
open Go Go.Proofs
def OO (N:Nat):Env:=DZ [(111,NK),(112,J0),(55,K4),(96,TO)] [(7,⟨[4,5,6,24,25,26],[20,500],[⟨.tmp 6,500,275,true,[.z,.z,.z,.z,.z,.z,.z,.z,.z,.z,.z]⟩]⟩)] 79 N
abbrev SR (n5 n6:Nat) (l24:LI) (x25 x26:Int) (lo20 u00:LI):St:=⟨[(4,.zs),(5,(.row 20 0 n5)),(6,(.row 500 0 n6)),(24,(.list false [.int .u64] l24)),(25,(.i x25)),(26,(.i x26))],[(20,(some (.row true 36 true EV lo20))),(500,(some (.row true 275 true K9 u00)))]⟩
theorem Xx (N:Nat) (l:LI) (a1:Bx):DS (OO N) RG [.tmp 4] [[.list true [.z,.z,.z,.z,.z,.z,.z,.z,.z,.z,.z]]] [.list false [.int .u64] l,(Bx.V a1)]=(cond (!GC l 4) (some ((.list true K9 []),[])) (cond (Bx.emp a1) (some ((.list true K9 []),[])) (cond (true&&(true&&decide (0≤ic (AG l)))&&(decide (ic (AG l)=ic (AG l))&&decide (ic (AG l)*ic 80≤ic D6))) (cond (decide (0≤0)&&decide (0 < ic (AD (ic (AG l)) - 0))) (DT (OO N) (DE RG [1,1,1,1,1,0,1,0,0]) ⟨[4,5,6,24,25,26],[20,500],[⟨(.tmp 6),500,275,true,K9⟩]⟩ N (SR (AD (ic (AG l))) 0 l (ic (AG l)) 0 (List.set (BG (AD (ic (AG l))) (IV.agg [IV.int 0,IV.int 0,IV.int 0,IV.int 0,IV.int 0,IV.int 0,IV.int 0,IV.int 0,IV.int 0,IV.int 0])) 0 (Bx.I a1)) []) (DK 0 (DM (OO N) (DE RG [1,1,1,1,1,1]) (DP (OO N) none [.tmp 4] [[.list true K9]])))) none) none))):=by kernel_rfl
theorem Cr (N n5 n6:Nat) (l24:LI) (x25 x26:Int) (lo20 u00:LI) (again:St→DH) (k:Out→St→DH):E4 (OO N) (DE RG [1,1,1,1,1,0,1,0,0]) (SR n5 n6 l24 x25 x26 lo20 u00) (EO again ⟨[4,5,6,24,25,26],[20,500],[⟨(.tmp 6),500,275,true,K9⟩]⟩ k)=(cond (decide (x26 < x25)) (cond (decide (0≤x26)&&decide (x26 < ic (AG l24))) (cond (!Nd.lf (DF (IV.toInt (AI l24 (AD x26) default)))) (cond (decide (0≤x26)&&decide (x26 < ic (n5 - 0))) (cond (HG (Nd.f (DF (IV.toInt (AI l24 (AD x26) default))))) (cond (decide (0≤Nd.l (DF (IV.toInt (AI l24 (AD x26) default))))&&decide (Nd.l (DF (IV.toInt (AI l24 (AD x26) default))) < ic (n5 - 0))) (cond (decide (0≤Nd.r (DF (IV.toInt (AI l24 (AD x26) default))))&&decide (Nd.r (DF (IV.toInt (AI l24 (AD x26) default))) < ic (n5 - 0))) (again (SR n5 n6 l24 x25 (AA AB (x26+1)) (List.set (List.set lo20 (0+AD (Nd.l (DF (IV.toInt (AI l24 (AD x26) default))))) (Bx.I (Bx.cutL (DW (AI lo20 (0+AD x26) default)) (Nd.f (DF (IV.toInt (AI l24 (AD x26) default)))) (Nd.a (DF (IV.toInt (AI l24 (AD x26) default))))))) (0+AD (Nd.r (DF (IV.toInt (AI l24 (AD x26) default))))) (Bx.I (Bx.cutH (DW (AI lo20 (0+AD x26) default)) (Nd.f (DF (IV.toInt (AI l24 (AD x26) default)))) (Nd.a (DF (IV.toInt (AI l24 (AD x26) default))))))) u00)) none) none) none) none) (cond (decide (0≤x26)&&decide (x26 < ic (n5 - 0))) (cond (!Bx.emp (DW (AI lo20 (0+AD x26) default))) (cond (decide (0≤x26)&&decide (x26 < ic (n5 - 0))) (cond (decide ((n6+1)*88≤D6)) (again (SR n5 (n6+1) l24 x25 (AA AB (x26+1)) lo20 (AK n6 u00++[(aO (DW (AI lo20 (0+AD x26) default)) (Nd.v (DF (IV.toInt (AI l24 (AD x26) default)))))]))) none) none) (again (SR n5 n6 l24 x25 (AA AB (x26+1)) lo20 u00))) none)) none) (k (.exit 0) (SR n5 n6 l24 x25 x26 lo20 u00))):=by kernel_rfl
theorem Ni (N n5 n6:Nat) (l24:LI) (x25 x26:Int) (lo20 u00:LI):(DK 0 (DM (OO N) (DE RG [1,1,1,1,1,1]) (DP (OO N) none [.tmp 4] [[.list true K9]]))) (.exit 0) (SR n5 n6 l24 x25 x26 lo20 u00)=(some ((.list true K9 (AR 0 (AK n6 u00))),[])):=by kernel_rfl
def OL (N:Nat):Env:=DZ [(218,YL)] [(6,⟨[4,5,6,8,9,26,27,28],[],[]⟩)] 43 N
abbrev XA (x4 x5:Int) (b6:Bool) (x8 x9:Int) (l26:LI) (x27 x28:Int):St:=⟨[(4,(.i x4)),(5,(.i x5)),(6,(.bool b6)),(8,(.i x8)),(9,(.i x9)),(26,(.list true K9 l26)),(27,(.i x27)),(28,(.i x28))],[]⟩
theorem Wj (N:Nat) (l:LI) (b:Bx):DS (OL N) RC [.tmp 4,.tmp 5,.tmp 6] [[.z],[.z],[.bool]] [.list false [.int .u64] l,(Bx.V b)]=(cond (ic (AG (H1 l b))==0) (some ((.tup [.i 0,.i 0,.bool false]),[])) (cond (decide (0≤0)&&decide (0 < ic (AG (H1 l b)))) (cond (decide (0≤0)&&decide (0 < ic (AG (H1 l b)))) (DT (OL N) (DE RC [1,1,1,1,0,1,0,0]) ⟨[4,5,6,8,9,26,27,28],[],[]⟩ N (XA 0 0 false (IV.toInt (IV.cell (AI (H1 l b) (AD 0) default) 10)) (IV.toInt (IV.cell (AI (H1 l b) (AD 0) default) 10)) (H1 l b) (ic (AG (H1 l b))) 0) (DK 0 (DM (OL N) (DE RC [1,1,1,1,1]) (DP (OL N) none [.tmp 4,.tmp 5,.tmp 6] [[.z],[.z],[.bool]])))) none) none)):=by kernel_rfl
theorem Ca (N:Nat) (x4 x5:Int) (b6:Bool) (x8 x9:Int) (l26:LI) (x27 x28:Int) (again:St→DH) (k:Out→St→DH):E4 (OL N) (DE RC [1,1,1,1,0,1,0,0]) (XA x4 x5 b6 x8 x9 l26 x27 x28) (EO again ⟨[4,5,6,8,9,26,27,28],[],[]⟩ k)=(cond (decide (x28 < x27)) (cond (decide (0≤x28)&&decide (x28 < ic (AG l26))) (again (XA x4 x5 b6 (min x8 (IV.toInt (IV.cell (AI l26 (AD x28) default) 10))) (max x9 (IV.toInt (IV.cell (AI l26 (AD x28) default) 10))) l26 x27 (AA AB (x28+1)))) none) (k (.exit 0) (XA x4 x5 b6 x8 x9 l26 x27 x28))):=by kernel_rfl
theorem Mk (N:Nat) (x4 x5:Int) (b6:Bool) (x8 x9:Int) (l26:LI) (x27 x28:Int):(DK 0 (DM (OL N) (DE RC [1,1,1,1,1]) (DP (OL N) none [.tmp 4,.tmp 5,.tmp 6] [[.z],[.z],[.bool]]))) (.exit 0) (XA x4 x5 b6 x8 x9 l26 x27 x28)=(some ((.tup [.i x8,.i x9,.bool true]),[])):=by kernel_rfl
def GD (N:Nat):Env:=DZ [(196,XR),(112,J0),(53,K3)] [(5,⟨[1,5,6,7,8,9,10,42,43,44],[5],[]⟩)] 69 N
abbrev LN (a2:Bx) (x1 x6 x7:Int) (b8:Bool) (x9 x10:Int) (l42:LI) (x43 x44:Int):St:=⟨[(1,(.i x1)),(5,(.ptr 5 0 0)),(6,(.i x6)),(7,(.i x7)),(8,(.bool b8)),(9,(.i x9)),(10,(.i x10)),(42,(.list true LA l42)),(43,(.i x43)),(44,(.i x44))],[(5,(some (.box (Bx.cs a2))))]⟩
theorem Wi (N:Nat) (m:Md) (a1:Int) (a2:Bx):DS (GD N) HX [.tmp 6,.tmp 7,.tmp 8] [[.z],[.z],[.bool]] [(Md.V m),.i a1,(Bx.V a2)]=(cond (!EQ m) (some ((.tup [.i 0,.i 0,.bool false]),[])) (cond (decide (a1 < 0)) (some ((.tup [.i 0,.i 0,.bool false]),[])) (cond (decide (a1≥Md.c m)) (some ((.tup [.i 0,.i 0,.bool false]),[])) (cond (Bx.emp a2) (some ((.tup [.i 0,.i 0,.bool false]),[])) (cond (decide (a1=ic 0)) (cond (decide (a1=ic 0)) (DT (GD N) (DE HX [1,1,1,0,1,0,0]) ⟨[1,5,6,7,8,9,10,42,43,44],[5],[]⟩ N (LN a2 a1 0 0 false (Md.b0 m) (Md.b0 m) (Md.ts m) (ic (AG (Md.ts m))) 0) (DK 0 (DM (GD N) (DE HX [1,1,1,1]) (DP (GD N) none [.tmp 6,.tmp 7,.tmp 8] [[.z],[.z],[.bool]])))) (cond (decide (a1=ic 1)) (DT (GD N) (DE HX [1,1,1,0,1,0,0]) ⟨[1,5,6,7,8,9,10,42,43,44],[5],[]⟩ N (LN a2 a1 0 0 false (Md.b0 m) (Md.b1 m) (Md.ts m) (ic (AG (Md.ts m))) 0) (DK 0 (DM (GD N) (DE HX [1,1,1,1]) (DP (GD N) none [.tmp 6,.tmp 7,.tmp 8] [[.z],[.z],[.bool]])))) (cond (decide (a1=ic 2)) (DT (GD N) (DE HX [1,1,1,0,1,0,0]) ⟨[1,5,6,7,8,9,10,42,43,44],[5],[]⟩ N (LN a2 a1 0 0 false (Md.b0 m) (Md.b2 m) (Md.ts m) (ic (AG (Md.ts m))) 0) (DK 0 (DM (GD N) (DE HX [1,1,1,1]) (DP (GD N) none [.tmp 6,.tmp 7,.tmp 8] [[.z],[.z],[.bool]])))) none))) (cond (decide (a1=ic 1)) (cond (decide (a1=ic 0)) (DT (GD N) (DE HX [1,1,1,0,1,0,0]) ⟨[1,5,6,7,8,9,10,42,43,44],[5],[]⟩ N (LN a2 a1 0 0 false (Md.b1 m) (Md.b0 m) (Md.ts m) (ic (AG (Md.ts m))) 0) (DK 0 (DM (GD N) (DE HX [1,1,1,1]) (DP (GD N) none [.tmp 6,.tmp 7,.tmp 8] [[.z],[.z],[.bool]])))) (cond (decide (a1=ic 1)) (DT (GD N) (DE HX [1,1,1,0,1,0,0]) ⟨[1,5,6,7,8,9,10,42,43,44],[5],[]⟩ N (LN a2 a1 0 0 false (Md.b1 m) (Md.b1 m) (Md.ts m) (ic (AG (Md.ts m))) 0) (DK 0 (DM (GD N) (DE HX [1,1,1,1]) (DP (GD N) none [.tmp 6,.tmp 7,.tmp 8] [[.z],[.z],[.bool]])))) (cond (decide (a1=ic 2)) (DT (GD N) (DE HX [1,1,1,0,1,0,0]) ⟨[1,5,6,7,8,9,10,42,43,44],[5],[]⟩ N (LN a2 a1 0 0 false (Md.b1 m) (Md.b2 m) (Md.ts m) (ic (AG (Md.ts m))) 0) (DK 0 (DM (GD N) (DE HX [1,1,1,1]) (DP (GD N) none [.tmp 6,.tmp 7,.tmp 8] [[.z],[.z],[.bool]])))) none))) (cond (decide (a1=ic 2)) (cond (decide (a1=ic 0)) (DT (GD N) (DE HX [1,1,1,0,1,0,0]) ⟨[1,5,6,7,8,9,10,42,43,44],[5],[]⟩ N (LN a2 a1 0 0 false (Md.b2 m) (Md.b0 m) (Md.ts m) (ic (AG (Md.ts m))) 0) (DK 0 (DM (GD N) (DE HX [1,1,1,1]) (DP (GD N) none [.tmp 6,.tmp 7,.tmp 8] [[.z],[.z],[.bool]])))) (cond (decide (a1=ic 1)) (DT (GD N) (DE HX [1,1,1,0,1,0,0]) ⟨[1,5,6,7,8,9,10,42,43,44],[5],[]⟩ N (LN a2 a1 0 0 false (Md.b2 m) (Md.b1 m) (Md.ts m) (ic (AG (Md.ts m))) 0) (DK 0 (DM (GD N) (DE HX [1,1,1,1]) (DP (GD N) none [.tmp 6,.tmp 7,.tmp 8] [[.z],[.z],[.bool]])))) (cond (decide (a1=ic 2)) (DT (GD N) (DE HX [1,1,1,0,1,0,0]) ⟨[1,5,6,7,8,9,10,42,43,44],[5],[]⟩ N (LN a2 a1 0 0 false (Md.b2 m) (Md.b2 m) (Md.ts m) (ic (AG (Md.ts m))) 0) (DK 0 (DM (GD N) (DE HX [1,1,1,1]) (DP (GD N) none [.tmp 6,.tmp 7,.tmp 8] [[.z],[.z],[.bool]])))) none))) none))))))):=by kernel_rfl
theorem Bz (N:Nat) (a2:Bx) (x1 x6 x7:Int) (b8:Bool) (x9 x10:Int) (l42:LI) (x43 x44:Int) (again:St→DH) (k:Out→St→DH):E4 (GD N) (DE HX [1,1,1,0,1,0,0]) (LN a2 x1 x6 x7 b8 x9 x10 l42 x43 x44) (EO again ⟨[1,5,6,7,8,9,10,42,43,44],[5],[]⟩ k)=(cond (decide (x44 < x43)) (cond (decide (0≤x44)&&decide (x44 < ic (AG l42))) (cond (IV.toInt (IV.cell (AI l42 (AD x44) default) 0) != x1) (again (LN a2 x1 x6 x7 b8 x9 x10 l42 x43 (AA AB (x44+1)))) (again (LN a2 x1 x6 x7 b8 (AA AB (x9+HL (IV.toList (IV.cell (AI l42 (AD x44) default) 1)) a2)) (AA AB (x10+HK (IV.toList (IV.cell (AI l42 (AD x44) default) 1)) a2)) l42 x43 (AA AB (x44+1))))) none) (k (.exit 0) (LN a2 x1 x6 x7 b8 x9 x10 l42 x43 x44))):=by kernel_rfl
theorem Mj (N:Nat) (a2:Bx) (x1 x6 x7:Int) (b8:Bool) (x9 x10:Int) (l42:LI) (x43 x44:Int):(DK 0 (DM (GD N) (DE HX [1,1,1,1]) (DP (GD N) none [.tmp 6,.tmp 7,.tmp 8] [[.z],[.z],[.bool]]))) (.exit 0) (LN a2 x1 x6 x7 b8 x9 x10 l42 x43 x44)=(some ((.tup [.i x9,.i x10,.bool true]),[])):=by kernel_rfl
def OK (N:Nat):Env:=DZ [(162,PV)] [(6,⟨[1,3,5,6,7,8,11,12,33,34],[3,5],[]⟩)] 62 N
abbrev QV (m:Md) (b:Bx) (x1 x6:Int) (b7:Bool) (x8 x11:Int) (b12:Bool) (x33 x34:Int):St:=⟨[(1,(.i x1)),(3,(.ptr 3 0 0)),(5,(.ptr 5 0 0)),(6,(.i x6)),(7,(.bool b7)),(8,(.i x8)),(11,(.i x11)),(12,(.bool b12)),(33,(.i x33)),(34,(.i x34))],[(3,(some (.box (Md.cs m)))),(5,(some (.box (Bx.cs b))))]⟩
theorem Wh (N:Nat) (m:Md) (u00:Int) (b:Bx):DS (OK N) RB [.tmp 6,.tmp 7] [[.z],[.bool]] [(Md.V m),.i u00,(Bx.V b)]=(cond (!GL m u00 b) (some ((.tup [.i 0,.bool false]),[])) (cond (decide (Md.c m < 2)) (some ((.tup [.i 0,.bool false]),[])) (DT (OK N) (DE RB [1,1,1,1,0,1,0,0]) ⟨[1,3,5,6,7,8,11,12,33,34],[3,5],[]⟩ N (QV m b u00 0 false (D0 m u00 b) 0 false (Md.c m) 0) (DK 0 (DM (OK N) (DE RB [1,1,1,1,1]) (DP (OK N) none [.tmp 6,.tmp 7] [[.z],[.bool]])))))):=by kernel_rfl
theorem Bw (N:Nat) (m:Md) (b:Bx) (x1 x6:Int) (b7:Bool) (x8 x11:Int) (b12:Bool) (x33 x34:Int) (again:St→DH) (k:Out→St→DH):E4 (OK N) (DE RB [1,1,1,1,0,1,0,0]) (QV m b x1 x6 b7 x8 x11 b12 x33 x34) (EO again ⟨[1,3,5,6,7,8,11,12,33,34],[3,5],[]⟩ k)=(cond (decide (x34 < x33)) (cond (x34==x1) (again (QV m b x1 x6 b7 x8 x11 b12 x33 (AA AB (x34+1)))) (cond (!b12) (again (QV m b x1 x6 b7 x8 (AA AB (x8 - DV m x34 b)) true x33 (AA AB (x34+1)))) (cond (decide (AA AB (x8 - DV m x34 b) < x11)) (again (QV m b x1 x6 b7 x8 (AA AB (x8 - DV m x34 b)) true x33 (AA AB (x34+1)))) (again (QV m b x1 x6 b7 x8 x11 b12 x33 (AA AB (x34+1))))))) (k (.exit 0) (QV m b x1 x6 b7 x8 x11 b12 x33 x34))):=by kernel_rfl
theorem Mi (N:Nat) (m:Md) (b:Bx) (x1 x6:Int) (b7:Bool) (x8 x11:Int) (b12:Bool) (x33 x34:Int):(DK 0 (DM (OK N) (DE RB [1,1,1,1,1]) (DP (OK N) none [.tmp 6,.tmp 7] [[.z],[.bool]]))) (.exit 0) (QV m b x1 x6 b7 x8 x11 b12 x33 x34)=(some ((.tup [.i x11,.bool true]),[])):=by kernel_rfl
def Gq (N:Nat):Env:=DZ [] [] 16 N
theorem Xi (N:Nat) (q:Qy):DS (Gq N) qW [.tmp 2] [[.bool]] [(Qy.V q)]=(cond (Qy.k q==3) (cond (decide (Qy.ft q≥0)) (some ((.bool (decide (Qy.ft q < 4))),[])) (some ((.bool false),[]))) (some ((.bool false),[]))):=by kernel_rfl
def Gm (N:Nat):Env:=DZ [(197,NO)] [] 10 N
theorem Xf (N:Nat) (q:Qy) (b:Bx):DS (Gm N) qT [.cell 4 36] [[.z,.z,.z,.z,.z,.z,.z,.z,.z,.z]] [(Qy.V q),(Bx.V b)]=(cond (GM q) (some ((.agg [.i (Sp.lo (Bx.s0 b)),.i (Sp.hi (Bx.s0 b)),.i (Sp.lo (Bx.s1 b)),.i (Sp.hi (Bx.s1 b)),.i (Sp.lo (Bx.s2 b)),.i (Sp.hi (Bx.s2 b)),.i (Sp.lo (Bx.s3 b)),.i (Sp.hi (Bx.s3 b)),.i 0,.i 0]),[])) (some ((Bx.V b),[]))):=by kernel_rfl
def Gp (N:Nat):Env:=DZ [(197,NO)] [] 15 N
theorem Xh (N:Nat) (q:Qy) (b:Bx):DS (Gp N) qV [.cell 4 36] [[.z,.z,.z,.z,.z,.z,.z,.z,.z,.z]] [(Qy.V q),(Bx.V b)]=(cond (GM q) (cond (decide (Qy.ft q=ic 0)) (some ((.agg [.i (Sp.lo (Bx.s4 b)),.i (Sp.hi (Bx.s4 b)),.i (Sp.lo (Bx.s1 b)),.i (Sp.hi (Bx.s1 b)),.i (Sp.lo (Bx.s2 b)),.i (Sp.hi (Bx.s2 b)),.i (Sp.lo (Bx.s3 b)),.i (Sp.hi (Bx.s3 b)),.i 0,.i 0]),[])) (cond (decide (Qy.ft q=ic 1)) (some ((.agg [.i (Sp.lo (Bx.s0 b)),.i (Sp.hi (Bx.s0 b)),.i (Sp.lo (Bx.s4 b)),.i (Sp.hi (Bx.s4 b)),.i (Sp.lo (Bx.s2 b)),.i (Sp.hi (Bx.s2 b)),.i (Sp.lo (Bx.s3 b)),.i (Sp.hi (Bx.s3 b)),.i 0,.i 0]),[])) (cond (decide (Qy.ft q=ic 2)) (some ((.agg [.i (Sp.lo (Bx.s0 b)),.i (Sp.hi (Bx.s0 b)),.i (Sp.lo (Bx.s1 b)),.i (Sp.hi (Bx.s1 b)),.i (Sp.lo (Bx.s4 b)),.i (Sp.hi (Bx.s4 b)),.i (Sp.lo (Bx.s3 b)),.i (Sp.hi (Bx.s3 b)),.i 0,.i 0]),[])) (cond (decide (Qy.ft q=ic 3)) (some ((.agg [.i (Sp.lo (Bx.s0 b)),.i (Sp.hi (Bx.s0 b)),.i (Sp.lo (Bx.s1 b)),.i (Sp.hi (Bx.s1 b)),.i (Sp.lo (Bx.s2 b)),.i (Sp.hi (Bx.s2 b)),.i (Sp.lo (Bx.s4 b)),.i (Sp.hi (Bx.s4 b)),.i 0,.i 0]),[])) (cond (decide (Qy.ft q=ic 4)) (some ((.agg [.i (Sp.lo (Bx.s0 b)),.i (Sp.hi (Bx.s0 b)),.i (Sp.lo (Bx.s1 b)),.i (Sp.hi (Bx.s1 b)),.i (Sp.lo (Bx.s2 b)),.i (Sp.hi (Bx.s2 b)),.i (Sp.lo (Bx.s3 b)),.i (Sp.hi (Bx.s3 b)),.i 0,.i 0]),[])) none))))) (some ((Bx.V b),[]))):=by kernel_rfl
def Gn (N:Nat):Env:=DZ [(112,J0),(197,NO)] [] 23 N
theorem Xg (N:Nat) (q:Qy) (b:Bx):DS (Gn N) qU [.tmp 4] [[.bool]] [(Qy.V q),(Bx.V b)]=(cond (GM q) (cond (!Bx.emp b) (cond (decide (Qy.ft q=ic 0)) (some ((.bool (decide (Sp.lo (Bx.s0 b) < Sp.hi (Bx.s4 b)))),[])) (cond (decide (Qy.ft q=ic 1)) (some ((.bool (decide (Sp.lo (Bx.s1 b) < Sp.hi (Bx.s4 b)))),[])) (cond (decide (Qy.ft q=ic 2)) (some ((.bool (decide (Sp.lo (Bx.s2 b) < Sp.hi (Bx.s4 b)))),[])) (cond (decide (Qy.ft q=ic 3)) (some ((.bool (decide (Sp.lo (Bx.s3 b) < Sp.hi (Bx.s4 b)))),[])) (cond (decide (Qy.ft q=ic 4)) (some ((.bool (decide (Sp.lo (Bx.s4 b) < Sp.hi (Bx.s4 b)))),[])) none))))) (some ((.bool false),[]))) (some ((.bool false),[]))):=by kernel_rfl
def Gl (N:Nat):Env:=DZ [(162,PV),(198,YA),(199,YC),(197,NO)] [] 54 N
theorem Xe (N:Nat) (m:Md) (q:Qy) (b:Bx):DS (Gl N) qR [.tmp 6,.tmp 7,.tmp 8] [[.z],[.z],[.bool]] [(Md.V m),(Qy.V q),(Bx.V b)]=(cond (!GM q) (some ((.tup [.i 0,.i 0,.bool false]),[])) (cond (!GL m (Qy.c q) (IZ q b)) (some ((.tup [.i 0,.i 0,.bool false]),[])) (cond (!GL m (Qy.c q) (I4 q b)) (some ((.tup [.i 0,.i 0,.bool false]),[])) (some ((.tup [.i (AA AB (D0 m (Qy.c q) (I4 q b) - DV m (Qy.c q) (IZ q b))),.i (AA AB (DV m (Qy.c q) (I4 q b) - D0 m (Qy.c q) (IZ q b))),.bool true]),[]))))):=by kernel_rfl
def Gx (N:Nat):Env:=DZ [(163,XQ),(162,PV),(112,J0),(165,X9),(164,YB),(65,MB)] [] 86 N
theorem Xq (N:Nat) (m:Md) (a1:Qy) (a2:Bx):DS (Gx N) rC [.tmp 6] [[.bool]] [(Md.V m),(Qy.V a1),(Bx.V a2)]=(cond (!E6 m a1) (some ((.bool false),[])) (cond (Bx.emp a2) (some ((.bool true),[])) (cond (Qy.k a1==1) (cond (GL m (Qy.c a1) a2) (cond (decide (Qy.lo a1≤D0 m (Qy.c a1) a2)) (some ((.bool (decide (DV m (Qy.c a1) a2≤Qy.hi a1))),[])) (some ((.bool false),[]))) (some ((.bool false),[]))) (cond (Qy.k a1==2) (cond (LY m (Qy.c a1) a2) (some ((.bool (decide (RT m (Qy.c a1) a2 > 0))),[])) (some ((.bool false),[]))) (cond (!N3 a1 a2) (some ((.bool true),[])) (cond (Qy.fl a1) (cond (J1 m a1 a2) (some ((.bool (decide (P7 m a1 a2≤0))),[])) (some ((.bool false),[]))) (cond (J1 m a1 a2) (some ((.bool (decide (P8 m a1 a2≥0))),[])) (some ((.bool false),[]))))))))):=by kernel_rfl
def Gy (N:Nat):Env:=DZ [(81,XT)] [] 9 N
theorem Xr (N:Nat) (b:Bx):DS (Gy N) rD [.cell 2 53,.tmp 3] [[.z,.z,.z,.z],[.z]] [(Bx.V b)]=(some ((.tup [(Pt.V (Bx.low b)),.i (Sp.hi (Bx.s4 b))]),[])):=by kernel_rfl
def MW (N:Nat):Env:=DZ [(126,YH)] [(2,⟨[3,4,5,6,7,8,11],[3,4,5],[]⟩)] 31 N
abbrev SQ (m:Md) (q:Qy) (b:Bx) (x6 x7:Int) (b8:Bool) (x11:Int):St:=⟨[(3,(.ptr 3 0 0)),(4,(.ptr 4 0 0)),(5,(.ptr 5 0 0)),(6,(.i x6)),(7,(.i x7)),(8,(.bool b8)),(11,(.i x11))],[(3,(some (.box (Md.cs m)))),(4,(some (.box (Qy.cs q)))),(5,(some (.box (Bx.cs b))))]⟩
theorem Xs (N:Nat) (m:Md) (q:Qy) (b:Bx):DS (MW N) P4 [.tmp 6,.tmp 7,.tmp 8] [[.z],[.z],[.bool]] [(Md.V m),(Qy.V q),(Bx.V b)]=(DT (MW N) (DE P4 [1,0,1,0,0]) ⟨[3,4,5,6,7,8,11],[3,4,5],[]⟩ N (SQ m q b 0 0 false 0) (DK 0 (DM (MW N) (DE P4 [1,1]) (DP (MW N) none [.tmp 6,.tmp 7,.tmp 8] [[.z],[.z],[.bool]])))):=by kernel_rfl
theorem Cq (N:Nat) (m:Md) (q:Qy) (b:Bx) (x6 x7:Int) (b8:Bool) (x11:Int) (again:St→DH) (k:Out→St→DH):E4 (MW N) (DE P4 [1,0,1,0,0]) (SQ m q b x6 x7 b8 x11) (EO again ⟨[3,4,5,6,7,8,11],[3,4,5],[]⟩ k)=(cond (decide (x11 < 5)) (cond (EQ m&&HG x11) (cond (decide (ic (AG (iZ (EZ m q b (AD x11)))) > 0)) (cond (decide (0≤AA AB (Int.tdiv (AA AB (ic (AG (iZ (EZ m q b (AD x11)))) - 1)) 2))&&decide (AA AB (Int.tdiv (AA AB (ic (AG (iZ (EZ m q b (AD x11)))) - 1)) 2) < ic (AG (iZ (EZ m q b (AD x11)))))) (k .ret (SQ m q b x11 (IV.toInt (AI (iZ (EZ m q b (AD x11))) (AD (AA AB (Int.tdiv (AA AB (ic (AG (iZ (EZ m q b (AD x11)))) - 1)) 2))) default)) true x11)) none) (again (SQ m q b x6 x7 b8 (AA AB (x11+1))))) none) (k (.exit 0) (SQ m q b x6 x7 b8 x11))):=by kernel_rfl
theorem Ng (N:Nat) (m:Md) (q:Qy) (b:Bx) (x6 x7:Int) (b8:Bool) (x11:Int):(DK 0 (DM (MW N) (DE P4 [1,1]) (DP (MW N) none [.tmp 6,.tmp 7,.tmp 8] [[.z],[.z],[.bool]]))) (.exit 0) (SQ m q b x6 x7 b8 x11)=(some ((.tup [.i 0,.i 0,.bool false]),[])):=by kernel_rfl
theorem Nh (N:Nat) (m:Md) (q:Qy) (b:Bx) (x6 x7:Int) (b8:Bool) (x11:Int):(DK 0 (DM (MW N) (DE P4 [1,1]) (DP (MW N) none [.tmp 6,.tmp 7,.tmp 8] [[.z],[.z],[.bool]]))) .ret (SQ m q b x6 x7 b8 x11)=(some ((.tup [.i x6,.i x7,.bool b8]),[])):=by kernel_rfl
open Go Go.Proofs
set_option maxRecDepth 100000
theorem uU {i:Int} (h:HG i=true):i=0∨i=1∨i=2∨i=3∨i=4:=by
 unfold HG at h;simp only [AH,AQ] at h;omega
theorem Aq:DQ PR B0 194 TG:=by
 refine D1 [] [] TG [[.z,.z]] Tryz.func194 Ta trivial ?_;intro vs r hwf h;unfold TG at h;split at h
 ·rw [R.get_ok] at h;exact ⟨0,(Zg 0).trans h⟩
 ·simp [R.get] at h
theorem zc1:DQ PR B0 193 Y6:=by
 refine D1 [(194,TG)] [] Y6 [[.z,.z]] Tryz.func193 Tb ⟨Aq,trivial⟩ ?_;intro vs r hwf h;unfold Y6 at h;split at h
 ·rename_i lo hi;rw [R.get_ok] at h;refine ⟨0,?_⟩;rw [← h];refine (Zh 0 lo hi).trans ?_;unfold LM;cases decide (lo > hi) <;> rfl
 ·simp [R.get] at h
theorem Ao:DQ PR B0 155 TE:=by
 refine D1 [] [] TE [[.bool]] Tryz.func155 Sy trivial ?_;intro vs r hwf h;unfold TE at h;split at h
 ·rename_i s;replace h:=oM h;obtain ⟨s,rfl,h⟩:=h;rw [R.get_ok] at h;exact ⟨0,(Ze 0 s).trans h⟩
 ·simp [R.get] at h
theorem Ap:DQ PR B0 114 TF:=by
 refine D1 [] [] TF [[.bool]] Tryz.func114 Sz trivial ?_;intro vs r hwf h;unfold TF at h;split at h
 ·rename_i s n;replace h:=oM h;obtain ⟨s,rfl,h⟩:=h;rw [R.get_ok] at h;refine ⟨0,?_⟩;rw [← h];refine (Zf 0 s n).trans ?_;unfold Sp.has;cases decide (s.lo≤n) <;> rfl
 ·simp [R.get] at h
theorem zc0:DQ PR B0 157 cC:=by
 refine D1 [(194,TG),(193,Y6)] [] cC [[.z,.z],[.z,.z]] Tryz.func157 Sx ⟨Aq,zc1,trivial⟩ ?_;intro vs r hwf h;unfold cC at h;split at h
 ·rename_i s n;replace h:=oM h;obtain ⟨s,rfl,h⟩:=h;rw [R.get_ok] at h;refine ⟨0,?_⟩;rw [← h];refine (Zd 0 s n).trans ?_;unfold Sp.cutH;cases decide (n≥s.hi) <;> rfl
 ·simp [R.get] at h
theorem zbB (b:Bx):DS (Fz 6) qF [.tmp 2] [[.bool]] [b.V] =
 cond b.s0.emp (some (.bool true,[])) (cond b.s1.emp (some (.bool true,[])) (cond b.s2.emp (some (.bool true,[])) (cond b.s3.emp (some (.bool true,[])) (cond b.s4.emp (some (.bool true,[])) (some (.bool false,[])))))):=by kernel_rfl
theorem UR:DQ PR B0 112 J0:=by
 refine D1 [(155,TE)] [(2,⟨[2,5,6],[],[]⟩)] J0 [[.bool]] Tryz.func112 Px ⟨Ao,trivial⟩ ?_;intro vs r hwf h;unfold J0 at h;split at h
 ·rename_i b;replace h:=IS h;obtain ⟨b,rfl,h⟩:=h;rw [R.get_ok] at h;refine ⟨6,?_⟩;rw [← h];refine (zbB b).trans ?_;unfold Bx.emp;cases b.s0.emp <;> cases b.s1.emp <;> cases b.s2.emp <;> cases b.s3.emp <;> cases b.s4.emp <;> rfl
 ·simp [R.get] at h
theorem zbC (b:Bx):DS (Gb 5) qH [.cell 2 53] [[.z,.z,.z,.z]] [b.V]=some (b.low.V,[]):=by kernel_rfl
theorem zb6:DQ PR B0 81 XT:=by
 refine D1 [] [(3,⟨[1,2,3,5],[1,2,3],[]⟩)] XT [[.z,.z,.z,.z]] Tryz.func81 Pz trivial ?_;intro vs r hwf h;unfold XT at h;split at h
 ·rename_i b;replace h:=IS h;obtain ⟨b,rfl,h⟩:=h;rw [R.get_ok] at h;exact ⟨5,(zbC b).trans h⟩
 ·simp [R.get] at h
theorem fL:DQ PR B0 111 NK:=by
 refine D1 [(157,cC)] [] NK [[.z,.z,.z,.z,.z,.z,.z,.z,.z,.z],[.z,.z,.z,.z,.z,.z,.z,.z,.z,.z]] Tryz.func111 Pw ⟨zc0,trivial⟩ ?_;intro vs r hwf h;unfold NK at h;split at h
 ·rename_i b i a;replace h:=IS h;obtain ⟨b,rfl,h⟩:=h;cases hg:(HG i) with
  | false=>rw [hg] at h; simp [R.get] at h
  | true=>
  rw [hg,R.get_br,DC,R.get_ok] at h;refine ⟨0,?_⟩;rw [← h];rcases uU hg with rfl | rfl | rfl | rfl | rfl <;> kernel_rfl
 ·simp [R.get] at h
theorem An:DQ PR B0 109 TC:=by
 refine D1 [] [] TC [[.bool]] Tryz.func109 Sl trivial ?_;intro vs r hwf h;unfold TC at h;split at h
 ·rename_i q;replace h:=JL h;obtain ⟨q,rfl,h⟩:=h;rw [R.get_ok] at h;refine ⟨0,?_⟩;rw [← h];refine (Yr 0 q).trans ?_;unfold GM;cases (q.k==3) <;> cases decide (q.ft≥0) <;> rfl
 ·simp [R.get] at h
theorem fN:DQ PR B0 197 NO:=by
 refine D1 [] [] NO [[.bool]] Tryz.func197 Ra trivial ?_;intro vs r hwf h;unfold NO at h;split at h
 ·rename_i q;replace h:=JL h;obtain ⟨q,rfl,h⟩:=h;rw [R.get_ok] at h;refine ⟨0,?_⟩;rw [← h];refine (Xi 0 q).trans ?_;unfold GM;cases (q.k==3) <;> cases decide (q.ft≥0) <;> rfl
 ·simp [R.get] at h
theorem PC {q:Qy} (h:GM q=true):q.ft=0∨q.ft=1∨q.ft=2∨q.ft=3:=by
 unfold GM at h;simp only [AH,AQ] at h;omega
theorem zcp:DQ PR B0 198 YA:=by
 refine D1 [(197,NO)] [] YA [[.z,.z,.z,.z,.z,.z,.z,.z,.z,.z]] Tryz.func198 Qw ⟨fN,trivial⟩ ?_;intro vs r hwf h;unfold YA at h;split at h
 ·rename_i q b;replace h:=JL h;obtain ⟨q,rfl,h⟩:=h;replace h:=IS h;obtain ⟨b,rfl,h⟩:=h;rw [R.get_ok] at h;refine ⟨0,?_⟩;rw [← h];refine (Xf 0 q b).trans ?_;unfold IZ;cases GM q <;> rfl
 ·simp [R.get] at h
theorem zcr:DQ PR B0 199 YC:=by
 refine D1 [(197,NO)] [] YC [[.z,.z,.z,.z,.z,.z,.z,.z,.z,.z]] Tryz.func199 Qz ⟨fN,trivial⟩ ?_;intro vs r hwf h;unfold YC at h;split at h
 ·rename_i q b;replace h:=JL h;obtain ⟨q,rfl,h⟩:=h;replace h:=IS h;obtain ⟨b,rfl,h⟩:=h;rw [R.get_ok] at h;refine ⟨0,?_⟩;rw [← h];refine (Xh 0 q b).trans ?_;unfold I4;cases hp:GM q with
  | false=>rfl
  | true=>rcases PC hp with e | e | e | e <;> rw [e] <;> rfl
 ·simp [R.get] at h
theorem zcq:DQ PR B0 164 YB:=by
 refine D1 [(112,J0),(197,NO)] [] YB [[.bool]] Tryz.func164 Qx ⟨UR,fN,trivial⟩ ?_;intro vs r hwf h;unfold YB at h;split at h
 ·rename_i q b;replace h:=JL h;obtain ⟨q,rfl,h⟩:=h;replace h:=IS h;obtain ⟨b,rfl,h⟩:=h;rw [R.get_ok] at h;refine ⟨0,?_⟩;rw [← h];refine (Xg 0 q b).trans ?_;unfold N3;cases hp:GM q with
  | false=>rfl
  | true=>cases b.emp <;> rcases PC hp with e | e | e | e <;> rw [e] <;> rfl
 ·simp [R.get] at h
theorem Am:DQ PR B0 66 TB:=by
 refine D1 [(109,TC)] [] TB [[.z,.z,.z,.z,.z,.z,.z,.z,.z,.z]] Tryz.func66 Sj ⟨An,trivial⟩ ?_;intro vs r hwf h;unfold TB at h;split at h
 ·rename_i q;replace h:=JL h;obtain ⟨q,rfl,h⟩:=h;rw [R.get_ok] at h;refine ⟨0,?_⟩;rw [← h];refine (Yp 0 q).trans ?_;unfold GW;cases hp:GM q with
  | false=>rfl
  | true=>rcases PC hp with e | e | e | e <;> rw [e] <;> rfl
 ·simp [R.get] at h
theorem zcO:DQ PR B0 116 YW:=by
 refine D1 [(109,TC)] [] YW [[.z,.z,.z,.z]] Tryz.func116 Si ⟨An,trivial⟩ ?_;intro vs r hwf h;unfold YW at h;split at h
 ·rename_i q p t;replace h:=JL h;obtain ⟨q,rfl,h⟩:=h;replace h:=U6 h;obtain ⟨p,rfl,h⟩:=h;rw [R.get_ok] at h;refine ⟨0,?_⟩;rw [← h];refine (Yo 0 q p t).trans ?_;unfold IG;cases hp:GM q with
  | false=>rfl
  | true=>rcases PC hp with e | e | e | e <;> rw [e] <;> rfl
 ·simp [R.get] at h
def UM (d i:Int) (s:Sp) (rest:DH):DH:=
 cond (decide (i≥d)) (cond (!((s.lo==0)&&((s.hi==0)&&true))) (some (.bool false,[])) (cond s.emp (some (.bool false,[])) (cond (!(EU s.lo)) (some (.bool false,[])) (cond (!(EU s.hi)) (some (.bool false,[])) rest))))
  (cond s.emp (some (.bool false,[])) (cond (!(EU s.lo)) (some (.bool false,[])) (cond (!(EU s.hi)) (some (.bool false,[])) rest)))
theorem aY (d i:Int) (s:Sp) (rest:DH):UM d i s rest=cond (L4 d i s) rest (some (.bool false,[])):=by
 unfold UM L4;rw [CE];cases decide (i≥d) <;> cases ((s.lo==0)&&(s.hi==0)) <;> cases s.emp <;> cases EU s.lo <;> cases EU s.hi <;> rfl
theorem zbE (b:Bx) (d:Int):DS (Hq 6) rV [.tmp 4] [[.bool]] [b.V,.int .i64 d]=UM d 0 b.s0 (UM d 1 b.s1 (UM d 2 b.s2 (UM d 3 b.s3 (UM d 4 b.s4 (some (.bool true,[])))))):=by kernel_rfl
theorem zcQ:DQ PR B0 107 YY:=by
 refine D1 [(93,PT),(155,TE)] [(2,⟨[1,4,7,8],[],[]⟩)] YY [[.bool]] Tryz.func107 Sm ⟨m5,Ao,trivial⟩ ?_;intro vs r hwf h;unfold YY at h;split at h
 ·rename_i b d;replace h:=IS h;obtain ⟨b,rfl,h⟩:=h;rw [R.get_ok] at h;refine ⟨6,?_⟩;rw [← h];refine (zbE b d).trans ?_;rw [aY,aY,aY,aY,aY];unfold QK;cases L4 d 0 b.s0 <;> cases L4 d 1 b.s1 <;> cases L4 d 2 b.s2 <;> cases L4 d 3 b.s3 <;> cases L4 d 4 b.s4 <;> rfl
 ·simp [R.get] at h
theorem zcP:DQ PR B0 108 YX:=by
 refine D1 [] [] YX [[.bool]] Tryz.func108 Sk trivial ?_;intro vs r hwf h;unfold YX at h;split at h
 ·rename_i m q;replace h:=JK h;obtain ⟨m,rfl,h⟩:=h;replace h:=JL h;obtain ⟨q,rfl,h⟩:=h;rw [R.get_ok] at h;refine ⟨0,?_⟩;rw [← h];refine (Yq 0 m q).trans ?_;unfold RR;cases (q.k==1) <;> cases (q.k==2) <;> cases (q.k==3) <;> cases decide (q.lo≤q.hi) <;> cases (q.ft==0) <;> cases decide (m.c≥2) <;> cases (q.lo==0) <;> cases (q.hi==0) <;> cases decide (q.ft≥0) <;> cases decide (q.ft < m.d) <;> rfl
 ·simp [R.get] at h
theorem bD:DQ PR B0 65 MB:=by
 refine D1 [(53,K3),(108,YX),(107,YY)] [] MB [[.bool]] Tryz.func65 Sh ⟨WV,zcP,zcQ,trivial⟩ ?_;intro vs r hwf h;unfold MB at h;split at h
 ·rename_i m q;replace h:=JK h;obtain ⟨m,rfl,h⟩:=h;replace h:=JL h;obtain ⟨q,rfl,h⟩:=h;rw [R.get_ok] at h;refine ⟨0,?_⟩;rw [← h];refine (Yn 0 m q).trans ?_;unfold E6 Qy.bx;generalize QK _ _=rg;cases EQ m <;> cases decide (q.c≥0) <;> cases decide (q.c < m.c) <;> cases decide (q.bu≥0) <;> cases decide (q.bu≤65536) <;> cases rg <;> rfl
 ·simp [R.get] at h
theorem lA {w:Int} (hb:FU w=true) (hl:(DF w).lf=false):(0≤(DF w).f∧(DF w).f < 4)∧(1≤(DF w).l∧(DF w).l < 31)∧(1≤(DF w).r∧(DF w).r < 31)∧EU (DF w).a=true:=by
 have h:=(eR hb).2;unfold LJ at h;rw [hl,DD] at h;unfold OV at h;simp only [AH,AQ] at h;exact ⟨⟨h.2.1,h.2.2.1⟩,h.2.2.2.2.1,h.2.2.2.2.2,h.2.2.2.1⟩
theorem wQ (w:Int):EU (DF w).v=true:=by
 cases hb:FU w with
 | false=>
  have e:DF w=Nd.zero:=by unfold DF; rw [hb]; rfl
  rw [e];rfl
 | true=>
  have h:=(eR hb).2;unfold LJ at h;cases hl:(DF w).lf with
  | true=>
   rw [hl,DC,AH] at h;exact h.2
  | false=>
   rw [hl,DD,AH,B3] at h;rw [h.1];rfl
abbrev oR (l:LI) (p:Pt) (a j:Int):St:=
 ⟨[(0,(.list false [(.int .u64)] l)),(3,(.ptr 3 0 0)),(4,(.int .i64 0)),(5,(.ptr 5 0 0)),(6,(.int .i64 a)),(9,(.int .i64 j))],[(3,(some (.box (Pt.cs p)))),(5,(some (.box [(.bool false),(.int .i64 0),(.int .i64 0),(.int .i64 0),(.int .i64 0),(.int .i64 0)])))]⟩
theorem jG (N:Nat) (l:LI) (p:Pt):∀ (m j n:Nat) (a:Int),0≤a→j+m=31→m < n →
  DT (JM N) (DE MG [1,1,0,1,0,0]) ⟨[0,3,4,5,6,9],[3,5],[]⟩ n (oR l p a (j:Int)) (DK 0 (DM (JM N) (DE MG [1,1,1]) (DP (JM N) none [(CA 4),(vbi 5 111)] [[.z],[.bool,.z,.z,.z,.z,.z]]))) =
   some (.tup [.int .i64 (H0 l p m a).1,(H0 l p m a).2.V],[])
 | m,j,0,a,_,_,h=>absurd h (by omega)
 | 0,j,n+1,a,ha,hd,_=>by
  have hj:j=31:=by omega
  subst hj;rw [D2,Dg,AL (show ¬ ((31:Nat):Int) < 31 by omega),DD];exact t6 N p l _ _ _ _ _ _ _ _ _
 | m+1,j,n+1,a,ha,hd,hn=>by
  have ej:AA AB ((j:Int)+1)=((j+1:Nat):Int):=HJ (by omega);rw [D2,Dg,AE (show (j:Int) < 31 by omega),DC,H0,ej];cases hge:decide (a≥ic l.length) with
  | true=>
   rw [DC,DC];exact t6 N p l _ _ _ _ _ _ _ _ _
  | false=>
   have hge:=BE hge;rw [DD,DD,AE ha,AE (show a < ic l.length by omega),B1,DC];generalize (l.getD a.toNat default).toInt=w;cases hb:FU w with
   | false=>
    rw [BB,DC,DC];exact Ol N p l _ _ _ _ _ _ _ _ _
   | true=>
    rw [A2,DD,DD];cases hl:(DF w).lf with
    | true=>
     rw [DC,DC];rfl
    | false=>
     obtain ⟨⟨f0,f4⟩,⟨l1,l31⟩,⟨r1,r31⟩,_⟩:=lA hb hl;rw [DD,DD];have step:∀ c:Bool,(cond c (DT (JM N) (DE MG [1,1,0,1,0,0]) ⟨[0,3,4,5,6,9],[3,5],[]⟩ n (oR l p (DF w).l ((j+1:Nat):Int)) (DK 0 (DM (JM N) (DE MG [1,1,1]) (DP (JM N) none [(CA 4),(vbi 5 111)] [[.z],[.bool,.z,.z,.z,.z,.z]]))))
       (DT (JM N) (DE MG [1,1,0,1,0,0]) ⟨[0,3,4,5,6,9],[3,5],[]⟩ n (oR l p (DF w).r ((j+1:Nat):Int)) (DK 0 (DM (JM N) (DE MG [1,1,1]) (DP (JM N) none [(CA 4),(vbi 5 111)] [[.z],[.bool,.z,.z,.z,.z,.z]]))))) =
       some (.tup [.int .i64 (cond c (H0 l p m (DF w).l) (H0 l p m (DF w).r)).1,(cond c (H0 l p m (DF w).l) (H0 l p m (DF w).r)).2.V],[]):=fun c=>by
      cases c with
      | true=>exact jG N l p m (j+1) n (DF w).l (by omega) (by omega) (by omega)
      | false=>exact jG N l p m (j+1) n (DF w).r (by omega) (by omega) (by omega)
     obtain e | e | e | e:(DF w).f=0∨(DF w).f=1∨(DF w).f=2∨(DF w).f=3:=by omega
     all_goals
      rw [e];exact step _
theorem zc9:DQ PR B0 217 ZA:=by
 refine D1 [(55,K4)] [(3,⟨[0,3,4,5,6,9],[3,5],[]⟩)] ZA [[.z],[.bool,.z,.z,.z,.z,.z]] Tryz.func217 Tn ⟨WW,trivial⟩ ?_;intro vs r hwf h;unfold ZA at h;split at h
 ·rename_i l p;replace h:=U6 h;obtain ⟨p,rfl,h⟩:=h;rw [R.get_ok] at h;refine ⟨32,?_⟩;rw [← h];exact (Zt 32 l p).trans (jG 32 l p 31 0 32 0 (by omega) rfl (by omega))
 ·simp [R.get] at h
theorem zc8:DQ PR B0 195 Y9:=by
 refine D1 [(217,ZA)] [] Y9 [[.z]] Tryz.func195 Tm ⟨zc9,trivial⟩ ?_;intro vs r hwf h;unfold Y9 at h;split at h
 ·rename_i l p;replace h:=U6 h;obtain ⟨p,rfl,h⟩:=h;rw [R.get_ok] at h;exact ⟨0,(Zs 0 l p).trans h⟩
 ·simp [R.get] at h
theorem LV {n:Int} (h:EU n=true) : -2147483648≤n∧n≤2147483647:=by
 unfold EU at h;simpa only [AH,AQ] using h
theorem jF (l:LI) (p:Pt):∀ (n:Nat) (a:Int),EU (H0 l p n a).2.v=true
 | 0,_=>rfl
 | n+1,a=>by
  rw [H0];cases decide (a≥ic l.length) with
  | true=>rfl
  | false=>
   rw [DD];generalize (l.getD a.toNat default).toInt=w;cases FU w with
   | false=>rfl
   | true=>
    rw [A2,DD];cases (DF w).lf with
    | true=>exact wQ w
    | false=>
     rw [DD];cases decide (p.g (DF w).f.toNat≤(DF w).a) with
     | true=>exact jF l p n _
     | false=>exact jF l p n _
theorem zdR (l:LI) (p:Pt) : -2147483648≤GO l p∧GO l p≤2147483647:=LV (jF l p 31 0)
theorem KS {m:Md} (h:EQ m=true):(1≤m.d∧m.d≤4)∧(1≤m.c∧m.c≤3)∧m.ts.length≤8∧(EU m.b0=true∧EU m.b1=true∧EU m.b2=true)∧m.ts.all (GY m.d m.c)=true:=by
 unfold EQ G5 at h;simp only [AH,BY,BQ] at h;obtain ⟨⟨h1,h2,h3,h4,h5⟩,⟨h6,h7,h8⟩,h9⟩:=h;exact ⟨⟨by omega,by omega⟩,⟨by omega,by omega⟩,AM h5,⟨h6.1,h7.1,h8.1⟩,h9⟩
theorem sS {m:Md} {k:Int} (h:HO m k=true):0≤k∧k < m.c:=by
 unfold HO at h;simpa only [AH,AQ] using h
theorem iN {m:Md} {k:Int} (hm:EQ m=true) (h:HO m k=true):k=0∨k=1∨k=2:=by
 have:=sS h
 have:=(KS hm).2.1
 omega
theorem cP {m:Md} (hm:EQ m=true) (k:Int) : -2147483648≤KF m k∧KF m k≤2147483647:=by
 obtain ⟨h0,h1,h2⟩:=(KS hm).2.2.2.1;unfold KF;cases (k==0) with
 | true=>exact LV h0
 | false=>
  cases (k==1) with
  | true=>exact LV h1
  | false=>exact LV h2
abbrev zd9 (ts:LI) (p:Pt) (k s i:Int):St:=
 ⟨[(1,(.int .i64 k)),(5,(.ptr 5 0 0)),(6,(.int .i64 0)),(7,(.int .i64 s)),(15,(.list true [.z,(.list false [(.int .u64)])] ts)),(16,(.int .i64 (ic (AG ts)))),(17,(.int .i64 i))],[(5,(some (.box (Pt.cs p))))]⟩
theorem jM (N:Nat) (ts:LI) (p:Pt) (k:Int) (hts:ts.length≤8):∀ (m i n:Nat) (s:Int),i+m=ts.length→m < n → -2147483648*(i+1)≤s∧s≤2147483648*(i+1) →
  DT (KC N) (DE M2 [1,1,0,1,0,0]) ⟨[1,5,6,7,15,16,17],[5],[]⟩ n (zd9 ts p k s (i:Int)) (DK 0 (DM (KC N) (DE M2 [1,1,1]) (DP (KC N) none [(CA 6)] [[.z]]))) =
   some (.int .i64 (NY k p (ts.drop i) s),[])
 | m,i,0,s,_,h,_=>absurd h (by omega)
 | 0,i,n+1,s,hd,_,_=>by
  have hi:i=ts.length:=by omega
  subst hi;rw [D2,Cv,JC (AY _),DD,vas];exact Nn N p _ _ _ _ _ _
 | m+1,i,n+1,s,hd,hn,hs=>by
  have hi:i < ts.length:=by omega
  have ei:AA AB ((i:Int)+1)=((i+1:Nat):Int):=HJ (by omega);rw [D2,Cv,ei,IN hi,DC,I0,B1,DC,JB hi,A9 hi,NY];have hv:=zdR (E3 ts[i]) p;cases hc:((ts[i].cell 0).toInt==k) with
  | true=>
   rw [DC,DC];have ew:AA AB (s+GO (E3 ts[i]) p)=s+GO (E3 ts[i]) p:=EC (by omega) (by omega);have ih:=jM N ts p k hts m (i+1) n (s+GO (E3 ts[i]) p) (by omega) (by omega) (by omega);rw [← ew] at ih;refine Eq.trans ih ?_;rw [ew]
  | false=>
   rw [DD,DD];exact jM N ts p k hts m (i+1) n s (by omega) (by omega) (by omega)
theorem zcG:DQ PR B0 159 YO:=by
 refine D1 [(195,Y9)] [(3,⟨[1,5,6,7,15,16,17],[5],[]⟩)] YO [[.z]] Tryz.func159 Rw ⟨zc8,trivial⟩ ?_;intro vs r hwf h;unfold YO at h;split at h
 ·rename_i m k p;replace h:=JK h;obtain ⟨m,rfl,h⟩:=h;replace h:=U6 h;obtain ⟨p,rfl,h⟩:=h;cases hg:(EQ m&&HO m k) with
  | false=>rw [hg] at h; simp [R.get] at h
  | true=>
  rw [hg,R.get_br,DC,R.get_ok] at h;rw [AH] at hg;have hb:=cP hg.1 k;have run:=jM 10 m.ts p k (KS hg.1).2.2.1 m.ts.length 0 10 (KF m k) (by omega) (by have:=(KS hg.1).2.2.1; omega) (by omega);refine ⟨10,?_⟩;rw [← h];refine (Yc 10 m k p).trans ?_;rcases iN hg.1 hg.2 with rfl | rfl | rfl <;> exact run
 ·simp [R.get] at h
theorem zcE:DQ PR B0 115 YM:=by
 refine D1 [(53,K3),(159,YO)] [] YM [[.z]] Tryz.func115 Rs ⟨WV,zcG,trivial⟩ ?_;intro vs r hwf h;unfold YM at h;split at h
 ·rename_i m k p;replace h:=JK h;obtain ⟨m,rfl,h⟩:=h;replace h:=U6 h;obtain ⟨p,rfl,h⟩:=h;rw [R.get_ok] at h;refine ⟨0,?_⟩;rw [← h];refine (Xy 0 m k p).trans ?_;unfold EB HO;cases EQ m with
  | false=>rfl
  | true=>
   cases h0:decide (k < 0) with
   | true=>rw [AL (show ¬ 0≤k by have:=A1 h0; omega)]; rfl
   | false=>
    rw [AE (show 0≤k by have:=BE h0; omega)];cases h1:decide (k≥m.c) with
    | true=>rw [AL (show ¬ k < m.c by have:=A1 h1; omega)]; rfl
    | false=>rw [AE (show k < m.c by have:=BE h1; omega)]; rfl
 ·simp [R.get] at h
abbrev zd2 (m:Md) (q:Qy) (p:Pt) (own i:Int):St:=
 ⟨[(4,(.ptr 4 0 0)),(5,(.ptr 5 0 0)),(6,(.ptr 6 0 0)),(8,(.bool false)),(9,(.int .i64 own)),(36,(.int .i64 (Md.c m))),(37,(.int .i64 i))],[(4,(some (.box (Md.cs m)))),(5,(some (.box (Qy.cs q)))),(6,(some (.box (Pt.cs p))))]⟩
def ZI (m:Md) (q:Qy) (p:Pt) (own:Int):Nat→Nat→Bool
 | 0,_=>false
 | d+1,i=>(!((i:Int)==q.c)&&decide (EB m (i:Int) p≥own))||ZI m q p own d (i+1)
theorem o6 (m:Md) (q:Qy) (p:Pt) (own:Int):∀ d i,ZI m q p own d i=(List.range' i d).any fun c=>!((c:Int)==q.c)&&decide (EB m (c:Int) p≥own)
 | 0,_=>rfl
 | d+1,i=>by rw [ZI,o6 m q p own d (i+1),List.range'_succ,List.any_cons]
theorem pT (N:Nat) (m:Md) (q:Qy) (p:Pt) (own:Int) (hc:0≤m.c∧m.c≤3):∀ (d i n:Nat),((i+d:Nat):Int)=m.c→d < n →
  DT (KD N) (DE MF [1,1,1,0,1,0,1,1,1,0,0,1,0,0]) ⟨[4,5,6,8,9,36,37],[4,5,6],[]⟩ n (zd2 m q p own (i:Int)) (DK 1 (DM (KD N) (DE MF [1,1,1,0,1,0,1,1,1,0,1]) (DK 0 (DM (KD N) (DE MF [1,1,1,1]) (DP (KD N) none [(CA 8)] [[.bool]]))))) =
   some (.bool (ZI m q p own d i),[])
 | d,i,0,_,h=>absurd h (by omega)
 | 0,i,n+1,hd,_=>by
  rw [D2,Cy,AL (show ¬ (i:Int) < m.c by omega),DD];exact Nr N m q p _ _ _ _
 | d+1,i,n+1,hd,hn=>by
  have ei:AA AB ((i:Int)+1)=((i+1:Nat):Int):=HJ (by omega);rw [D2,Cy,ei,AE (show (i:Int) < m.c by omega),DC,ZI];have ih:=pT N m q p own hc d (i+1) n (by omega) (by omega);have en:((i:Int) != q.c)=!((i:Int)==q.c):=rfl;rw [en];cases ((i:Int)==q.c) with
  | true=>exact ih
  | false=>
   rw [BB,DC,BH];cases decide (EB m (i:Int) p≥own) with
   | true=>exact Nt N m q p _ _ _ _
   | false=>exact ih
theorem UO {m:Md} {q:Qy} (h:E6 m q=true):EQ m=true∧(0≤q.c∧q.c < m.c)∧(0≤q.bu∧q.bu≤65536)∧QK q.bx m.d=true∧RR m q=true:=by
 unfold E6 at h;simp only [AH,AQ] at h;exact ⟨h.1,⟨h.2.1,h.2.2.1⟩,⟨h.2.2.2.1,h.2.2.2.2.1⟩,h.2.2.2.2.2.1,h.2.2.2.2.2.2⟩
theorem dY {m:Md} {q:Qy} (h:RR m q=true):(q.k=1∧q.lo≤q.hi∧q.ft=0∧q.fl=false)∨(q.k=2∧2≤m.c∧q.lo=0∧q.hi=0∧q.ft=0∧q.fl=false)∨(q.k=3∧(0≤q.ft∧q.ft < m.d)∧q.lo=0∧q.hi=0):=by
 unfold RR at h;cases h1:(q.k==1) with
 | true=>
  rw [h1,DC] at h;simp only [AH,AQ,B3,BY] at h;exact .inl ⟨B3.1 h1,h⟩
 | false=>
  rw [h1,DD] at h;cases h2:(q.k==2) with
  | true=>
   rw [h2,DC] at h;simp only [AH,AQ,B3,BY,ge_iff_le] at h;exact .inr (.inl ⟨B3.1 h2,h⟩)
  | false=>
   rw [h2,DD] at h;cases h3:(q.k==3) with
   | true=>
    rw [h3,DC] at h;simp only [AH,AQ,B3,ge_iff_le] at h;exact .inr (.inr ⟨B3.1 h3,⟨h.1,h.2.1⟩,h.2.2⟩)
   | false=>rw [h3,DD] at h; cases h
theorem Al:DQ PR B0 70 TA:=by
 refine D1 [(115,YM),(65,MB),(116,YW),(114,TF)] [(9,⟨[4,5,6,8,9,36,37],[4,5,6],[]⟩)] TA [[.bool]] Tryz.func70 Sg ⟨zcE,bD,zcO,Ap,trivial⟩ ?_;intro vs r hwf h;unfold TA at h;split at h
 ·rename_i m q p t;replace h:=JK h;obtain ⟨m,rfl,h⟩:=h;replace h:=JL h;obtain ⟨q,rfl,h⟩:=h;replace h:=U6 h;obtain ⟨p,rfl,h⟩:=h;rw [R.get_ok] at h;refine ⟨10,?_⟩;rw [← h];refine (Ym 10 m q p t).trans ?_;unfold G0;cases hr:E6 m q with
  | false=>rfl
  | true=>
   obtain ⟨hm,_,_,_,hk⟩:=UO hr;have hmp:=KS hm;rw [A2,DD,BH];cases h1:(q.k==1) with
   | true=>rfl
   | false=>
    rw [DD,DD];cases h2:(q.k==2) with
    | true=>
     rw [DC,DC];refine (pT 10 m q p _ (by omega) m.c.toNat 0 10 (by omega) (by omega)).trans ?_;rw [o6,← List.range_eq_range'];rfl
    | false=>
     rw [DD,DD];rcases dY hk with ⟨e,_⟩ | ⟨e,_⟩ | ⟨_,⟨f0,fd⟩,_⟩
     ·rw [e] at h1; cases h1
     ·rw [e] at h2; cases h2
     ·have step:∀ x:Int,cond (decide (x≥t)) (some (V.bool false,[])) (cond q.fl (some (V.bool (decide (EB m q.c (IG q p t) > EB m q.c p)),[])) (some (V.bool (decide (EB m q.c (IG q p t) < EB m q.c p)),[]))) =
        some (V.bool (cond (decide (x≥t)) false (cond q.fl (decide (EB m q.c (IG q p t) > EB m q.c p)) (decide (EB m q.c (IG q p t) < EB m q.c p)))),([]:List (List V))):=fun x=>by
       cases decide (x≥t) with
       | true=>rfl
       | false=>cases q.fl <;> rfl
      obtain e | e | e | e:q.ft=0∨q.ft=1∨q.ft=2∨q.ft=3:=by omega
      all_goals
       rw [e];exact step _
 ·simp [R.get] at h
open Go Go.Proofs Go.RowKit Go.Sort
theorem j5 (x:Int):∀ l,(T6 x l).Perm (x :: l)
 | []=>vbI _
 | y :: r=>by
  rw [T6];cases decide (x≤y) with
  | true=>exact vbI _
  | false=>exact ((j5 x r).cons y).trans (List.Perm.swap x y r)
theorem SC:∀ l,(JW l).Perm l
 | []=>vbI _
 | x :: r=>(j5 x (JW r)).trans ((SC r).cons x)
theorem uY (x:Int):∀ {l:List Int},l.Pairwise (·≤·)→(T6 x l).Pairwise (·≤·)
 | [],_=>by simp [T6]
 | y :: r,h=>by
  rw [T6];cases hd:decide (x≤y) with
  | true=>
   have hd:=A1 hd;rw [DC];rw [vbA] at h ⊢;refine ⟨fun z hz=>?_,by rw [vbA]; exact h⟩;rcases AU.1 hz with rfl | hz
   ·exact hd
   ·exact Int.le_trans hd (h.1 z hz)
  | false=>
   have hd:=BE hd;rw [DD];rw [vbA] at h ⊢;refine ⟨fun z hz=>?_,uY x h.2⟩;rcases AU.1 ((j5 x r).mem_iff.1 hz) with rfl | hz
   ·omega
   ·exact h.1 z hz
theorem Be:∀ l,(JW l).Pairwise (·≤·)
 | []=>List.Pairwise.nil
 | x :: r=>uY x (Be r)
theorem Vk (l:List Int):(l.mergeSort fun x y=>decide (x≤y))=JW l:=by
 refine List.Perm.eq_of_pairwise (le:=(·≤·)) (fun a b _ _ h1 h2=>Int.le_antisymm h1 h2) ?_ (Be l) ((List.mergeSort_perm l _).trans (SC l).symm)
 have:=List.pairwise_mergeSort (le:=fun (x y:Int)=>decide (x≤y)) (fun a b c h1 h2=>AE (Int.le_trans (A1 h1) (A1 h2))) (fun a b=>by
  rcases Int.le_total a b with h | h
  ·rw [AE h]; rfl
  ·rw [AE h,Bool.or_true]) l
 exact this.imp fun h=>by simpa using h
theorem sU (x:Int):∀ (l:List Int) (p:Int),K7 p (l++[x])=K7 p l++cond ((l.getLast?.getD p)==x) [] [x]
 | [],p=>by
  show cond (x==p) (K7 x []) (x :: K7 x [])=_;rw [show ((([]:List Int).getLast?.getD p)==x)=(x==p) by show (p==x)=(x==p); rw [va6,B3,B3]; exact eq_comm];cases (x==p) <;> rfl
 | y :: r,p=>by
  rw [vaa,K7,K7,sU x r y];have e:((y :: r).getLast?.getD p)=r.getLast?.getD y:=by
   cases r with
   | nil=>rfl
   | cons z r=>rw [List.getLast?_cons_cons,List.getLast?_eq_some_getLast (List.cons_ne_nil z r)]; rfl
  rw [e];cases (y==p) <;> rfl
theorem La (x:Int) (l:List Int):JA (l++[x])=JA l++cond (l.getLast?==some x) [] [x]:=by
 cases l with
 | nil=>rfl
 | cons y r=>
  rw [vaa,JA,JA,sU,vaa];congr 2
  have:((y :: r).getLast?==some x)=(r.getLast?.getD y==x):=by
   cases r with
   | nil=>show (some y==some x)=(y==x); rw [va6]; simp
   | cons z r=>rw [List.getLast?_cons_cons,List.getLast?_eq_some_getLast (List.cons_ne_nil z r)]; rw [va6]; simp
  rw [this]
theorem Lb (l:List Int):Lib.compact l=JA l:=by
 have key:∀ m,m≤l.length→vbn l.toArray m=JA (l.take m):=by
  intro m
  induction m with
  | zero=>intro _; rfl
  | succ m ih=>
   intro hm;have e1:vbn l.toArray (m+1)=vbn l.toArray m++cond (Lib.keeps l.toArray m) [l.toArray[m]!] []:=by
    unfold vbn;rw [List.range_succ,List.filter_append,List.map_append];congr 1;cases hk:Lib.keeps l.toArray m <;> simp [hk]
   have hml:m < l.length:=by omega
   have e2:l.toArray[m]! = l[m]:=by simp [hml]
   rw [e1,ih (by omega),List.take_succ_eq_append_getElem hml,La,e2];congr 1;cases m with
   | zero=>simp [Lib.keeps]
   | succ k=>
    have hk:k < l.length:=by omega
    have e3:(l.take (k+1)).getLast?=some l[k]:=by rw [List.getLast?_take]; simp [hk]
    rw [e3];have e4:l.toArray[k]! = l[k]:=by simp [hk]
    cases hq:Lib.keeps l.toArray (k+1) with
    | true=>
     have:¬ (l[k+1]=l[k]):=fun he=>by
      rw [Lib.keeps_neg (Nat.succ_pos k) (by show l.toArray[k+1]! = l.toArray[k]!; rw [e2,e4]; exact he)] at hq;cases hq
     rw [DC];rw [show (some l[k]==some l[k+1])=false by simp; exact fun h=>this h.symm];rfl
    | false=>
     have:l[k+1]=l[k]:=by
      by_cases he:l[k+1]=l[k]
      ·exact he
      ·rw [Lib.keeps_pos (by show l.toArray[k+1]!≠l.toArray[k]!; rw [e2,e4]; exact he)] at hq;cases hq
     rw [DD,this];rw [show (some l[k]==some l[k])=true by simp];rfl
 unfold Lib.compact;rw [key _ (AY _),BS]
theorem sT:∀ (l:List Int) (p:Int),(K7 p l).length≤l.length
 | [],_=>AY _
 | x :: r,p=>by
  have:=sT r x
  rw [K7];cases (x==p)
  ·rw [DD,AN,AN]; omega
  ·rw [DC,AN]; omega
theorem iQ (l:List Int):(JA l).length≤l.length:=by
 cases l with
 | nil=>exact AY _
 | cons x r=>rw [JA,AN,AN]; have:=sT r x; omega
theorem iO {p x:Int}:∀ {l:List Int},x∈K7 p l→x∈l
 | [],h=>by cases h
 | y :: r,h=>by
  rw [K7] at h;cases hb:(y==p)
  ·rw [hb,DD] at h;rcases AU.1 h with h | h
   ·exact h ▸ AT ..
   ·exact AX _ (iO h)
  ·rw [hb,DC] at h;exact AX _ (iO h)
theorem sV {x:Int} {l:List Int} (h:x∈JA l):x∈l:=by
 cases l with
 | nil=>cases h
 | cons y r=>
  rcases AU.1 h with h | h
  ·exact h ▸ AT ..
  ·exact AX _ (iO h)
theorem NZ (l:List Int):(iZ l).length=l.length:=B7 ..
theorem jX (l:List Int):(iZ l).map IV.toInt=l:=by
 unfold iZ;rw [List.map_map];exact List.map_id l
theorem iI (l:List Int):K6 (iZ l)=l.map (Value.int .i64):=by
 unfold K6 iZ;rw [List.map_map];rfl
theorem Ks (l:LI):K6 l=(l.map IV.toInt).map (Value.int .i64):=by
 unfold K6;rw [List.map_map];rfl
abbrev IM:Int→Value:=Value.int .i64
theorem eZ {w:World} {e g n cap:Nat} {zs:List Int} (h:w.ownsRow 0 e 1 (.slice (some ⟨g,0,none⟩) n cap) zs.length (zs.map IM)):n=zs.length∧n≤cap∧cap≤maxLen∧g < w.heap.size∧Holds IM w g 0 zs.toArray:=by
 rcases h.2 with ⟨h1,_⟩ | ⟨g',cap',cur,h1,_,h2,h3,h4,h5,h6⟩
 ·cases h1
 ·simp only [CG,AC,DA,BX] at h1;obtain ⟨rfl,rfl,rfl⟩:=h1;refine ⟨rfl,h3,h4,(C9.1 h2).1,fun j hj=>?_⟩;have hj':j < zs.length:=by simpa using hj
  rw [BF];constructor
  ·have hc:cur[j]?=some (IM zs[j]):=by
    have:(cur.toList.take (zs.length*1))[j]?=some (IM zs[j]):=by rw [h6]; simp [hj']
    rw [CI,BL (by omega)] at this;simpa using this
   simp only [vaF,h2];simp [hc,hj']
  ·simp [World.frozen?,h2]
theorem Tt {w:World} {g:Nat} {cur:Array Value} {e:TypeId} {fr:Nat × Nat} (h:w.heap[g]?=some (.cells cur e fr)) (q:Nat) (os:Array Obj) (zs:List Int) :
  (grow (putRow IM (vbD w q) g 0 zs.toArray) os).heap[g]?=some (.cells (putCells IM 0 zs.toArray cur) e fr):=by
 have hg:g < w.heap.size:=(C9.1 h).1;have h0:(putRow IM (vbD w q) g 0 zs.toArray).heap[g]?=some (.cells (putCells IM 0 zs.toArray cur) e fr):=by
  unfold putRow mapBlock;simp [va0,onCells,h]
 unfold grow;simp only;rw [Array.getElem?_append_left (by rw [size_putRow]; exact hg)];exact h0
theorem zbb {cur:Array Value} {zs:List Int} (h:zs.length≤cur.size):(putCells IM 0 zs.toArray cur).size=cur.size∧(putCells IM 0 zs.toArray cur).toList.take zs.length=zs.map IM:=by
 refine ⟨by simp [putCells],?_⟩;apply List.ext_getElem?;intro k;rw [CI];by_cases hk:k < zs.length
 ·rw [BL hk];have hc:k < cur.size:=by omega
  simp [putCells,hk,hc]
 ·rw [A4 hk];simp [hk]
theorem lQ {w:World} {e g n cap:Nat} {zs:List Int} (h:w.ownsRow 0 e 1 (.slice (some ⟨g,0,none⟩) n cap) zs.length (zs.map IM)) (q:Nat) (os:Array Obj) (ys rest:List Int) (hl:(ys++rest).length=zs.length) :
  w.grownBy (grow (putRow IM (vbD w q) g 0 (ys++rest).toArray) os) (some g) ∧
   (grow (putRow IM (vbD w q) g 0 (ys++rest).toArray) os).ownsRow 0 e 1 (.slice (some ⟨g,0,none⟩) ys.length cap) ys.length (ys.map IM):=by
 have hh:=eZ h;rcases h.2 with ⟨h1,_⟩ | ⟨g',cap',cur,h1,_,h2,h3,h4,h5,h6⟩
 ·cases h1
 ·simp only [CG,AC,DA,BX] at h1;obtain ⟨rfl,rfl,rfl⟩:=h1;rw [AW] at hl;have hcur:(ys++rest).length≤cur.size:=by rw [AW]; omega
  obtain ⟨p1,p2⟩:=zbb (zs:=ys++rest) hcur;refine ⟨⟨rfl,rfl,rfl,?_,fun k hk hne=>?_⟩,by simp,.inr ⟨g,cap,_,rfl,BZ _,Tt h2 q os _,by omega,h4,by rw [p1,h5],?_⟩⟩
  ·show w.heap.size≤((putRow IM (vbD w q) g 0 (ys++rest).toArray).heap++os).size;rw [Array.size_append,size_putRow];exact Nat.le_add_right _ _
  ·have hne':g≠k:=fun e=>hne (by rw [e])
   unfold grow;simp only;rw [Array.getElem?_append_left (by rw [size_putRow]; exact hk)];unfold putRow mapBlock;simp [va0,hne']
  ·rw [Nat.mul_one]
   have:=congrArg (AK ys.length) p2
   rw [List.take_take,var (by rw [AW]; omega),List.map_append,List.take_left' (by simp)] at this;exact this
theorem uO (w:World) (r:Option Nat):w.grownBy w r:=⟨rfl,rfl,rfl,AY _,fun _ _ _=>rfl⟩
theorem mP {l:LI} (h:∀ x∈l,AB.min≤x.toInt∧x.toInt≤AB.max) {ys:List Int} (hs:∀ y∈ys,y∈l.map IV.toInt):∀ x∈iZ ys,AB.min≤x.toInt∧x.toInt≤AB.max:=by
 intro x hx;obtain ⟨y,hy,rfl⟩:=CY.1 hx;obtain ⟨z,hz,hzy⟩:=CY.1 (hs y hy);show AB.min≤y∧y≤AB.max;rw [← hzy];exact h z hz
theorem lO {w:World} {e:Nat} {v:Value} {l:LI} (h:w.ownsRow 0 e 1 v l.length (K6 l)):(v = .slice none 0 0∧l=[])∨∃ g cap,v = .slice (some ⟨g,0,none⟩) (l.map IV.toInt).length cap∧w.ownsRow 0 e 1 (.slice (some ⟨g,0,none⟩) (l.map IV.toInt).length cap) (l.map IV.toInt).length ((l.map IV.toInt).map IM):=by
 rcases h.2 with ⟨h1,h2⟩ | ⟨g,cap,cur,h1,_⟩
 ·exact .inl ⟨h1,List.length_eq_zero_iff.1 h2⟩
 ·rw [h1] at h;refine .inr ⟨g,cap,by rw [h1,B7],?_⟩;rw [B7,← Ks];exact h
theorem zcC:PS PR 201 dQ:=by
 intro w v l l' rs ys hown hrng hlen hr hg;unfold dQ at hg;simp only at hg;split at hg
 ·simp only [AC] at hg;subst hg;obtain rfl:ys=[]:=by
   cases ys with
   | nil=>rfl
   | cons y ys=>simp [R7] at hr
  refine Does.of_calls Tryz.func201 (by kernel_rfl) (by kernel_rfl) ?_;have hmem:∀ y∈JW (l.map IV.toInt),y∈l.map IV.toInt:=fun y hy=>(SC _).mem_iff.1 hy
  rcases lO hown with ⟨rfl,rfl⟩ | ⟨g,cap,rfl,ho⟩
  ·refine (Tryz.slices_Sort_int_none none 0 w).mono ?_;rintro e w' ⟨rfl,rfl⟩;exact ⟨_,rfl,uO _ _,fun x hx=>(by cases hx),fun h=>(by cases h),fun _=>hown⟩
  ·obtain ⟨_,_,hcm,hgs,hH⟩:=eZ ho;refine (Tryz.slices_Sort_int g 0 cap (l.map IV.toInt) w hH hgs (by rw [B7]; unfold strMax at hlen; omega)).mono ?_;rintro e w' ⟨rfl,q,os,rfl⟩;rw [Vk];have hl:(JW (l.map IV.toInt)++[]).length=(l.map IV.toInt).length:=by rw [vak]; exact (SC _).length_eq
   have hp:=lQ ho q os (JW (l.map IV.toInt)) [] hl;rw [vak] at hp hl;refine ⟨_,rfl,hp.1,mP hrng hmem,fun h=>(by cases h),fun _=>?_⟩;rw [iI,NZ,← hl];exact hp.2
 ·cases hg
theorem zcA:PS PR 202 dO:=by
 intro w v l l' rs ys hown hrng hlen hr hg;unfold dO at hg;simp only at hg;split at hg
 ·simp only [AC] at hg;subst hg;obtain rfl:ys=[]:=by
   cases ys with
   | nil=>rfl
   | cons y ys=>simp [R7] at hr
  refine Does.of_calls Tryz.func202 (by kernel_rfl) (by kernel_rfl) ?_;rcases lO hown with ⟨rfl,rfl⟩ | ⟨g,cap,rfl,ho⟩
  ·refine (Tryz.slices_Compact_int_empty none 0 w).mono ?_;rintro e w' ⟨rfl,rfl⟩;exact ⟨_,rfl,uO _ _,fun x hx=>(by cases hx),fun _=>⟨hown,fun b hb=>(by simp [B6] at hb)⟩,fun h=>by cases h⟩
  ·obtain ⟨_,hnc,hcm,hgs,hH⟩:=eZ ho;refine (Tryz.slices_Compact_int g 0 cap (l.map IV.toInt) w hH (by rw [B7]; unfold strMax at hlen; omega) hnc).mono ?_;rintro e w' ⟨rfl,q,rfl⟩;rw [Lb];have hlc:=iQ (l.map IV.toInt);have hp:=lQ ho q #[] (JA (l.map IV.toInt)) (BG ((l.map IV.toInt).length - (JA (l.map IV.toInt)).length) 0) (by rw [AW,List.length_replicate]; omega);rw [grow_empty] at hp;refine ⟨_,rfl,hp.1,mP hrng fun y hy=>sV hy,fun _=>⟨?_,fun b hb=>.inl hb⟩,fun h=>by cases h⟩;rw [iI,NZ];exact hp.2
 ·cases hg
set_option maxHeartbeats 1000000 in
theorem tB (a b x:Int) (B:Nat) (W:World) (ha:W.cell? ⟨B,0,none⟩=some (.int .i64 a)) (hb:W.cell? ⟨B,1,none⟩=some (.int .i64 b)) :
  FnGives Tryz.prog 169 #[.pointer (some ⟨B,0,none⟩)] #[.int .i64 x] (.bool (decide (x < a)||decide (x≥b))) W:=by
 show Calls Tryz.prog 169 #[.int .i64 x,.pointer (some ⟨B,0,none⟩)] W _
 go_enter Tryz.func169,Tryz.ntmps169
 go_wp2
 all_goals (go_ret; exact ⟨by simp_all,0,rfl⟩)
set_option maxHeartbeats 1000000 in
theorem Ls (fv:Value) (w:World):Calls Tryz.prog 167 #[.slice none 0 0,fv] w fun e w'=>e = .returned (.slice none 0 0)∧∃ q,w'=w.drewN q:=by
 go_enter Tryz.func167,Tryz.ntmps167
 go_wp2_with (go_at_call 200; refine (Tryz.slices_IndexFunc_empty (α:=Int) none 0 fv _).mono ?_; rintro e w' ⟨rfl,rfl⟩)
 go_ret
 exact ⟨rfl,0,rfl⟩
theorem zaV {w:World} {v:Value} {f:Nat} {a b:Int} {ys:List Value} (h:R7 w v [.clo f [.bor [.int .i64 a,.int .i64 b]]] ys):∃ B,ys=[.func (.func f) #[] #[.pointer (some ⟨B,0,none⟩)]]∧B < w.heap.size∧w.cell? ⟨B,0,none⟩=some (.int .i64 a)∧w.cell? ⟨B,1,none⟩=some (.int .i64 b)∧v.ownBlock≠some B:=by
 cases ys with
 | nil=>simp [R7] at h
 | cons y r=>
  cases r with
  | cons _ _=>simp [R7] at h
  | nil=>
   simp only [R7] at h;obtain ⟨B,c,T,rfl,hh,hc,hne⟩:=h;refine ⟨B,rfl,(C9.1 hh).1,?_,?_,hne⟩
   ·simp only [vaF,hh];rw [← vaq,hc];rfl
   ·simp only [vaF,hh];rw [← vaq,hc];rfl
theorem zcB:PS PR 167 dP:=by
 intro w v l l' rs ys hown hrng hlen hr hg;unfold dP at hg;simp only at hg;split at hg
 ·rename_i f a b;cases hf:BI f 169 with
  | false=>rw [hf,DD] at hg; cases hg
  | true=>
   rw [hf,DC,AC] at hg;subst hg;obtain rfl:=FK.1 hf;obtain ⟨B,rfl,hBs,ha,hb,hne⟩:=zaV hr;have pe:KM a b (l.map IV.toInt)=(l.map IV.toInt).filter fun x=>!(decide (x < a)||decide (x≥b)):=rfl
   have eg:∀ args w,(callFunc 169 args).run Tryz.prog w = .ok (.enter 169 args) w:=enters_of Tryz.func169 (by kernel_rfl) rfl;have hp:PredAt Tryz.prog 169 #[.pointer (some ⟨B,0,none⟩)] IM (fun x=>decide (x < a)||decide (x≥b)) w:=
    fun W x hbw=>tB a b x B W ((hbw.cell (p:=⟨B,0,none⟩) hBs).trans ha) ((hbw.cell (p:=⟨B,1,none⟩) hBs).trans hb)
   rcases lO hown with ⟨rfl,rfl⟩ | ⟨g,cap,rfl,ho⟩
   ·refine Does.of_calls Tryz.func167 (by kernel_rfl) (by kernel_rfl) ((Ls _ w).mono ?_);rintro e w' ⟨rfl,q,rfl⟩;exact ⟨_,rfl,⟨rfl,rfl,rfl,AY _,fun _ _ _=>rfl⟩,fun x hx=>(by cases hx),fun _=>⟨World.ownsRow_nil _ 0 _ _,fun b hb=>(by simp [B6] at hb)⟩,fun h=>by cases h⟩
   ·obtain ⟨_,hnc,hcm,hgs,hH⟩:=eZ ho;have hBg:B≠g:=fun e=>hne (by rw [e]; rfl)
    have hpo:PredOver Tryz.prog 169 #[.pointer (some ⟨B,0,none⟩)] IM (fun x=>decide (x < a)||decide (x≥b)) g 0 (l.map IV.toInt).toArray.size w:=
     fun n os dk x _=>by
      have hcell:∀ o u,w.cell? ⟨B,o,none⟩=some u→(sortWorld IM w g 0 n dk os).cell? ⟨B,o,none⟩=some u:=fun o u hu=>by
       unfold sortWorld;rw [cell?_grow _ _ _ (by show B < (putRow _ _ _ _ _).heap.size; rw [size_putRow]; exact hBs),cell?_putRow_other _ _ g 0 _ _ (Or.inl hBg)];exact hu
      exact tB a b x B _ (hcell 0 _ ha) (hcell 1 _ hb)
    refine Does.of_calls Tryz.func167 (by kernel_rfl) (by kernel_rfl) ?_;have hcall:=Tryz.slices_DeleteFunc IM (fun _=>rfl) (fun x=>decide (x < a)||decide (x≥b)) 169 #[.pointer (some ⟨B,0,none⟩)] eg 0 Tryz.zeroValue3 g 0 cap (l.map IV.toInt).toArray w hp hpo hH (by simp; unfold strMax at hlen; omega) (by simp; rw [B7] at hnc; exact hnc);have es:(l.map IV.toInt).toArray.size=(l.map IV.toInt).length:=by simp
    rw [es] at hcall;refine hcall.mono ?_;rintro e w' ⟨rfl,q,rfl⟩;have ef:(l.map IV.toInt).toArray.toList.filter (fun x=>!(decide (x < a)||decide (x≥b)))=KM a b (l.map IV.toInt):=rfl;rw [ef];have hlc:(KM a b (l.map IV.toInt)).length≤(l.map IV.toInt).length:=List.length_filter_le ..
    have hp2:=lQ ho q #[] (KM a b (l.map IV.toInt)) (BG ((l.map IV.toInt).length - (KM a b (l.map IV.toInt)).length) 0) (by rw [AW,List.length_replicate]; omega);rw [grow_empty] at hp2;refine ⟨_,rfl,hp2.1,mP hrng fun y hy=>(List.mem_filter.1 hy).1,fun _=>⟨?_,fun b hb=>.inl hb⟩,fun h=>by cases h⟩;rw [iI,NZ];exact hp2.2
 ·cases hg
open Go Go.Proofs
set_option maxRecDepth 100000
theorem wR {dim n:Int}:∀ {l:LI} {i k:Nat} (hk:k < l.length),JF dim n i l=true→FU (l[k]).toInt=true∧MJ dim n (i+k) (DF (l[k]).toInt)=true
 | [],i,k,hk,_=>absurd hk (Nat.not_lt_zero k)
 | w :: r,i,0,hk,h=>by
  rw [JF] at h;simp only [AH] at h;exact h.1
 | w :: r,i,k+1,hk,h=>by
  rw [JF,AH] at h
  have:=wR (k:=k) (by simpa using hk) h.2
  rw [show i+1+k=i+(k+1) by omega] at this;exact this
theorem f9 {l:LI} {dim:Int} (h:GC l dim=true):(1≤l.length∧l.length≤31)∧(∀ k (hk:k < l.length),FU (l[k]).toInt=true∧MJ dim (ic l.length) k (DF (l[k]).toInt)=true)∧WH l=true:=by
 unfold GC at h;simp only [AH] at h;refine ⟨⟨AM h.1.1,AM h.1.2⟩,fun k hk=>?_,h.2.2⟩
 have:=wR hk h.2.1
 rwa [BF] at this
theorem Oz {dim n:Int} {i:Nat} {x:Nd} (h:MJ dim n i x=true) (hl:x.lf=false):x.f < dim∧x.l≠x.r∧((i:Int) < x.l∧(i:Int) < x.r)∧(x.l < n∧x.r < n):=by
 unfold MJ at h;rw [hl,DD] at h;simp only [AH,BY,BQ,BR] at h;obtain ⟨h1,h2,h3,h4⟩:=h;exact ⟨by omega,h2,by omega,by omega⟩
theorem zdD {l:LI} {d e:Int} (h:GC l d=true) (hde:d≤e):GC l e=true:=by
 have key:∀ (l:LI) (n:Int) (i:Nat),JF d n i l=true→JF e n i l=true:=by
  intro l n
  induction l with
  | nil=>intro _ _; rfl
  | cons w r ih=>
   intro i h;rw [JF] at h ⊢;simp only [AH] at h ⊢;refine ⟨⟨h.1.1,?_⟩,ih _ h.2⟩;have h2:=h.1.2;unfold MJ at h2 ⊢;cases hl:(DF w.toInt).lf with
   | true=>rfl
   | false=>
    rw [hl,DD] at h2;rw [DD];simp only [AH,BY,BQ] at h2 ⊢;exact ⟨by omega,h2.2⟩
 unfold GC at h ⊢;simp only [AH] at h ⊢;exact ⟨h.1,key _ _ _ h.2.1,h.2.2⟩
abbrev Um:KP:=⟨[4,5,6,24,25,26],[20,500],[⟨(.tmp 6),500,275,true,K9⟩]⟩
abbrev Fg (l:LI) (i:Int) (own out:LI):St:=
 ⟨[(4,.zs),(5,(.row 20 0 l.length)),(6,(.row 500 0 out.length)),(24,(.list false [(.int .u64)] l)),(25,(.int .i64 (ic (AG l)))),(26,(.int .i64 i))],[(20,(some (.row true 36 true EV own))),(500,(some (.row true 275 true K9 out)))]⟩
theorem d8 (N:Nat) (l:LI) (ht:GC l 4=true):∀ (m i n:Nat) (own out:LI),i+m=l.length→m < n→own.length=l.length→out.length≤i →
  DT (OO N) (DE RG [1,1,1,1,1,0,1,0,0]) Um n (Fg l (i:Int) own out) (DK 0 (DM (OO N) (DE RG [1,1,1,1,1,1]) (DP (OO N) none [(CA 4)] [[(.list true K9)]]))) =
   some (.list true K9 (ML (l.drop i) i own out),[])
 | m,i,0,_,_,_,h,_,_=>absurd h (by omega)
 | 0,i,n+1,own,out,hd,_,_,_=>by
  have hi:i=l.length:=by omega
  subst hi;rw [D2,Cr,JC (AY _),DD,Ni,vas,ML,B4,BS]
 | m+1,i,n+1,own,out,hd,hn,ho,hu=>by
  obtain ⟨⟨l1,l31⟩,hat,_⟩:=f9 ht;have hi:i < l.length:=by omega
  have ei:AA AB ((i:Int)+1)=((i+1:Nat):Int):=HJ (by omega);obtain ⟨hb,hf⟩:=hat i hi;have io:decide ((i:Int) < ic (l.length - 0))=true:=IN hi;rw [D2,Cr,ei,IN hi,DC,I0,B1,DC,JB hi,io,B1,BD,A9 hi,ML];simp only [BF];cases hl:(DF (l[i]).toInt).lf with
  | true=>
   rw [A2,DD,DC,DC,BH];have e1:M7 (DF (l[i]).toInt) i own=own:=by unfold M7; rw [hl,DC]
   rw [e1];cases (DW (own.getD i default)).emp with
   | true=>exact d8 N l ht m (i+1) n own out (by omega) (by omega) ho (by omega)
   | false=>
    have ih:=d8 N l ht m (i+1) n own (out++[aO (DW (own.getD i default)) (DF (l[i]).toInt).v]) (by omega) (by omega) ho (by rw [AW]; simp; omega);unfold Fg at ih;rw [AW,vae] at ih;rw [BB,DC,DC,AE (show (out.length+1)*88≤D6 by unfold D6; omega),DC,BS];exact ih
  | false=>
   obtain ⟨f4,_,_,⟨ln,rn⟩⟩:=Oz hf hl;obtain ⟨⟨f0,_⟩,⟨a1,_⟩,⟨b1,_⟩,_⟩:=lA hb hl;have hp:HG (DF (l[i]).toInt).f=true:=by unfold HG; rw [AE f0,AE (by omega)]; rfl
   have el:(decide (0≤(DF (l[i]).toInt).l)&&decide ((DF (l[i]).toInt).l < ic (l.length - 0)))=true:=by rw [AE (by omega),AE (show (DF (l[i]).toInt).l < ic (l.length - 0) from ln)]; rfl
   have er:(decide (0≤(DF (l[i]).toInt).r)&&decide ((DF (l[i]).toInt).r < ic (l.length - 0)))=true:=by rw [AE (by omega),AE (show (DF (l[i]).toInt).r < ic (l.length - 0) from rn)]; rfl
   rw [BB,DC,DC,hp,DC,el,DC,er,DC,BV,DD];have e1:M7 (DF (l[i]).toInt) i own=(own.set (DF (l[i]).toInt).l.toNat ((DW (own.getD i default)).cutL (DF (l[i]).toInt).f (DF (l[i]).toInt).a).I).set (DF (l[i]).toInt).r.toNat ((DW (own.getD i default)).cutH (DF (l[i]).toInt).f (DF (l[i]).toInt).a).I:=by unfold M7; rw [hl,DD]
   rw [e1];exact d8 N l ht m (i+1) n _ out (by omega) (by omega) (by rw [vay,vay]; exact ho) (by omega)
theorem zcD:DQ PR B0 218 YL:=by
 refine D1 [(111,NK),(112,J0),(55,K4),(96,TO)] [(7,⟨[4,5,6,24,25,26],[20,500],[⟨.tmp 6,500,275,true,[.z,.z,.z,.z,.z,.z,.z,.z,.z,.z,.z]⟩]⟩)] YL [[.list true [.z,.z,.z,.z,.z,.z,.z,.z,.z,.z,.z]]] Tryz.func218 Rr ⟨fL,UR,WW,Bd,trivial⟩ ?_;intro vs r hwf h;unfold YL at h;split at h
 ·rename_i l b;replace h:=IS h;obtain ⟨b,rfl,h⟩:=h;rw [R.get_ok] at h;refine ⟨40,?_⟩;rw [← h];refine (Xx 40 l b).trans ?_;unfold H1;cases ht:GC l 4 with
  | false=>rfl
  | true=>
   rw [A2,DD,BH];cases b.emp with
   | true=>rfl
   | false=>
    obtain ⟨⟨l1,l31⟩,_,_⟩:=f9 ht;have run:=d8 40 l ht l.length 0 40 ((BG l.length VP.I).set 0 b.I) [] (by omega) (by omega) (by simp) (BZ _);rw [DD,AE (show (0:Int)≤ic l.length by simp only [ic]; omega),AE (show ic l.length=ic l.length from rfl),AE (show ic l.length*ic 80≤ic D6 by unfold D6; simp only [ic]; omega),B1,B1,DC,
     AE (show 0≤0 from AY 0),AE (show (0:Int) < ic (AD (ic l.length) - 0) by simp only [ic]; omega),B1,DC]
    exact run
 ·simp [R.get] at h
abbrev zd7 (l:LI) (lo hi i:Int):St:=⟨[(4,(.int .i64 0)),(5,(.int .i64 0)),(6,(.bool false)),(8,(.int .i64 lo)),(9,(.int .i64 hi)),(26,(.list true K9 l)),(27,(.int .i64 (ic (AG l)))),(28,(.int .i64 i))],[]⟩
theorem pS (N:Nat) (l:LI) (hl:l.length≤strMax):∀ (m i n:Nat) (lo hi:Int),i+m=l.length→m < n →
  DT (OL N) (DE RC [1,1,1,1,0,1,0,0]) ⟨[4,5,6,8,9,26,27,28],[],[]⟩ n (zd7 l lo hi (i:Int)) (DK 0 (DM (OL N) (DE RC [1,1,1,1,1]) (DP (OL N) none [(CA 4),(CA 5),(CA 6)] [[.z],[.z],[.bool]]))) =
   some (.tup [.int .i64 (M9 (l.drop i) lo),.int .i64 (M8 (l.drop i) hi),.bool true],[])
 | m,i,0,_,_,_,h=>absurd h (by omega)
 | 0,i,n+1,lo,hi,hd,_=>by
  have hi:i=l.length:=by omega
  subst hi;rw [D2,Ca,JC (AY _),DD,vas];exact Mk N _ _ _ _ _ l _ _
 | m+1,i,n+1,lo,hi,hd,hn=>by
  have hi:i < l.length:=by omega
  have mx:strMax=140737488355327:=rfl;have ei:AA AB ((i:Int)+1)=((i+1:Nat):Int):=HJ (by omega);rw [D2,Ca,ei,IN hi,DC,I0,B1,DC,JB hi,A9 hi,M9,M8];exact pS N l hl m (i+1) n _ _ (by omega) (by omega)
theorem vV:∀ (l:LI) (i:Nat) (own out:LI),(ML l i own out).length≤out.length+l.length
 | [],_,_,out=>AY _
 | w :: r,i,own,out=>by
  rw [ML]
  have:=vV r (i+1) (M7 (DF w.toInt) i own) (cond ((DF w.toInt).lf&&!(DW (own.getD i default)).emp) (out++[aO (DW (own.getD i default)) (DF w.toInt).v]) out)
  refine CZ this ?_;cases ((DF w.toInt).lf&&!(DW (own.getD i default)).emp) with
  | true=>rw [DC,AW,vae,AN]; omega
  | false=>rw [DD,AN]; omega
theorem Ut (l:LI) (b:Bx):(H1 l b).length≤31:=by
 unfold H1;cases ht:GC l 4 with
 | false=>exact BZ _
 | true=>
  cases b.emp with
  | true=>exact BZ _
  | false=>
   have:=vV l 0 ((BG l.length VP.I).set 0 b.I) []
   have h2:=(f9 ht).1.2;simp only [A7,BF] at this;exact CZ this h2
theorem zb4:DQ PR B0 196 XR:=by
 refine D1 [(218,YL)] [(6,⟨[4,5,6,8,9,26,27,28],[],[]⟩)] XR [[.z],[.z],[.bool]] Tryz.func196 Pv ⟨zcD,trivial⟩ ?_;intro vs r hwf h;unfold XR at h;split at h
 ·rename_i l b;replace h:=IS h;obtain ⟨b,rfl,h⟩:=h;rw [R.get_ok] at h;refine ⟨40,?_⟩;rw [← h];refine (Wj 40 l b).trans ?_;have h31:=Ut l b;unfold HL HK UT aT aS;generalize H1 l b=ps at h31 ⊢;cases ps with
  | nil=>rfl
  | cons x r=>
   have run:=pS 40 (x :: r) (CZ h31 (by decide)) (x :: r).length 0 40 (G2 x) (G2 x) (by omega) (by omega);have e0:(ic (x :: r).length==0)=false:=by
    simp only [ic,AN,BR];omega
   have e1:(decide (0≤0)&&decide (0 < ic (x :: r).length))=true:=by
    rw [AE (show 0≤0 from AY 0),AE (show 0 < ic (x :: r).length by simp only [ic,AN]; omega)];rfl
   rw [e0,DD,e1,DC,DC];exact run
 ·simp [R.get] at h
theorem Vl {l:LI}:∀ {a:Int},EU a=true→(∀ x∈l,EU (G2 x)=true)→EU (M9 l a)=true:=by
 induction l with
 | nil=>intro a h _; exact h
 | cons x r ih=>
  intro a h hx;rw [M9];refine ih ?_ fun y hy=>hx y (AX _ hy)
  have:=LV h
  have:=LV (hx x (AT ..))
  unfold EU;rw [AE (by omega),AE (by omega)];rfl
theorem Vh {l:LI}:∀ {a:Int},EU a=true→(∀ x∈l,EU (G2 x)=true)→EU (M8 l a)=true:=by
 induction l with
 | nil=>intro a h _; exact h
 | cons x r ih=>
  intro a h hx;rw [M8];refine ih ?_ fun y hy=>hx y (AX _ hy)
  have:=LV h
  have:=LV (hx x (AT ..))
  unfold EU;rw [AE (by omega),AE (by omega)];rfl
theorem vU:∀ (l:LI) (i:Nat) (own out:LI),(∀ x∈out,EU (G2 x)=true)→∀ x∈ML l i own out,EU (G2 x)=true
 | [],_,_,_,h=>h
 | w :: r,i,own,out,h=>by
  rw [ML];refine vU r (i+1) _ _ ?_;cases ((DF w.toInt).lf&&!(DW (own.getD i default)).emp) with
  | true=>
   intro x hx;rcases AV.1 hx with hx | hx
   ·exact h x hx
   ·obtain rfl:=BU.1 hx;exact wQ _
  | false=>exact h
theorem Us (l:LI) (b:Bx):∀ x∈H1 l b,EU (G2 x)=true:=by
 unfold H1;cases (GC l 4&&!b.emp) with
 | true=>exact vU _ _ _ _ (fun x hx=>by cases hx)
 | false=>intro x hx; cases hx
theorem fY (l:LI) (b:Bx):EU (HL l b)=true∧EU (HK l b)=true:=by
 unfold HL HK UT;have hf:=Us l b;generalize H1 l b=ps at hf ⊢;cases ps with
 | nil=>exact ⟨rfl,rfl⟩
 | cons x r=>exact ⟨Vl (hf x (AT ..)) hf,Vh (hf x (AT ..)) hf⟩
abbrev zd6 (ts:LI) (b:Bx) (k lo hi i:Int):St:=⟨[(1,(.int .i64 k)),(5,(.ptr 5 0 0)),(6,(.int .i64 0)),(7,(.int .i64 0)),(8,(.bool false)),(9,(.int .i64 lo)),(10,(.int .i64 hi)),(42,(.list true LA ts)),(43,(.int .i64 (ic (AG ts)))),(44,(.int .i64 i))],[(5,(some (.box (Bx.cs b))))]⟩
theorem nT (N:Nat) (ts:LI) (b:Bx) (k:Int) (hts:ts.length≤8):∀ (m i n:Nat) (lo hi:Int),i+m=ts.length→m < n→(-2147483648*(i+1)≤lo∧lo≤2147483648*(i+1))→(-2147483648*(i+1)≤hi∧hi≤2147483648*(i+1)) →
  DT (GD N) (DE HX [1,1,1,0,1,0,0]) ⟨[1,5,6,7,8,9,10,42,43,44],[5],[]⟩ n (zd6 ts b k lo hi (i:Int)) (DK 0 (DM (GD N) (DE HX [1,1,1,1]) (DP (GD N) none [(CA 6),(CA 7),(CA 8)] [[.z],[.z],[.bool]]))) =
   some (.tup [.int .i64 (IB (fun l=>HL l b) k (ts.drop i) lo),.int .i64 (IB (fun l=>HK l b) k (ts.drop i) hi),.bool true],[])
 | m,i,0,_,_,_,h,_,_=>absurd h (by omega)
 | 0,i,n+1,lo,hi,hd,_,_,_=>by
  have hlt:i=ts.length:=by omega
  subst hlt;rw [D2,Bz,JC (AY _),DD,vas];exact Mj N b _ _ _ _ _ _ _ _ _
 | m+1,i,n+1,lo,hi,hd,hn,h1,h2=>by
  have hlt:i < ts.length:=by omega
  have ei:AA AB ((i:Int)+1)=((i+1:Nat):Int):=HJ (by omega);rw [D2,Bz,ei,IN hlt,DC,I0,B1,DC,JB hlt,A9 hlt,IB,IB];obtain ⟨q1,q2⟩:=fY (E3 ts[i]) b;have q1:=LV q1;have q2:=LV q2;have en:((ts[i].cell 0).toInt != k)=!((ts[i].cell 0).toInt==k):=rfl;rw [en];cases ((ts[i].cell 0).toInt==k) with
  | true=>
   rw [A2,DD,DC,DC];have ew:AA AB (lo+HL (E3 ts[i]) b)=lo+HL (E3 ts[i]) b:=EC (by omega) (by omega);have ew2:AA AB (hi+HK (E3 ts[i]) b)=hi+HK (E3 ts[i]) b:=EC (by omega) (by omega);have ih:=nT N ts b k hts m (i+1) n (lo+HL (E3 ts[i]) b) (hi+HK (E3 ts[i]) b) (by omega) (by omega) (by omega) (by omega);rw [← ew,← ew2] at ih;refine Eq.trans ih ?_;rw [ew,ew2]
  | false=>
   rw [BB,DC,DD,DD];exact nT N ts b k hts m (i+1) n lo hi (by omega) (by omega) (by omega) (by omega)
theorem m8:DQ PR B0 162 PV:=by
 refine D1 [(196,XR),(112,J0),(53,K3)] [(5,⟨[1,5,6,7,8,9,10,42,43,44],[5],[]⟩)] PV [[.z],[.z],[.bool]] Tryz.func162 Pu ⟨zb4,UR,WV,trivial⟩ ?_;intro vs r hwf h;unfold PV at h;split at h
 ·rename_i m k b;replace h:=JK h;obtain ⟨m,rfl,h⟩:=h;replace h:=IS h;obtain ⟨b,rfl,h⟩:=h;rw [R.get_ok] at h;refine ⟨10,?_⟩;rw [← h];refine (Wi 10 m k b).trans ?_;unfold D0 DV GL;cases hm:EQ m with
  | false=>rfl
  | true=>
   rw [A2,DD];cases h0:decide (k < 0) with
   | true=>
    have:HO m k=false:=by unfold HO; rw [AL (show ¬ 0≤k by have:=A1 h0; omega)]; rfl
    rw [this];rfl
   | false=>
    rw [DD];cases h1:decide (k≥m.c) with
    | true=>
     have:HO m k=false:=by unfold HO; rw [AL (show ¬ k < m.c by have:=A1 h1; omega),vau]
     rw [this];rfl
    | false=>
     have hc:HO m k=true:=by unfold HO; rw [AE (show 0≤k by have:=BE h0; omega),AE (show k < m.c by have:=BE h1; omega)]; rfl
     rw [DD,hc];cases b.emp with
     | true=>rfl
     | false=>
      have hb:=cP hm k;have run:=nT 10 m.ts b k (KS hm).2.2.1 m.ts.length 0 10 (KF m k) (KF m k) (by omega) (by have:=(KS hm).2.2.1; omega) (by omega) (by omega);rw [DD];rcases iN hm hc with rfl | rfl | rfl <;> exact run
 ·simp [R.get] at h
theorem nR (g:LI→Int) (hg:∀ l,-2147483648≤g l∧g l≤2147483648) (k:Int):∀ (ts:LI) (s:Int) (n:Nat),(-2147483648*(n:Int)≤s∧s≤2147483648*(n:Int)) → -2147483648*((n+ts.length:Nat):Int)≤IB g k ts s∧IB g k ts s≤2147483648*((n+ts.length:Nat):Int)
 | [],s,n,h=>by
  rw [IB];simpa using h
 | t :: r,s,n,h=>by
  rw [IB];have h1:=hg (E3 t)
  have:=nR g hg k r (cond (SG t==k) (s+g (E3 t)) s) (n+1) (by cases (SG t==k) <;> simp only [CO,B9] <;> omega)
  rw [AN];rw [show n+1+r.length=n+(r.length+1) by omega] at this;exact this
theorem fF {m:Md} (k:Int) (b:Bx):(-34359738368≤D0 m k b∧D0 m k b≤34359738368)∧(-34359738368≤DV m k b∧DV m k b≤34359738368):=by
 unfold D0 DV;cases hs:GL m k b with
 | false=>simp only [B9]; omega
 | true=>
  unfold GL at hs;simp only [AH] at hs;have hb:=cP hs.1 k;have h8:=(KS hs.1).2.2.1;have h1:=nR (fun l=>HL l b) (fun l=>by have:=LV (fY l b).1; omega) k m.ts (KF m k) 1 (by omega);have h2:=nR (fun l=>HK l b) (fun l=>by have:=LV (fY l b).2; omega) k m.ts (KF m k) 1 (by omega);rw [DC,DC];omega
abbrev zd4 (m:Md) (b:Bx) (k lo a:Int) (z:Bool) (i:Int):St:=⟨[(1,(.int .i64 k)),(3,(.ptr 3 0 0)),(5,(.ptr 5 0 0)),(6,(.int .i64 0)),(7,(.bool false)),(8,(.int .i64 lo)),(11,(.int .i64 a)),(12,(.bool z)),(33,(.int .i64 (Md.c m))),(34,(.int .i64 i))],[(3,(some (.box (Md.cs m)))),(5,(some (.box (Bx.cs b))))]⟩
theorem vZ (N:Nat) (m:Md) (b:Bx) (k:Int) (hc:0≤m.c∧m.c≤3) (lo:Int) (hlo : -34359738368≤lo∧lo≤34359738368):∀ (d i n:Nat) (a:Int) (z:Bool),((i+d:Nat):Int)=m.c→d < n →
  DT (OK N) (DE RB [1,1,1,1,0,1,0,0]) ⟨[1,3,5,6,7,8,11,12,33,34],[3,5],[]⟩ n (zd4 m b k lo a z (i:Int)) (DK 0 (DM (OK N) (DE RB [1,1,1,1,1]) (DP (OK N) none [(CA 6),(CA 7)] [[.z],[.bool]]))) =
   some (.tup [.int .i64 (O6 m k lo b d (i:Int) a z),.bool true],[])
 | d,i,0,_,_,_,h=>absurd h (by omega)
 | 0,i,n+1,a,z,hd,_=>by
  rw [D2,Bw,AL (show ¬ (i:Int) < m.c by omega),DD];exact Mi N m b _ _ _ _ _ _ _ _
 | d+1,i,n+1,a,z,hd,hn=>by
  have ei:AA AB ((i:Int)+1)=((i+1:Nat):Int):=HJ (by omega);have hs:=(fF (m:=m) (i:Int) b).2;have ew:AA AB (lo - DV m (i:Int) b)=lo - DV m (i:Int) b:=EC (by omega) (by omega);have ec:(i:Int)+1=((i+1:Nat):Int):=by omega
  rw [D2,Bw,ei,ew,AE (show (i:Int) < m.c by omega),DC,O6,ec];have ih:=fun a z=>vZ N m b k hc lo hlo d (i+1) n a z (by omega) (by omega)
  cases ((i:Int)==k) with
  | true=>exact ih a z
  | false=>
   rw [DD,DD];cases z with
   | false=>exact ih _ true
   | true=>
    rw [A2,DD,vaB];cases decide (lo - DV m (i:Int) b < a) with
    | true=>exact ih _ true
    | false=>exact ih a true
theorem zb3:DQ PR B0 163 XQ:=by
 refine D1 [(162,PV)] [(6,⟨[1,3,5,6,7,8,11,12,33,34],[3,5],[]⟩)] XQ [[.z],[.bool]] Tryz.func163 Ps ⟨m8,trivial⟩ ?_;intro vs r hwf h;unfold XQ at h;split at h
 ·rename_i m k b;replace h:=JK h;obtain ⟨m,rfl,h⟩:=h;replace h:=IS h;obtain ⟨b,rfl,h⟩:=h;rw [R.get_ok] at h;refine ⟨10,?_⟩;rw [← h];refine (Wh 10 m k b).trans ?_;unfold RT LY;cases hs:GL m k b with
  | false=>rfl
  | true=>
   have hm:EQ m=true:=by unfold GL at hs; simp only [AH] at hs; exact hs.1
   have hc:=(KS hm).2.1;rw [A2,DD];cases h2:decide (m.c < 2) with
   | true=>rw [AL (show ¬ m.c≥2 by have:=A1 h2; omega)]; rfl
   | false=>
    rw [AE (show m.c≥2 by have:=BE h2; omega),DD];exact vZ 10 m b k (by omega) (D0 m k b) (fF k b).1 m.c.toNat 0 10 0 false (by omega) (by omega)
 ·simp [R.get] at h
theorem zco:DQ PR B0 165 X9:=by
 refine D1 [(162,PV),(198,YA),(199,YC),(197,NO)] [] X9 [[.z],[.z],[.bool]] Tryz.func165 Qv ⟨m8,zcp,zcr,fN,trivial⟩ ?_;intro vs r hwf h;unfold X9 at h;split at h
 ·rename_i m q b;replace h:=JK h;obtain ⟨m,rfl,h⟩:=h;replace h:=JL h;obtain ⟨q,rfl,h⟩:=h;replace h:=IS h;obtain ⟨b,rfl,h⟩:=h;rw [R.get_ok] at h;refine ⟨0,?_⟩;rw [← h];refine (Xe 0 m q b).trans ?_;have h1:=fF (m:=m) q.c (IZ q b);have h2:=fF (m:=m) q.c (I4 q b);rw [EC (n:=D0 m q.c (I4 q b) - DV m q.c (IZ q b)) (by omega) (by omega),EC (n:=DV m q.c (I4 q b) - D0 m q.c (IZ q b)) (by omega) (by omega)];unfold P8 P7 J1;cases GM q <;> cases GL m q.c (IZ q b) <;> cases GL m q.c (I4 q b) <;> rfl
 ·simp [R.get] at h
theorem zct:DQ PR B0 122 YE:=by
 refine D1 [(163,XQ),(162,PV),(112,J0),(165,X9),(164,YB),(65,MB)] [] YE [[.bool]] Tryz.func122 Rj ⟨zb3,m8,UR,zco,zcq,bD,trivial⟩ ?_;intro vs r hwf h;unfold YE at h;split at h
 ·rename_i m q b;replace h:=JK h;obtain ⟨m,rfl,h⟩:=h;replace h:=JL h;obtain ⟨q,rfl,h⟩:=h;replace h:=IS h;obtain ⟨b,rfl,h⟩:=h;rw [R.get_ok] at h;refine ⟨0,?_⟩;rw [← h];refine (Xq 0 m q b).trans ?_;unfold GG;cases E6 m q <;> cases b.emp <;> cases (q.k==1) <;> cases (q.k==2) <;> cases GL m q.c b <;> cases decide (q.lo≤D0 m q.c b) <;> cases LY m q.c b <;> cases N3 q b <;> cases q.fl <;> cases J1 m q b <;> rfl
 ·simp [R.get] at h
theorem zcu:DQ PR B0 123 YF:=by
 refine D1 [(81,XT)] [] YF [[.z,.z,.z,.z],[.z]] Tryz.func123 Rk ⟨zb6,trivial⟩ ?_;intro vs r hwf h;unfold YF at h;split at h
 ·rename_i b;replace h:=IS h;obtain ⟨b,rfl,h⟩:=h;rw [R.get_ok] at h;exact ⟨0,(Xr 0 b).trans h⟩
 ·simp [R.get] at h
theorem zcx:DQ PR B0 166 YI:=by
 refine D1 [] [] YI [[.z]] Tryz.func166 Rn trivial ?_;intro vs r hwf h;unfold YI at h;split at h
 ·rename_i q i;replace h:=JL h;obtain ⟨q,rfl,h⟩:=h;rw [R.get_ok] at h;refine ⟨0,?_⟩;rw [← h];refine (Xt 0 q i).trans ?_;unfold IY;cases decide (i≥0) <;> cases decide (i < 4) <;> cases (i==4) <;> cases (q.k==3) <;> rfl
 ·simp [R.get] at h
def iW (m:Md) (f:Int) (s:Sp):DH:=
 cond (decide (f < 0)) (some (.list false [.z] [],[]))
  (cond (EQ m)
   (cond (BI (iZ (I6 m.ts f)).length (iZ (I6 m.ts f)).length)
    (cond (BW (iZ (KM s.lo s.hi ((iZ (I6 m.ts f)).map IV.toInt))).length (iZ (I6 m.ts f)).length)
     (some (.list false [.z] (AR 0 (AK (iZ (KM s.lo s.hi ((iZ (I6 m.ts f)).map IV.toInt))).length (iZ (KM s.lo s.hi ((iZ (I6 m.ts f)).map IV.toInt))))),[])) none) none) none)
theorem Lg {m:Md} (hm:EQ m=true) (f:Int) (s:Sp):iW m f s=some (.list false [.z] (iZ (cond (decide (f < 0)) [] (KM s.lo s.hi (I6 m.ts f)))),[]):=by
 unfold iW;cases decide (f < 0) with
 | true=>rfl
 | false=>
  rw [DD,hm,DC,vbh,DC,jX,DD];have hle:(iZ (KM s.lo s.hi (I6 m.ts f))).length≤(iZ (I6 m.ts f)).length:=by
   rw [NZ,NZ];exact List.length_filter_le ..
  rw [C2 hle,DC,B4,BS]
theorem zbD (m:Md) (q:Qy) (b:Bx):∀ i:Nat,i < 5→DS (oV 0) iD [.tmp 8] [[.list false [.z]]] [m.V,q.V,b.V,.int .i64 (i:Int)]=iW m (IY q (i:Int)) (b.g i)
 | 0,_=>by kernel_rfl
 | 1,_=>by kernel_rfl
 | 2,_=>by kernel_rfl
 | 3,_=>by kernel_rfl
 | 4,_=>by kernel_rfl
 | i+5,h=>absurd h (by omega)
abbrev vE:KP:=⟨[1,4,5,16,17,18],[500],[⟨(.tmp 5),500,3,false,[.z]⟩]⟩
abbrev vF:KP:=⟨[1,4,5,16,17,18,23,24,25],[500],[⟨(.tmp 5),500,3,false,[.z]⟩]⟩
abbrev gN (f:Int) (ts:LI) (i:Int) (W:LI) (j:Int) (O:LI):St:=
 ⟨[(1,(.int .i64 f)),(4,.zs),(5,(.row 500 0 O.length)),(16,(.list true LA ts)),(17,(.int .i64 (ic ts.length))),(18,(.int .i64 i)),(23,(.list false [(.int .u64)] W)),(24,(.int .i64 (ic W.length))),(25,(.int .i64 j))],[(500,(some (.row true 3 false [.z] O)))]⟩
theorem f3 (N:Nat) (f:Int) (ts:LI) (i:Int) (W:LI) (hW:W.length≤31) (K:Out→St→DH):∀ (m j n:Nat) (O:LI),j+m=W.length→m < n→O.length+m≤1000 →
  DT (MA N) (DE M1 [1,1,1,0,1,0,0,1,1,0,0,1,1,0,0]) vF n (gN f ts i W (j:Int) O) K=K (.exit 2) (gN f ts i W (ic W.length) (O++iZ ((W.drop j).flatMap (OC f))))
 | m,j,0,_,_,h,_=>absurd h (by omega)
 | 0,j,n+1,O,hd,_,_=>by
  have hj:j=W.length:=by omega
  subst hj;rw [D2,Cu,JC (AY _),DD,vas];show K (.exit 2) _=K (.exit 2) (gN f ts i W (ic W.length) (O++[]));rw [vak]
 | m+1,j,n+1,O,hd,hn,hO=>by
  have hj:j < W.length:=by omega
  have ej:AA AB ((j:Int)+1)=((j+1:Nat):Int):=HJ (by omega);rw [D2,Cu,ej,IN hj,DC,I0,B1,DC,JB hj,A9 hj,vaX];unfold OC;cases (DF (W[j]).toInt).lf with
  | true=>
   rw [A2,DD,BV,DD,vba];exact f3 N f ts i W hW K m (j+1) n O (by omega) (by omega) (by omega)
  | false=>
   rw [BB,DC,BH];cases ((DF (W[j]).toInt).f==f) with
   | false=>
    rw [DD,DD,vba];exact f3 N f ts i W hW K m (j+1) n O (by omega) (by omega) (by omega)
   | true=>
    rw [DC,DC,AE (show (O.length+1)*8≤D6 by unfold D6; omega),DC,BS];have ih:=f3 N f ts i W hW K m (j+1) n (O++[IV.int (DF (W[j]).toInt).a]) (by omega) (by omega) (by rw [AW,vae]; omega);rw [vbj] at ih;unfold gN at ih ⊢;rw [AW,vae] at ih;exact ih
abbrev oS (f:Int) (ts:LI) (i:Int) (O:LI):St:=
 ⟨[(1,(.int .i64 f)),(4,.zs),(5,(.row 500 0 O.length)),(16,(.list true LA ts)),(17,(.int .i64 (ic ts.length))),(18,(.int .i64 i))],[(500,(some (.row true 3 false [.z] O)))]⟩
theorem nX (f:Int):∀ W:LI,(W.flatMap (OC f)).length≤W.length
 | []=>AY _
 | w :: r=>by
  rw [vaX,AW,AN]
  have:=nX f r
  unfold OC at this ⊢;cases (!(DF w.toInt).lf&&(DF w.toInt).f==f) <;> simp only [CO,B9,A7,vae] <;> omega
theorem Dz {d c:Int} {t:IV} (h:GY d c t=true):(0≤SG t∧SG t < c)∧GC (E3 t) d=true:=by
 unfold GY at h;simp only [AH,BY,BQ] at h;exact ⟨⟨by show 0≤(t.cell 0).toInt; omega,by show (t.cell 0).toInt < c; omega⟩,h.2.2⟩
theorem Ec {d c:Int} {ts:LI} (h:ts.all (GY d c)=true) {t:IV} (ht:t∈ts):(E3 t).length≤31:=by
 have:=(Dz (CP.1 h t ht)).2
 exact (f9 this).1.2
theorem Du (N:Nat) (hN:40≤N) (f:Int) (ts:LI) (hts:ts.length≤8) (hW:∀ t∈ts,(E3 t).length≤31) (K:Out→St→DH):∀ (m i n:Nat) (O:LI),i+m=ts.length→m < n→O.length≤31*i →
  DT (MA N) (DE M1 [1,1,1,0,1,0,0]) vE n (oS f ts (i:Int) O) K=K (.exit 0) (oS f ts (ic ts.length) (O++iZ (KY (ts.drop i) f)))
 | m,i,0,_,_,h,_=>absurd h (by omega)
 | 0,i,n+1,O,hd,_,_=>by
  have hi:i=ts.length:=by omega
  subst hi;rw [D2,Ct,JC (AY _),DD,vas];show K (.exit 0) _=K (.exit 0) (oS f ts (ic ts.length) (O++[]));rw [vak]
 | m+1,i,n+1,O,hd,hn,hO=>by
  have hi:i < ts.length:=by omega
  have ei:AA AB ((i:Int)+1)=((i+1:Nat):Int):=HJ (by omega);have hw:=hW ts[i] (CX hi);have hl:=nX f (E3 ts[i]);rw [D2,Ct,IN hi,DC,I0,B1,DC,JB hi,A9 hi];refine (f3 N f ts (i:Int) (E3 ts[i]) hw _ (E3 ts[i]).length 0 N O (by omega) (by omega) (by omega)).trans ?_;rw [Nm,ei,B4];have ih:=Du N hN f ts hts hW K m (i+1) n (O++iZ ((E3 ts[i]).flatMap (OC f))) (by omega) (by omega) (by rw [AW,NZ]; omega);have e:KY (ts[i] :: ts.drop (i+1)) f=(E3 ts[i]).flatMap (OC f)++KY (ts.drop (i+1)) f:=by unfold KY; rw [vaX]
  rw [e];have e2:iZ ((E3 ts[i]).flatMap (OC f)++KY (ts.drop (i+1)) f)=iZ ((E3 ts[i]).flatMap (OC f))++iZ (KY (ts.drop (i+1)) f):=by unfold iZ; rw [List.map_append]
  rw [e2,← vbj];exact ih
theorem zcF:DQ PR B0 168 YN:=by
 refine Ah [(53,K3),(55,K4)] [(202,dO),(201,dQ)] [(5,vE),(8,vF)] YN [] Tryz.func168 Rv ⟨WV,WW,trivial⟩ ⟨zcA,zcC,trivial⟩ ?_;intro vs r hwf h;unfold YN at h;split at h
 ·rename_i m f;replace h:=JK h;obtain ⟨m,rfl,h⟩:=h;cases hm:EQ m with
  | false=>rw [hm] at h; simp [R.get] at h
  | true=>
   rw [hm,R.get_br,DC,R.get_ok] at h;refine ⟨40,?_⟩;rw [← h];refine (Yb 40 m f).trans ?_;have hmp:=KS hm;rw [hm,A2,DD];refine (Du 40 (by omega) f m.ts hmp.2.2.1 (fun t ht=>Ec hmp.2.2.2.2 ht) _ m.ts.length 0 40 [] (by omega) (by have:=hmp.2.2.1; omega) (BZ _)).trans ?_;rw [B4,vba,Nl,vbh,DC,jX];have e1:(iZ (JW (KY m.ts f))).length=(iZ (KY m.ts f)).length:=by rw [NZ,NZ]; exact (SC _).length_eq
   have e2:(iZ (JA (JW (KY m.ts f)))).length≤(iZ (KY m.ts f)).length:=by rw [← e1,NZ,NZ]; exact iQ _
   rw [e1,vbh,DC,DC,jX,C2 e2,DC,BS];rfl
 ·simp [R.get] at h
theorem zcw:DQ PR B0 126 YH:=by
 refine Ah [(166,YI),(168,YN)] [(167,dP)] [] YH [[.list false [.z]]] Tryz.func126 Rm ⟨zcx,zcF,trivial⟩ ⟨zcB,trivial⟩ ?_;intro vs r hwf h;unfold YH at h;split at h
 ·rename_i m q b i;replace h:=JK h;obtain ⟨m,rfl,h⟩:=h;replace h:=JL h;obtain ⟨q,rfl,h⟩:=h;replace h:=IS h;obtain ⟨b,rfl,h⟩:=h;cases hg:(EQ m&&HG i) with
  | false=>rw [hg] at h; simp [R.get] at h
  | true=>
  rw [hg,R.get_br,DC,R.get_ok] at h;rw [AH] at hg;refine ⟨0,?_⟩;rw [← h];have key:∀ k:Nat,k < 5→DS (oV 0) iD [.tmp 8] [[.list false [.z]]] [m.V,q.V,b.V,.int .i64 (k:Int)]=some (.list false [.z] (iZ (EZ m q b k)),[]):=fun k hk=>by
   rw [zbD m q b k hk,Lg hg.1];rfl
  rcases uU hg.2 with rfl | rfl | rfl | rfl | rfl
  ·exact key 0 (by omega)
  ·exact key 1 (by omega)
  ·exact key 2 (by omega)
  ·exact key 3 (by omega)
  ·exact key 4 (by omega)
 ·simp [R.get] at h
abbrev zd5 (m:Md) (q:Qy) (b:Bx) (i:Int):St:=⟨[(3,(.ptr 3 0 0)),(4,(.ptr 4 0 0)),(5,(.ptr 5 0 0)),(6,(.int .i64 0)),(7,(.int .i64 0)),(8,(.bool false)),(11,(.int .i64 i))],[(3,(some (.box (Md.cs m)))),(4,(some (.box (Qy.cs q)))),(5,(some (.box (Bx.cs b))))]⟩
theorem Lk {m:Md} (hm:EQ m=true) (q:Qy) (b:Bx) (i:Nat):(EZ m q b i).length≤248:=by
 have key:∀ (ts:LI) (f:Int),(∀ t∈ts,(E3 t).length≤31)→(KY ts f).length≤31*ts.length:=by
  intro ts f
  induction ts with
  | nil=>intro _; exact AY _
  | cons t r ih=>
   intro ht;have h1:=ih fun u hu=>ht u (AX _ hu)
   have h2:=nX f (E3 t);have h3:=ht t (AT ..);unfold KY at h1 ⊢;rw [vaX,AW,AN];omega
 have hmp:=KS hm;have h1:=key m.ts (IY q (i:Int)) fun t ht=>Ec hmp.2.2.2.2 ht
 unfold EZ;cases decide (IY q (i:Int) < 0) with
 | true=>exact BZ _
 | false=>
  rw [DD];have h2:(KM (b.g i).lo (b.g i).hi (I6 m.ts (IY q (i:Int)))).length≤(I6 m.ts (IY q (i:Int))).length:=List.length_filter_le ..
  have h3:(I6 m.ts (IY q (i:Int))).length≤(KY m.ts (IY q (i:Int))).length:=by
   unfold I6;exact CZ (iQ _) (Nat.le_of_eq (SC _).length_eq)
  have:=hmp.2.2.1
  omega
theorem Br (N:Nat) (m:Md) (hm:EQ m=true) (q:Qy) (b:Bx):∀ (d i n:Nat),i+d=5→d < n →
  DT (MW N) (DE P4 [1,0,1,0,0]) ⟨[3,4,5,6,7,8,11],[3,4,5],[]⟩ n (zd5 m q b (i:Int)) (DK 0 (DM (MW N) (DE P4 [1,1]) (DP (MW N) none [(CA 6),(CA 7),(CA 8)] [[.z],[.z],[.bool]]))) =
   some (.tup [.int .i64 (I5 (J9 m q b d i)),.int .i64 (IA (J9 m q b d i)),.bool (J9 m q b d i).isSome],[])
 | d,i,0,_,h=>absurd h (by omega)
 | 0,i,n+1,hd,_=>by
  have hi:i=5:=by omega
  subst hi;rw [D2,Cq,AL (show ¬ ((5:Nat):Int) < 5 by omega),DD];exact Ng N m q b _ _ _ _
 | d+1,i,n+1,hd,hn=>by
  have hp:HG (i:Int)=true:=by unfold HG; rw [AE (show (0:Int)≤(i:Int) by omega),AE (show (i:Int) < 5 by omega)]; rfl
  have ei:AA AB ((i:Int)+1)=((i+1:Nat):Int):=HJ (by omega);have hc:=Lk hm q b i;rw [D2,Cq,ei,AE (show (i:Int) < 5 by omega),DC,hm,hp,B1,DC,BD,J9,NZ];generalize EZ m q b i=cs at hc ⊢;have ed:decide (ic cs.length > 0)=decide (cs.length > 0):=by rw [va6]; simp
  rw [ed];cases hpos:decide (cs.length > 0) with
  | true=>
   have hpos:=A1 hpos;have ew:AA AB (Int.tdiv (AA AB (ic cs.length - 1)) 2)=(((cs.length - 1) / 2:Nat):Int):=by
    have e1:AA AB (ic cs.length - 1)=((cs.length - 1:Nat):Int):=by rw [EC (by simp only [ic]; omega) (by simp only [ic]; omega)]; simp only [ic]; omega
    have e2:Int.tdiv ((cs.length - 1:Nat):Int) 2=(((cs.length - 1) / 2:Nat):Int):=by
     rw [Int.tdiv_eq_ediv_of_nonneg (by omega)];omega
    rw [e1,e2,EC (by omega) (by omega)]
   have hlt:(cs.length - 1) / 2 < cs.length:=by omega
   rw [DC,ew,I0,AE (show (((cs.length - 1) / 2:Nat):Int) < ic cs.length by simp only [ic]; omega),B1,DC,DC,BD];have eg:IV.toInt (AI (iZ cs) ((cs.length - 1) / 2) default)=cs.getD ((cs.length - 1) / 2) 0:=by
    unfold iZ;rw [BO,BO,B5,A6 hlt];rfl
   rw [eg];exact Nh N m q b _ _ _ _
  | false=>
   rw [DD,DD];exact Br N m hm q b d (i+1) n (by omega) (by omega)
theorem zcv:DQ PR B0 124 YG:=by
 refine D1 [(126,YH)] [(2,⟨[3,4,5,6,7,8,11],[3,4,5],[]⟩)] YG [[.z],[.z],[.bool]] Tryz.func124 Rl ⟨zcw,trivial⟩ ?_;intro vs r hwf h;unfold YG at h;split at h
 ·rename_i m q b;replace h:=JK h;obtain ⟨m,rfl,h⟩:=h;replace h:=JL h;obtain ⟨q,rfl,h⟩:=h;replace h:=IS h;obtain ⟨b,rfl,h⟩:=h;cases hg:(EQ m) with
  | false=>rw [hg] at h; simp [R.get] at h
  | true=>
  rw [hg,R.get_br,DC,R.get_ok] at h;refine ⟨10,?_⟩;rw [← h];exact (Xs 10 m q b).trans (Br 10 m hg q b 5 0 10 rfl (by omega))
 ·simp [R.get] at h
open Go Go.Proofs
def Hr (N:Nat):Env:=DZ [(65,MB),(66,TB)] [] 26 N
theorem Ys (N:Nat) (m:Md) (q:Qy):DS (Hr N) rW [.tmp 4] [[.list false []]] [(Md.V m),(Qy.V q)]=(cond (!E6 m q) (some ((.bor (FJ m q [.zs,.zs,.i 4,.zs,.i 0,.i 0,.i 0,.i 0,.i 0,.i 0,.i 0])),[])) (some ((.bor (FJ m q [.vec 36 true EV [(Bx.I (GW q))],.zs,.i 0,.zs,.i 0,.i 0,.i 0,.i 0,.i 0,.i 0,.i 0])),[]))):=by kernel_rfl
def bW (N:Nat):Env:=DZ [(125,cA)] [] 22 N
theorem Yw (N:Nat) (m:Md) (q:Qy) (left u00:LI) (k w0 w1 w2 w3 tw vs sp:Int):DS (bW N) ZL [.cell 2 55] [[.z,.list true [.bool,.z,.z],.z,.z,.z,.z,.z,.z]] [.bor (FJ m q [.vec 36 true EV left,.vec 127 true EH u00,.i k,.zs,.i w0,.i w1,.i w2,.i w3,.i tw,.i vs,.i sp])]=(cond (k==0) (some ((.agg [.i 3,.list true EH [],.i w0,.i w1,.i w2,.i w3,.i tw,.i sp]),[(FJ m q [.vec 36 true EV (AK (AG left) left),.vec 127 true EH (AK (AG u00) u00),.i k,.zs,.i w0,.i w1,.i w2,.i w3,.i tw,.i vs,.i sp])])) (some ((.agg [.i k,.list true EH [],.i w0,.i w1,.i w2,.i w3,.i tw,.i sp]),[(FJ m q [.vec 36 true EV (AK (AG left) left),.vec 127 true EH (AK (AG u00) u00),.i k,.zs,.i w0,.i w1,.i w2,.i w3,.i tw,.i vs,.i sp])]))):=by kernel_rfl
theorem Yx (N:Nat) (m:Md) (q:Qy) (left:LI) (k w0 w1 w2 w3 tw vs sp:Int):DS (bW N) ZL [.cell 2 55] [[.z,.list true [.bool,.z,.z],.z,.z,.z,.z,.z,.z]] [.bor (FJ m q [.vec 36 true EV left,.zs,.i k,.zs,.i w0,.i w1,.i w2,.i w3,.i tw,.i vs,.i sp])]=(cond (k==0) (some ((.agg [.i 3,.list true EH [],.i w0,.i w1,.i w2,.i w3,.i tw,.i sp]),[(FJ m q [.vec 36 true EV (AK (AG left) left),.zs,.i k,.zs,.i w0,.i w1,.i w2,.i w3,.i tw,.i vs,.i sp])])) (some ((.agg [.i k,.list true EH [],.i w0,.i w1,.i w2,.i w3,.i tw,.i sp]),[(FJ m q [.vec 36 true EV (AK (AG left) left),.zs,.i k,.zs,.i w0,.i w1,.i w2,.i w3,.i tw,.i vs,.i sp])]))):=by kernel_rfl
theorem Yy (N:Nat) (m:Md) (q:Qy) (left u00 vp:LI) (k w0 w1 w2 w3 tw vs sp:Int):DS (bW N) ZL [.cell 2 55] [[.z,.list true [.bool,.z,.z],.z,.z,.z,.z,.z,.z]] [.bor (FJ m q [.vec 36 true EV left,.list true EH u00,.i k,.list true EH vp,.i w0,.i w1,.i w2,.i w3,.i tw,.i vs,.i sp])]=(cond (k==0) (cond (BW (AG vp) 100000) (some ((.agg [.i 3,.list true EH (AR 0 (AK (AG vp) vp)),.i w0,.i w1,.i w2,.i w3,.i tw,.i sp]),[(FJ m q [.vec 36 true EV (AK (AG left) left),.list true EH u00,.i k,.list true EH vp,.i w0,.i w1,.i w2,.i w3,.i tw,.i vs,.i sp])])) none) (cond (BW (AG vp) 100000) (some ((.agg [.i k,.list true EH (AR 0 (AK (AG vp) vp)),.i w0,.i w1,.i w2,.i w3,.i tw,.i sp]),[(FJ m q [.vec 36 true EV (AK (AG left) left),.list true EH u00,.i k,.list true EH vp,.i w0,.i w1,.i w2,.i w3,.i tw,.i vs,.i sp])])) none)):=by kernel_rfl
theorem Yz (N:Nat) (m:Md) (q:Qy) (k w0 w1 w2 w3 tw vs sp:Int):DS (bW N) ZL [.cell 2 55] [[.z,.list true [.bool,.z,.z],.z,.z,.z,.z,.z,.z]] [.bor (FJ m q [.zs,.zs,.i k,.zs,.i w0,.i w1,.i w2,.i w3,.i tw,.i vs,.i sp])]=(cond (k==0) (some ((.agg [.i 3,.list true EH [],.i w0,.i w1,.i w2,.i w3,.i tw,.i sp]),[(FJ m q [.zs,.zs,.i k,.zs,.i w0,.i w1,.i w2,.i w3,.i tw,.i vs,.i sp])])) (some ((.agg [.i k,.list true EH [],.i w0,.i w1,.i w2,.i w3,.i tw,.i sp]),[(FJ m q [.zs,.zs,.i k,.zs,.i w0,.i w1,.i w2,.i w3,.i tw,.i vs,.i sp])]))):=by kernel_rfl
def bV (N:Nat):Env:=DZ [(111,NK),(122,YE),(123,YF),(124,YG),(70,TA)] [] 165 N
theorem wK (N:Nat) (m:Md) (q:Qy) (left u00:LI) (k w0 w1 w2 w3 tw vs sp:Int):DS (bV N) ZK [.tmp 2] [[.bool]] [.bor (FJ m q [.vec 36 true EV left,.vec 127 true EH u00,.i k,.zs,.i w0,.i w1,.i w2,.i w3,.i tw,.i vs,.i sp])]=(cond (k != 0) (some ((.bool false),[(FJ m q [.vec 36 true EV (AK (AG left) left),.vec 127 true EH (AK (AG u00) u00),.i k,.zs,.i w0,.i w1,.i w2,.i w3,.i tw,.i vs,.i sp])])) (cond (decide (sp≥Qy.bu q)) (some ((.bool false),[(FJ m q [.vec 36 true EV (AK (AG left) left),.vec 127 true EH (AK (AG u00) u00),.i k,.zs,.i w0,.i w1,.i w2,.i w3,.i tw,.i vs,.i sp])])) (cond (decide (0≤AA AB (ic (AG left - 0) - 1))&&decide (AA AB (ic (AG left - 0) - 1) < ic (AG left - 0))) (cond (decide (0≤AA AB (ic (AG left - 0) - 1))&&decide (AA AB (ic (AG left - 0) - 1)≤ic (AG left - 0))) (cond (GG m q (DW (AI left (0+AD (AA AB (ic (AG left - 0) - 1))) default))) (cond (decide ((AG u00+1)*24≤D6)) (cond (ic (0+AD (AA AB (ic (AG left - 0) - 1)) - 0)==0) (some ((.bool true),[(FJ m q [.vec 36 true EV (AK (0+AD (AA AB (ic (AG left - 0) - 1))) left),.list true EH (AR 0 (AK (AG u00+1) (AK (AG u00) u00++[IV.agg [IV.bool true,IV.int 0,IV.int 0]]))),.i 1,.list true EH (AR 0 (AK (AG u00+1) (AK (AG u00) u00++[IV.agg [IV.bool true,IV.int 0,IV.int 0]]))),.i 0,.i 0,.i 0,.i 0,.i 0,.i 0,.i (AA AB (sp+1))])])) (some ((.bool true),[(FJ m q [.vec 36 true EV (AK (0+AD (AA AB (ic (AG left - 0) - 1))) left),.vec 127 true EH (AK (AG u00+1) (AK (AG u00) u00++[IV.agg [IV.bool true,IV.int 0,IV.int 0]])),.i k,.zs,.i w0,.i w1,.i w2,.i w3,.i tw,.i vs,.i (AA AB (sp+1))])]))) none) (cond (G0 m q (Bx.low (DW (AI left (0+AD (AA AB (ic (AG left - 0) - 1))) default))) (Sp.hi (Bx.s4 (DW (AI left (0+AD (AA AB (ic (AG left - 0) - 1))) default))))) (some ((.bool true),[(FJ m q [.vec 36 true EV (AK (0+AD (AA AB (ic (AG left - 0) - 1))) left),.vec 127 true EH (AK (AG u00) u00),.i 2,.zs,.i (Pt.p0 (Bx.low (DW (AI left (0+AD (AA AB (ic (AG left - 0) - 1))) default)))),.i (Pt.p1 (Bx.low (DW (AI left (0+AD (AA AB (ic (AG left - 0) - 1))) default)))),.i (Pt.p2 (Bx.low (DW (AI left (0+AD (AA AB (ic (AG left - 0) - 1))) default)))),.i (Pt.p3 (Bx.low (DW (AI left (0+AD (AA AB (ic (AG left - 0) - 1))) default)))),.i (Sp.hi (Bx.s4 (DW (AI left (0+AD (AA AB (ic (AG left - 0) - 1))) default)))),.i 0,.i (AA AB (sp+1))])])) (cond (EQ m) (cond (!Option.isSome (EL m q (DW (AI left (0+AD (AA AB (ic (AG left - 0) - 1))) default)))) (some ((.bool true),[(FJ m q [.vec 36 true EV (AK (0+AD (AA AB (ic (AG left - 0) - 1))) left),.vec 127 true EH (AK (AG u00) u00),.i 3,.zs,.i 0,.i 0,.i 0,.i 0,.i 0,.i 0,.i (AA AB (sp+1))])])) (cond (HG (I5 (EL m q (DW (AI left (0+AD (AA AB (ic (AG left - 0) - 1))) default))))) (cond (decide ((0+AD (AA AB (ic (AG left - 0) - 1))+2)*80≤D6)) (cond (decide ((AG u00+1)*24≤D6)) (some ((.bool true),[(FJ m q [.vec 36 true EV (AK (0+AD (AA AB (ic (AG left - 0) - 1))+2) (AK (0+AD (AA AB (ic (AG left - 0) - 1))) left++[(Bx.I (Bx.cutH (DW (AI left (0+AD (AA AB (ic (AG left - 0) - 1))) default)) (I5 (EL m q (DW (AI left (0+AD (AA AB (ic (AG left - 0) - 1))) default)))) (IA (EL m q (DW (AI left (0+AD (AA AB (ic (AG left - 0) - 1))) default)))))),(Bx.I (Bx.cutL (DW (AI left (0+AD (AA AB (ic (AG left - 0) - 1))) default)) (I5 (EL m q (DW (AI left (0+AD (AA AB (ic (AG left - 0) - 1))) default)))) (IA (EL m q (DW (AI left (0+AD (AA AB (ic (AG left - 0) - 1))) default))))))])),.vec 127 true EH (AK (AG u00+1) (AK (AG u00) u00++[IV.agg [IV.bool false,IV.int (I5 (EL m q (DW (AI left (0+AD (AA AB (ic (AG left - 0) - 1))) default)))),IV.int (IA (EL m q (DW (AI left (0+AD (AA AB (ic (AG left - 0) - 1))) default))))]])),.i k,.zs,.i w0,.i w1,.i w2,.i w3,.i tw,.i vs,.i (AA AB (sp+1))])])) none) none) none)) none))) none) none))):=by kernel_rfl
theorem wL (N:Nat) (m:Md) (q:Qy) (left:LI) (k w0 w1 w2 w3 tw vs sp:Int):DS (bV N) ZK [.tmp 2] [[.bool]] [.bor (FJ m q [.vec 36 true EV left,.zs,.i k,.zs,.i w0,.i w1,.i w2,.i w3,.i tw,.i vs,.i sp])]=(cond (k != 0) (some ((.bool false),[(FJ m q [.vec 36 true EV (AK (AG left) left),.zs,.i k,.zs,.i w0,.i w1,.i w2,.i w3,.i tw,.i vs,.i sp])])) (cond (decide (sp≥Qy.bu q)) (some ((.bool false),[(FJ m q [.vec 36 true EV (AK (AG left) left),.zs,.i k,.zs,.i w0,.i w1,.i w2,.i w3,.i tw,.i vs,.i sp])])) (cond (decide (0≤AA AB (ic (AG left - 0) - 1))&&decide (AA AB (ic (AG left - 0) - 1) < ic (AG left - 0))) (cond (decide (0≤AA AB (ic (AG left - 0) - 1))&&decide (AA AB (ic (AG left - 0) - 1)≤ic (AG left - 0))) (cond (GG m q (DW (AI left (0+AD (AA AB (ic (AG left - 0) - 1))) default))) (cond (ic (0+AD (AA AB (ic (AG left - 0) - 1)) - 0)==0) (some ((.bool true),[(FJ m q [.vec 36 true EV (AK (0+AD (AA AB (ic (AG left - 0) - 1))) left),.list true EH [(IV.agg [IV.bool true,IV.int 0,IV.int 0])],.i 1,.list true EH [(IV.agg [IV.bool true,IV.int 0,IV.int 0])],.i 0,.i 0,.i 0,.i 0,.i 0,.i 0,.i (AA AB (sp+1))])])) (some ((.bool true),[(FJ m q [.vec 36 true EV (AK (0+AD (AA AB (ic (AG left - 0) - 1))) left),.vec 127 true EH [(IV.agg [IV.bool true,IV.int 0,IV.int 0])],.i k,.zs,.i w0,.i w1,.i w2,.i w3,.i tw,.i vs,.i (AA AB (sp+1))])]))) (cond (G0 m q (Bx.low (DW (AI left (0+AD (AA AB (ic (AG left - 0) - 1))) default))) (Sp.hi (Bx.s4 (DW (AI left (0+AD (AA AB (ic (AG left - 0) - 1))) default))))) (some ((.bool true),[(FJ m q [.vec 36 true EV (AK (0+AD (AA AB (ic (AG left - 0) - 1))) left),.zs,.i 2,.zs,.i (Pt.p0 (Bx.low (DW (AI left (0+AD (AA AB (ic (AG left - 0) - 1))) default)))),.i (Pt.p1 (Bx.low (DW (AI left (0+AD (AA AB (ic (AG left - 0) - 1))) default)))),.i (Pt.p2 (Bx.low (DW (AI left (0+AD (AA AB (ic (AG left - 0) - 1))) default)))),.i (Pt.p3 (Bx.low (DW (AI left (0+AD (AA AB (ic (AG left - 0) - 1))) default)))),.i (Sp.hi (Bx.s4 (DW (AI left (0+AD (AA AB (ic (AG left - 0) - 1))) default)))),.i 0,.i (AA AB (sp+1))])])) (cond (EQ m) (cond (!Option.isSome (EL m q (DW (AI left (0+AD (AA AB (ic (AG left - 0) - 1))) default)))) (some ((.bool true),[(FJ m q [.vec 36 true EV (AK (0+AD (AA AB (ic (AG left - 0) - 1))) left),.zs,.i 3,.zs,.i 0,.i 0,.i 0,.i 0,.i 0,.i 0,.i (AA AB (sp+1))])])) (cond (HG (I5 (EL m q (DW (AI left (0+AD (AA AB (ic (AG left - 0) - 1))) default))))) (cond (decide ((0+AD (AA AB (ic (AG left - 0) - 1))+2)*80≤D6)) (some ((.bool true),[(FJ m q [.vec 36 true EV (AK (0+AD (AA AB (ic (AG left - 0) - 1))+2) (AK (0+AD (AA AB (ic (AG left - 0) - 1))) left++[(Bx.I (Bx.cutH (DW (AI left (0+AD (AA AB (ic (AG left - 0) - 1))) default)) (I5 (EL m q (DW (AI left (0+AD (AA AB (ic (AG left - 0) - 1))) default)))) (IA (EL m q (DW (AI left (0+AD (AA AB (ic (AG left - 0) - 1))) default)))))),(Bx.I (Bx.cutL (DW (AI left (0+AD (AA AB (ic (AG left - 0) - 1))) default)) (I5 (EL m q (DW (AI left (0+AD (AA AB (ic (AG left - 0) - 1))) default)))) (IA (EL m q (DW (AI left (0+AD (AA AB (ic (AG left - 0) - 1))) default))))))])),.vec 127 true EH [(IV.agg [IV.bool false,IV.int (I5 (EL m q (DW (AI left (0+AD (AA AB (ic (AG left - 0) - 1))) default)))),IV.int (IA (EL m q (DW (AI left (0+AD (AA AB (ic (AG left - 0) - 1))) default))))])],.i k,.zs,.i w0,.i w1,.i w2,.i w3,.i tw,.i vs,.i (AA AB (sp+1))])])) none) none)) none))) none) none))):=by kernel_rfl
theorem Yu (N:Nat) (m:Md) (q:Qy) (left u00 vp:LI) (k w0 w1 w2 w3 tw vs sp:Int):DS (bV N) ZK [.tmp 2] [[.bool]] [.bor (FJ m q [.vec 36 true EV left,.list true EH u00,.i k,.list true EH vp,.i w0,.i w1,.i w2,.i w3,.i tw,.i vs,.i sp])]=(cond (k != 0) (some ((.bool false),[(FJ m q [.vec 36 true EV (AK (AG left) left),.list true EH u00,.i k,.list true EH vp,.i w0,.i w1,.i w2,.i w3,.i tw,.i vs,.i sp])])) (cond (decide (sp≥Qy.bu q)) (some ((.bool false),[(FJ m q [.vec 36 true EV (AK (AG left) left),.list true EH u00,.i k,.list true EH vp,.i w0,.i w1,.i w2,.i w3,.i tw,.i vs,.i sp])])) (cond (decide (0≤AA AB (ic (AG left - 0) - 1))&&decide (AA AB (ic (AG left - 0) - 1) < ic (AG left - 0))) (cond (decide (0≤AA AB (ic (AG left - 0) - 1))&&decide (AA AB (ic (AG left - 0) - 1)≤ic (AG left - 0))) (cond (GG m q (DW (AI left (0+AD (AA AB (ic (AG left - 0) - 1))) default))) none (cond (G0 m q (Bx.low (DW (AI left (0+AD (AA AB (ic (AG left - 0) - 1))) default))) (Sp.hi (Bx.s4 (DW (AI left (0+AD (AA AB (ic (AG left - 0) - 1))) default))))) (some ((.bool true),[(FJ m q [.vec 36 true EV (AK (0+AD (AA AB (ic (AG left - 0) - 1))) left),.list true EH u00,.i 2,.zs,.i (Pt.p0 (Bx.low (DW (AI left (0+AD (AA AB (ic (AG left - 0) - 1))) default)))),.i (Pt.p1 (Bx.low (DW (AI left (0+AD (AA AB (ic (AG left - 0) - 1))) default)))),.i (Pt.p2 (Bx.low (DW (AI left (0+AD (AA AB (ic (AG left - 0) - 1))) default)))),.i (Pt.p3 (Bx.low (DW (AI left (0+AD (AA AB (ic (AG left - 0) - 1))) default)))),.i (Sp.hi (Bx.s4 (DW (AI left (0+AD (AA AB (ic (AG left - 0) - 1))) default)))),.i 0,.i (AA AB (sp+1))])])) (cond (EQ m) (cond (!Option.isSome (EL m q (DW (AI left (0+AD (AA AB (ic (AG left - 0) - 1))) default)))) (some ((.bool true),[(FJ m q [.vec 36 true EV (AK (0+AD (AA AB (ic (AG left - 0) - 1))) left),.list true EH u00,.i 3,.zs,.i 0,.i 0,.i 0,.i 0,.i 0,.i 0,.i (AA AB (sp+1))])])) (cond (HG (I5 (EL m q (DW (AI left (0+AD (AA AB (ic (AG left - 0) - 1))) default))))) (cond (decide ((0+AD (AA AB (ic (AG left - 0) - 1))+2)*80≤D6)) none none) none)) none))) none) none))):=by kernel_rfl
theorem Yv (N:Nat) (m:Md) (q:Qy) (k w0 w1 w2 w3 tw vs sp:Int):DS (bV N) ZK [.tmp 2] [[.bool]] [.bor (FJ m q [.zs,.zs,.i k,.zs,.i w0,.i w1,.i w2,.i w3,.i tw,.i vs,.i sp])]=(cond (k != 0) (some ((.bool false),[(FJ m q [.zs,.zs,.i k,.zs,.i w0,.i w1,.i w2,.i w3,.i tw,.i vs,.i sp])])) (cond (decide (sp≥Qy.bu q)) (some ((.bool false),[(FJ m q [.zs,.zs,.i k,.zs,.i w0,.i w1,.i w2,.i w3,.i tw,.i vs,.i sp])])) none)):=by kernel_rfl
open Go Go.Proofs Go.RowKit Go.Sort Go.Lib
theorem zdi:(PR.info? 127).map (fun i=>(i.zero,i.size,i.bytes))=some (some (.agg #[.bool false,.int .i64 0,.int .i64 0]),3,24):=by kernel_rfl
set_option maxHeartbeats 4000000 in
theorem Kw (b:Addr) (n c:Nat) (news:List Value) (w:World) (hl:news.length=n*3) (hn:n≤maxLen) (hbig:n*24≤140737488355328)
  (hc:∀ j u,news[j]?=some u→w.cell? (b.add j)=some u) (h1:∀ u∈news,u.oneCell'=true) :
  Calls Tryz.prog 125 #[.slice (some b) n c] w fun e w'=>∃ v',e = .returned v'∧w'.ownsRow w.heap.size 127 3 v' n news∧Below w.heap.size w w':=by
 obtain ⟨i0,hi,hz0,hz1,hz2⟩:∃ i,PR.info? 127=some i∧i.zero=some (.agg #[.bool false,.int .i64 0,.int .i64 0])∧i.size=3∧i.bytes=24:=by
  have h:=zdi;rw [Option.map_eq_some_iff] at h;obtain ⟨i,hi,he⟩:=h;simp only [Prod.mk.injEq] at he;exact ⟨i,hi,he⟩
 have qS:∀ (w:World) (a:Option Addr) (n c n' c':Nat),(binOp .eql 51 (.slice a n c) (.slice none n' c')).run Tryz.prog w = .ok (.bool a.isNone) w:=fun w a n c n' c'=>Lib.run_eql_slice_nil w _ _ a n c n' c' Tryz.underlying51
 have A:Aside (∀ j u,news[j]?=some u→w.cell? (b.add j)=some u):=hc;clear hc
 go_enter Tryz.func125,Tryz.ntmps125
 go_wp2_with (at_builtin; refine wpList_append_own _ rfl _ _ 51 rfl w.heap.size 127 i0 (.agg #[.bool false,.int .i64 0,.int .i64 0]) 3 24 Tryz.underlying51 hi hz0 hz1 hz2 rfl (by decide) _ _ _ rfl (World.ownsRow_made w #[] 0 (Nat.le_refl _) (Nat.zero_le _) (by simp)) b n c news rfl ?qc1 ?qc2 ?qc3 ?qc4 ?qc5 ?qc6 ?_)
 case qc1=>exact hl
 case qc2=>
  intro j u hj;exact Lib.cell?_alloc_some _ (A.out j u hj)
 case qc3=>exact h1
 case qc4=>rw [Nat.zero_add]; exact hn
 case qc5=>rw [Nat.zero_add]; exact hbig
 case qc6=>simp
 intro v' w1 hown hgrow hnil
 go_wp2
 go_ret
 refine ⟨v',rfl,by simpa using hown,?_⟩;exact ((Below.refl _ w).alloc (Nat.le_refl _) _).grown hgrow (by simp) (by intro k hk; simp [Value.ownBlock] at hk; omega)
set_option maxHeartbeats 1000000 in
theorem Kx (n c:Nat) (w:World):Calls Tryz.prog 125 #[.slice none n c] w fun e w'=>e = .returned (.slice none 0 0)∧w'=w:=by
 have qS:∀ (w:World) (a:Option Addr) (n c n' c':Nat),(binOp .eql 51 (.slice a n c) (.slice none n' c')).run Tryz.prog w = .ok (.bool a.isNone) w:=fun w a n c n' c'=>Lib.run_eql_slice_nil w _ _ a n c n' c' Tryz.underlying51
 go_enter Tryz.func125,Tryz.ntmps125
 go_wp2
 go_ret
 exact ⟨rfl,rfl⟩
def NF (y:IV):Nat→Value
 | 0=>.bool (HT y)
 | 1=>.int .i64 (FA y)
 | _=>.int .i64 (FY y)
def N9 (l:LI):List Value:=l.flatMap fun y=>[NF y 0,NF y 1,NF y 2]
theorem nH:∀ l:LI,(N9 l).length=l.length*3
 | []=>rfl
 | y :: r=>by
  have:=nH r
  unfold N9 at this ⊢;rw [vaX,AW,this,AN];simp;omega
theorem fR:∀ (l:LI) (j:Nat) (u:Value),(N9 l)[j]?=some u→∃ i y k,j=i*3+k∧k < 3∧l[i]?=some y∧u=NF y k
 | [],j,u,h=>by simp [N9] at h
 | y :: r,j,u,h=>by
  have e:N9 (y :: r)=[NF y 0,NF y 1,NF y 2]++N9 r:=by unfold N9; rw [vaX]
  rw [e] at h
  match j,h with
  | 0,h=>exact ⟨0,y,0,rfl,by omega,rfl,by simpa using h.symm⟩
  | 1,h=>exact ⟨0,y,1,rfl,by omega,rfl,by simpa using h.symm⟩
  | 2,h=>exact ⟨0,y,2,rfl,by omega,rfl,by simpa using h.symm⟩
  | j+3,h=>
   obtain ⟨i,z,k,rfl,hk,hi,hu⟩:=fR r j u (by simpa using h);exact ⟨i+1,z,k,by omega,hk,by simpa using hi,hu⟩
theorem zdg (l:LI) (i:Nat) (y:IV) (hy:l[i]?=some y) (k:Nat) (hk:k < 3):(N9 l)[i*3+k]?=some (NF y k):=by
 have hi:i < l.length:=(BN.1 hy).1;have hlt:i*3+k < (N9 l).length:=by rw [nH]; omega
 obtain ⟨i',y',k',h1,h2,h3,h4⟩:=fR l (i*3+k) _ (A6 hlt);obtain rfl:i'=i:=by omega
 obtain rfl:k'=k:=by omega
 rw [hy] at h3;simp only [AC] at h3;subst h3;rw [A6 hlt,h4]
theorem zcV:DQ PR B0 125 cA:=by
 intro w X γ vs xs r out hsp hg hx hR hV;unfold cA at hsp;simp only at hsp;split at hsp
 ·rename_i l;cases hc:BW l.length 100000 with
  | false=>rw [hc] at hsp; simp [R.get] at hsp
  | true=>
   rw [hc] at hsp;have hc:=AM hc;simp only [R.get,AC,AS] at hsp;obtain ⟨rfl,rfl⟩:=hsp;obtain ⟨x0,rfl⟩:∃ x0,xs=[x0]:=by
    have:=hV.length
    simp at this
    match xs,this with
    | [a],_=>exact ⟨a,rfl⟩
   simp only [AZ,CB,EE,VRels,VRel,BX] at hV;simp only [Kd.Rel,IV.toList] at hV;obtain ⟨p,c,rfl,hc1,hc2,hc3,hcell⟩:=hV;have key:∀ i y,l[i]?=some y→∃ b o,p=some ⟨b,o,none⟩∧(∀ k,k < 3→w.cell? ⟨b,o+i*3+k,none⟩=some (NF y k))∧(AB.min≤FA y∧FA y≤AB.max)∧(AB.min≤FY y∧FY y≤AB.max):=fun i y hy=>by
    obtain ⟨b,o,rfl,_,_,hr⟩:=hcell i y hy;simp only [Kd.RelAll,BX,AN,A7,BF,C4] at hr;obtain ⟨⟨u0,a0,b0⟩,⟨u1,a1,b1⟩,⟨u2,a2,b2⟩⟩:=hr;simp only [Kd.Rel,FQ] at b0 b1 b2;refine ⟨b,o,rfl,fun k hk=>?_,b1.2,b2.2⟩
    match k,hk with
    | 0,_=>rw [b0] at a0; exact a0
    | 1,_=>rw [b1.1] at a1; exact a1
    | 2,_=>rw [b2.1] at a2; exact a2
   have hel:∀ (w':World) (O:Nat→Prop) i y,l[i]?=some y→Kd.RelAll w' O EH (FQ true y) 0 (fun j u=>(N9 l)[i*EH.length+j]?=some u):=fun w' O i y hy=>by
    obtain ⟨_,_,_,_,k1,k2⟩:=key i y hy;simp only [Kd.RelAll,AN,A7,BF,C4,BX];have g:=zdg l i y hy;refine ⟨⟨_,g 0 (by omega),?_⟩,⟨_,g 1 (by omega),?_⟩,⟨_,g 2 (by omega),?_⟩⟩
    ·simp only [Kd.Rel,FQ,NF,HT]
    ·simp only [Kd.Rel,FQ,NF,FA]; exact ⟨trivial,k1⟩
    ·simp only [Kd.Rel,FQ,NF,FY]; exact ⟨trivial,k2⟩
   refine Af hR rfl (by decide) (by decide) hc3 (Does.of_calls Tryz.func125 (by kernel_rfl) (by kernel_rfl) ?_);cases p with
   | none=>
    have h0:l=[]:=by
     cases l with
     | nil=>rfl
     | cons y r=>
      obtain ⟨b,o,hp,_⟩:=key 0 y rfl;cases hp
    subst h0;refine (Kx _ c w).mono ?_;rintro e w' ⟨rfl,rfl⟩;exact ⟨_,[],rfl,Keep.refl _ _,⟨rfl,.inl ⟨rfl,rfl⟩⟩,hel _⟩
   | some a=>
    refine (Kw a l.length c (N9 l) w (nH l) (by unfold maxLen; omega) (by omega) (fun j u hj=>?_) (fun u hu=>?_)).mono ?_
    ·obtain ⟨i,y,k,rfl,hk,hi,rfl⟩:=fR l j u hj;obtain ⟨b,o,hp,hu,_⟩:=key i y hi;simp only [AC] at hp;subst hp;rw [Addr.add_lit,← vaL];exact hu k hk
    ·obtain ⟨j,hj⟩:=List.getElem?_of_mem hu;obtain ⟨i,y,k,_,hk,_,rfl⟩:=fR l j u hj
     match k,hk with
     | 0,_=>rfl
     | 1,_=>rfl
     | 2,_=>rfl
    ·rintro e w' ⟨v',rfl,hown,hw⟩;exact ⟨v',_,rfl,Keep.below hw,hown,hel _⟩
 ·simp [R.get] at hsp
open Go Go.Proofs
set_option maxRecDepth 100000
theorem Vi {l:List V} {m:Md} (h:mdOf? l=some m):l=m.cs:=by
 unfold mdOf? at h;split at h
 ·simp only [AC] at h;subst h;rfl
 ·cases h
theorem zbc {l:List V} {q:Qy} (h:qyOf? l=some q):l=q.cs:=by
 unfold qyOf? at h;split at h
 ·simp only [AC] at h;subst h;rfl
 ·cases h
theorem zbK {l r:List V} {m:Md} {q:Qy} (h:seOf? l=some (m,q,r)):l=FJ m q r:=by
 unfold seOf? at h;split at h
 ·rename_i m' q' h1 h2;simp only [AC,AS] at h;obtain ⟨rfl,rfl,rfl⟩:=h;unfold FJ;rw [← Vi h1,← zbc h2,List.take_append_drop,List.take_append_drop]
 ·cases h
def Bs (t:Nat) (s:Sr):Prop:=t≤3∧(t=3→s.left=[])∧(t=1∨t=3→s.proof=[])∧(t≠2→s.v.proof=[])
theorem zdf {r:List V} {t:Nat} {s:Sr} (h:srT? r=some (t,s)) (m:Md) (q:Qy):FJ m q r=NE t m q s∧Bs t s:=by
 unfold srT? at h;split at h
 case h_5=>cases h
 all_goals
  simp only [AC,AS] at h;obtain ⟨rfl,rfl⟩:=h;refine ⟨rfl,by omega,?_,?_,?_⟩ <;> intro h <;> first | rfl | (exfalso; omega)
theorem Fd {v:V} {k:Nat→Md→Qy→Sr→R} {z:V × List (List V)} (h:(gI v k).get=some z):∃ t m q s,v = .bor (NE t m q s)∧Bs t s∧(k t m q s).get=some z:=by
 unfold gI at h;split at h
 ·rename_i l;split at h
  ·rename_i m q r hl;split at h
   ·rename_i t s hr;obtain ⟨e,hw⟩:=zdf hr m q;exact ⟨t,m,q,s,by rw [zbK hl,e],hw,h⟩
   ·simp [R.get] at h
  ·simp [R.get] at h
 ·simp [R.get] at h
theorem zcR:DQ PR B0 74 YZ:=by
 refine D1 [(65,MB),(66,TB)] [] YZ [[.list false []]] Tryz.func74 Sn ⟨bD,Am,trivial⟩ ?_;intro vs r hwf h;unfold YZ at h;split at h
 ·rename_i m q;replace h:=JK h;obtain ⟨m,rfl,h⟩:=h;replace h:=JL h;obtain ⟨q,rfl,h⟩:=h;refine ⟨0,(Ys 0 m q).trans ?_⟩;cases hr:E6 m q with
  | true=>rw [hr,R.get_br,DC,R.get_ok] at h; exact h
  | false=>rw [hr,R.get_br,DD,R.get_ok] at h; exact h
 ·simp [R.get] at h
theorem zcU:DQ PR B0 76 Y2:=by
 refine D1 [(125,cA)] [] Y2 [[.z,.list true [.bool,.z,.z],.z,.z,.z,.z,.z,.z]] Tryz.func76 Ss ⟨zcV,trivial⟩ ?_;intro vs r hwf h;unfold Y2 at h;split at h
 ·replace h:=Fd h;obtain ⟨t,m,q,s,rfl,hw,h⟩:=h;cases hg:BW s.v.proof.length 100000 with
  | false=>rw [hg] at h; simp [R.get] at h
  | true=>
   rw [hg,R.get_br,DC,R.get_ok] at h;refine ⟨0,?_⟩;rw [← h];obtain ⟨left,proof,⟨k,vp,a,b,c,d,tw,vs⟩,sp⟩:=s;replace hg:BW vp.length 100000=true:=hg
   match t,hw with
   | 0,hw=>
    obtain rfl:vp=[]:=hw.2.2.2 (by omega);refine (Yw 0 m q left proof k a b c d tw vs sp).trans ?_;rw [BS,BS];unfold GR;cases (k==0) <;> rfl
   | 1,hw=>
    obtain rfl:vp=[]:=hw.2.2.2 (by omega);refine (Yx 0 m q left k a b c d tw vs sp).trans ?_;rw [BS];unfold GR;cases (k==0) <;> rfl
   | 2,_=>
    refine (Yy 0 m q left proof vp k a b c d tw vs sp).trans ?_;rw [BS,hg,DC,DC,B4,BS];unfold GR;cases (k==0) <;> rfl
   | 3,hw=>
    obtain rfl:vp=[]:=hw.2.2.2 (by omega);refine (Yz 0 m q k a b c d tw vs sp).trans ?_;unfold GR;cases (k==0) <;> rfl
   | t+4,hw=>exact absurd hw.1 (by omega)
 ·simp [R.get] at h
theorem Bj (m:Md) (q:Qy) (b:Bx):∀ (d i:Nat),i+d=5→(J9 m q b d i).isSome=true→HG (I5 (J9 m q b d i))=true
 | 0,i,_,h=>by rw [J9] at h; cases h
 | d+1,i,hd,h=>by
  rw [J9] at h ⊢;cases hc:decide ((EZ m q b i).length > 0) with
  | true=>
   rw [DC];show HG (i:Int)=true;unfold HG;rw [AE (show (0:Int)≤(i:Int) by omega),AE (show (i:Int) < 5 by omega)];rfl
  | false=>
   rw [hc,DD] at h;rw [DD];exact Bj m q b d (i+1) (by omega) h
theorem zcT:DQ PR B0 75 Y1:=by
 refine D1 [(111,NK),(122,YE),(123,YF),(124,YG),(70,TA)] [] Y1 [[.bool]] Tryz.func75 Sq ⟨fL,zct,zcu,zcv,Al,trivial⟩ ?_;intro vs r hwf h;unfold Y1 at h;split at h
 ·replace h:=Fd h;obtain ⟨t,m,q,s,rfl,hw,h⟩:=h;refine ⟨0,?_⟩;obtain ⟨left,proof,⟨k,vp,a,b,c,d,tw,vs⟩,sp⟩:=s;cases ho:I3 q ⟨left,proof,⟨k,vp,a,b,c,d,tw,vs⟩,sp⟩ with
  | true=>
   rw [ho,R.get_br,DC,R.get_ok] at h;rw [← h];have hk:(k != 0)=true∨(k != 0)=false∧decide (sp≥q.bu)=true:=by
    unfold I3 at ho;have e:(k != 0)=!(k==0):=rfl;rw [e];cases hk:(k==0) with
    | false=>exact .inl rfl
    | true=>
     replace ho:(!(k==0)||decide (sp≥q.bu))=true:=ho;rw [hk,A2,vaB] at ho;exact .inr ⟨rfl,ho⟩
   match t,hw with
   | 0,hw=>
    refine (wK 0 m q left proof k a b c d tw vs sp).trans ?_;rcases hk with hk | ⟨hk,hs⟩
    ·rw [hk,DC,BS,BS]; rfl
    ·rw [hk,DD,hs,DC,BS,BS]; rfl
   | 1,hw=>
    refine (wL 0 m q left k a b c d tw vs sp).trans ?_;rcases hk with hk | ⟨hk,hs⟩
    ·rw [hk,DC,BS]; rfl
    ·rw [hk,DD,hs,DC,BS]; rfl
   | 2,hw=>
    refine (Yu 0 m q left proof vp k a b c d tw vs sp).trans ?_;rcases hk with hk | ⟨hk,hs⟩
    ·rw [hk,DC,BS]; rfl
    ·rw [hk,DD,hs,DC,BS]; rfl
   | 3,hw=>
    refine (Yv 0 m q k a b c d tw vs sp).trans ?_;rcases hk with hk | ⟨hk,hs⟩
    ·rw [hk,DC]; rfl
    ·rw [hk,DD,hs,DC]; rfl
   | t+4,hw=>exact absurd hw.1 (by omega)
  | false=>
   rw [ho,R.get_br,DD] at h;unfold I3 at ho;replace ho:(!(k==0)||decide (sp≥q.bu))=false:=ho;rw [van] at ho;have hk:(k != 0)=false:=ho.1;have hsp:decide (sp≥q.bu)=false:=ho.2;cases hg:(BW t 1&&(E6 m q&&(decide (0≤sp)&&(BJ 0 left.length&&(BW left.length 100000&&BW proof.length 100000))))) with
   | false=>
    replace h:(R.br (BW t 1&&(E6 m q&&(decide (0≤sp)&&(BJ 0 left.length&&(BW left.length 100000&&BW proof.length 100000))))) _ R.no).get=some r:=h;rw [hg] at h;simp [R.get] at h
   | true=>
    replace h:(R.br (BW t 1&&(E6 m q&&(decide (0≤sp)&&(BJ 0 left.length&&(BW left.length 100000&&BW proof.length 100000))))) _ R.no).get=some r:=h;rw [hg,R.get_br,DC] at h;have hst:some (.bool true,[NE (fW m q t ⟨left,proof,⟨k,vp,a,b,c,d,tw,vs⟩,sp⟩) m q (FV m q ⟨left,proof,⟨k,vp,a,b,c,d,tw,vs⟩,sp⟩)])=some r:=by
     rw [← h];unfold fW;simp only [R.get_br,R.get_ok];cases GG m q (DR left) with
     | true=>cases (ic (left.length - 1)==0) <;> rfl
     | false=>
      cases G0 m q (DR left).low (DR left).s4.hi with
      | true=>rfl
      | false=>cases (EL m q (DR left)).isSome <;> rfl
    rw [← hst];simp only [AH] at hg;obtain ⟨ht,hr,h0,hl,hl5,hp5⟩:=hg;obtain ⟨hm,_,⟨_,hbu⟩,_,_⟩:=UO hr;have h0:=A1 h0;have hs1:=BE hsp;have hl:0 < left.length:=AM hl;have hl5:=AM hl5;have hp5:=AM hp5;have esp:AA AB (sp+1)=sp+1:=EC (by omega) (by omega);have etop:AA AB (ic (left.length - 0) - 1)=((left.length - 1:Nat):Int):=by
     rw [EC (by simp only [ic]; omega) (by simp only [ic]; omega)];simp only [ic];omega
    have ed:(decide (0≤((left.length - 1:Nat):Int))&&decide (((left.length - 1:Nat):Int) < ic (left.length - 0)))=true:=by
     rw [AE (by omega),AE (by simp only [ic]; omega)];rfl
    have ee:(decide (0≤((left.length - 1:Nat):Int))&&decide (((left.length - 1:Nat):Int)≤ic (left.length - 0)))=true:=by
     rw [AE (by omega),AE (by simp only [ic]; omega)];rfl
    have epop:left.take (left.length - 1+2)=left.take (left.length - 1+2):=rfl;have hlen:(FN left).length=left.length - 1:=by unfold FN; rw [A8]; omega
    have htk:∀ (x y:IV),AK (left.length - 1+2) (AK (left.length - 1) left++[x,y])=FN left++[x,y]:=fun x y=>CV (by rw [AW]; unfold FN at hlen; rw [hlen]; simp)
    have hb80:decide ((left.length - 1+2)*80≤D6)=true:=AE (by unfold D6; omega);have hin:=Bj m q (DR left) 5 0 rfl;replace hin:(EL m q (DR left)).isSome=true→HG (I5 (EL m q (DR left)))=true:=hin
    match t,ht,hw with
    | 0,_,_=>
     have hb24:decide ((proof.length+1)*24≤D6)=true:=AE (by unfold D6; omega);have htp:∀ x:IV,AK (proof.length+1) (proof++[x])=proof++[x]:=fun x=>CV (by rw [AW]; simp)
     refine (wK 0 m q left proof k a b c d tw vs sp).trans ?_;rw [hk,DD,hsp,DD,etop,ed,DC,ee,DC,esp,BD];simp only [BF,vaY,BS];rw [hb24,hb80,hm];unfold FV fW;show cond (GG m q (DR left)) _ (cond (G0 m q (DR left).low (DR left).s4.hi) _ _)=_;cases GG m q (DR left) with
     | true=>
      simp only [htp,B4];rw [DC,DC];show cond (ic (left.length - 1)==0) _ _=_;cases (ic (left.length - 1)==0) <;> rfl
     | false=>
      rw [DD];cases G0 m q (DR left).low (DR left).s4.hi with
      | true=>rfl
      | false=>
       rw [DD,DC];show cond (!(EL m q (DR left)).isSome) _ (cond (HG (I5 (EL m q (DR left)))) _ _)=_;cases hs:(EL m q (DR left)).isSome with
       | false=>rfl
       | true=>
        rw [A2,DD,hin hs,DC,DC,DC];simp only [htp,htk];rfl
    | 1,_,hw=>
     obtain rfl:proof=[]:=hw.2.2.1 (.inl rfl);refine (wL 0 m q left k a b c d tw vs sp).trans ?_;rw [hk,DD,hsp,DD,etop,ed,DC,ee,DC,esp,BD];simp only [BF,vaY];rw [hb80,hm];unfold FV fW;show cond (GG m q (DR left)) _ (cond (G0 m q (DR left).low (DR left).s4.hi) _ _)=_;cases GG m q (DR left) with
     | true=>
      rw [DC];show cond (ic (left.length - 1)==0) _ _=_;cases (ic (left.length - 1)==0) <;> rfl
     | false=>
      rw [DD];cases G0 m q (DR left).low (DR left).s4.hi with
      | true=>rfl
      | false=>
       rw [DD,DC];show cond (!(EL m q (DR left)).isSome) _ (cond (HG (I5 (EL m q (DR left)))) _ _)=_;cases hs:(EL m q (DR left)).isSome with
       | false=>rfl
       | true=>
        rw [A2,DD,hin hs,DC,DC];simp only [htk];rfl
    | t+2,ht,_=>exact absurd (AM ht) (by omega)
 ·simp [R.get] at h
open Go Go.Proofs
def Q4 (N:Nat):Env:=DZ [(74,YZ),(75,Y1),(76,Y2)] [(2,⟨[4,5],[4,8,500,501],[⟨.cell 8 23,500,36,true,EV⟩,⟨.cell 8 24,501,127,true,EH⟩]⟩)] 13 N
open Go Go.Proofs
set_option maxRecDepth 100000
abbrev Z4:KP:=⟨[4,5],[4,8,500,501],[⟨.cell 8 23,500,36,true,EV⟩,⟨.cell 8 24,501,127,true,EH⟩]⟩
def zby (sh:Bool) (s:Sr):List V:=match sh with
 | false=>.row 500 0 s.left.length :: .row 501 0 s.proof.length :: W1 s.v .zs s.spent
 | true=>.row 500 0 s.left.length :: dI s.proof :: W1 s.v (dI s.v.proof) s.spent
def zbz (sh:Bool) (s:Sr):Option Ob:=match sh with
 | false=>some (.row true 127 true EH s.proof)
 | true=>none
def LK (m:Md) (q:Qy) (sh:Bool) (s:Sr):St:=
 ⟨[(4,.ptr 4 0 0),(5,.ptr 8 0 0)],[(4,some (.box [.int .i64 0,.zs,.int .i64 0,.int .i64 0,.int .i64 0,.int .i64 0,.int .i64 0,.int .i64 0])),(8,some (.box (FJ m q (zby sh s)))),(500,some (.row true 36 true EV s.left)),(501,zbz sh s)]⟩
def KZ (s:Sr):Sr:=⟨s.left.take s.left.length,s.proof.take s.proof.length,⟨s.v.kind,[],s.v.w0,s.v.w1,s.v.w2,s.v.w3,s.v.twin,s.v.spent⟩,s.spent⟩
def bK (s:Sr):Sr:=⟨s.left.take s.left.length,s.proof,s.v,s.spent⟩
theorem bL {s:Sr} (h:s.v.proof=[]):KZ s=s:=by
 obtain ⟨left,proof,⟨k,vp,a,b,c,d,tw,vs⟩,sp⟩:=s;obtain rfl:vp=[]:=h;unfold KZ;simp only [BS]
theorem Dx (s:Sr):bK s=s:=by
 obtain ⟨left,proof,v,sp⟩:=s;unfold bK;simp only [BS]
def lF (m:Md) (q:Qy) (s:Sr):Bool:=E6 m q&&(decide (0≤s.spent)&&(BJ 0 s.left.length&&(BW s.left.length 100000&&BW s.proof.length 100000)))
noncomputable abbrev Z1 (N:Nat):Out→St→DH:=DK 0 (DM (Q4 N) (DE RI [1,1,1]) (DP (Q4 N) none [.cell 4 55] [[.z,.list true EH,.z,.z,.z,.z,.z,.z]]))
theorem Yt (N:Nat) (m:Md) (q:Qy):DS (Q4 N) RI [.cell 4 55] [[.z,.list true [.bool,.z,.z],.z,.z,.z,.z,.z,.z]] [m.V,q.V] =
 cond (E6 m q) (DT (Q4 N) (DE RI [1,1,0,0,0]) Z4 N (LK m q false ⟨[(GW q).I],[],Vd.none,0⟩) (Z1 N))
 (DT (Q4 N) (DE RI [1,1,0,0,0]) Z4 N (LK m q false ⟨[],[],⟨4,[],0,0,0,0,0,0⟩,0⟩) (Z1 N)):=by kernel_rfl
theorem nL (N:Nat) (m:Md) (q:Qy) (s:Sr) (again:St→DH) (k:Out→St→DH):E4 (Q4 N) (DE RI [1,1,0,0,0]) (LK m q false s) (EO again Z4 k) =
 cond (I3 q (KZ s)) (k (.exit 0) (LK m q false (KZ s)))
 (cond (lF m q (KZ s))
 (cond (GG m q (DR (KZ s).left)) (cond (ic ((KZ s).left.length - 1)==0) (again (LK m q true (FV m q (KZ s)))) (again (LK m q false (FV m q (KZ s)))))
 (cond (G0 m q (DR (KZ s).left).low (DR (KZ s).left).s4.hi) (again (LK m q false (FV m q (KZ s))))
 (cond (EL m q (DR (KZ s).left)).isSome (again (LK m q false (FV m q (KZ s)))) (again (LK m q false (FV m q (KZ s))))))) none):=by kernel_rfl
theorem zdh (N:Nat) (m:Md) (q:Qy) (s:Sr) (again:St→DH) (k:Out→St→DH):E4 (Q4 N) (DE RI [1,1,0,0,0]) (LK m q true s) (EO again Z4 k) =
 cond (I3 q (bK s)) (k (.exit 0) (LK m q true (bK s))) none:=by kernel_rfl
theorem tZ (N:Nat) (m:Md) (q:Qy) (s:Sr):Z1 N (.exit 0) (LK m q false s)=some ((GR (KZ s)).V,[]):=by kernel_rfl
theorem Nu (N:Nat) (m:Md) (q:Qy) (s:Sr):Z1 N (.exit 0) (LK m q true s)=cond (BW s.v.proof.length 100000) (some ((GR (bK s)).V,[])) none:=by kernel_rfl
structure SrInv (q:Qy) (sh:Bool) (s:Sr):Prop where
 sp0:0≤s.spent
 sp1:s.spent≤max 0 q.bu
 left:(s.left.length:Int)≤s.spent+1
 proof:(s.proof.length:Int)≤s.spent
 vp:(s.v.proof.length:Int)≤s.spent
 own:sh=false→s.v.proof=[]
 open_:s.v.kind=0→0 < s.left.length
 shut:sh=true→s.v.kind≠0
theorem zaT (l:LI):(FN l).length=l.length - 1:=by
 unfold FN;rw [A8];omega
theorem SrInv.step {m:Md} {q:Qy} {s:Sr} (h:SrInv q false s) (ho:I3 q s=false) :
  SrInv q (GG m q (DR s.left)&&(ic (s.left.length - 1)==0)) (FV m q s)∧(FV m q s).spent=s.spent+1:=by
 unfold I3 at ho;rw [van] at ho;have hk:s.v.kind=0:=by simpa using ho.1
 have hs:=BE ho.2;have h1:=h.sp0;have h2:=h.left;have h3:=h.proof;have h4:=h.vp;have h5:=h.own rfl;have h6:=h.open_ hk;have hp:=zaT s.left;have h5':s.v.proof.length=0:=by rw [h5]; rfl
 unfold FV;cases GG m q (DR s.left) with
 | true=>
  rw [DC];cases he:(ic (s.left.length - 1)==0) with
  | true=>
   refine ⟨⟨?_,?_,?_,?_,?_,fun h=>(by cases h),fun h=>(by cases h),fun _=>(show (1:Int)≠0 by decide)⟩,rfl⟩ <;> simp only [CO,AW,vae] <;> omega
  | false=>
   have hne:s.left.length - 1≠0:=by simpa [ic] using he
   refine ⟨⟨?_,?_,?_,?_,?_,fun _=>h5,fun _=>?_,fun h=>(by cases h)⟩,rfl⟩ <;> simp only [B9,AW,vae] <;> omega
 | false=>
  rw [DD,BV];cases G0 m q (DR s.left).low (DR s.left).s4.hi with
  | true=>refine ⟨⟨?_,?_,?_,?_,?_,fun _=>rfl,fun h=>(by cases h),fun h=>(by cases h)⟩,rfl⟩ <;> simp only [CO,A7] <;> omega
  | false=>
   rw [DD];cases (EL m q (DR s.left)).isSome with
   | true=>refine ⟨⟨?_,?_,?_,?_,?_,fun _=>h5,fun _=>?_,fun h=>(by cases h)⟩,rfl⟩ <;> simp only [CO,AW,AN,A7] <;> omega
   | false=>refine ⟨⟨?_,?_,?_,?_,?_,fun _=>rfl,fun h=>(by cases h),fun h=>(by cases h)⟩,rfl⟩ <;> simp only [B9,A7] <;> omega
theorem zai {m:Md} {q:Qy} {s:Sr} (hr:E6 m q=true) (h:SrInv q false s) (hk:s.v.kind=0):lF m q s=true:=by
 have hb:=(UO hr).2.2.1;have h1:=h.sp0;have h2:=h.left;have h3:=h.proof;have h6:=h.open_ hk;have h7:=h.sp1;unfold lF;rw [hr,AE h1,C2 (show s.left.length≤100000 by omega),C2 (show s.proof.length≤100000 by omega)]
 have:BJ 0 s.left.length=true:=C2 h6
 rw [this];rfl
theorem zD (N:Nat) (m:Md) (q:Qy) (hr:E6 m q=true) (K:Out→St→DH):∀ (d n:Nat) (sh:Bool) (s:Sr),SrInv q sh s→q.bu < s.spent+d→d < n →
  ∃ sh',SrInv q sh' (KW m q d s)∧DT (Q4 N) (DE RI [1,1,0,0,0]) Z4 n (LK m q sh s) K=K (.exit 0) (LK m q sh' (KW m q d s))
 | d,0,sh,s,_,_,h=>absurd h (by omega)
 | 0,n+1,sh,s,hi,hd,_=>by
  have h1:=hi.sp1;have h2:=hi.sp0;have h3:=(UO hr).2.2.1;omega
 | d+1,n+1,sh,s,hi,hd,hn=>by
  rw [KW];cases ho:I3 q s with
  | true=>
   rw [DC];refine ⟨sh,hi,?_⟩;cases sh with
   | false=>rw [D2,nL,bL (hi.own rfl),ho,DC]
   | true=>rw [D2,zdh,Dx,ho,DC]
  | false=>
   rw [DD];cases sh with
   | true=>
    unfold I3 at ho;rw [van] at ho
    have:=hi.shut rfl
    simp at ho;exact absurd ho.1 this
   | false=>
    obtain ⟨hi',hs'⟩:=hi.step (m:=m) ho;have hk:s.v.kind=0:=by
     unfold I3 at ho;rw [van] at ho;simpa using ho.1
    obtain ⟨sh',hi2,hrun⟩:=zD N m q hr K d n _ (FV m q s) hi' (by rw [hs']; omega) (by omega);refine ⟨sh',hi2,?_⟩;rw [← hrun,D2,nL,bL (hi.own rfl),ho,DD,zai hr hi hk,DC];cases GG m q (DR s.left) with
    | true=>
     rw [DC,BH];cases (ic (s.left.length - 1)==0) <;> rfl
    | false=>
     rw [DD,BV];cases G0 m q (DR s.left).low (DR s.left).s4.hi with
     | true=>rfl
     | false=>cases (EL m q (DR s.left)).isSome <;> rfl
theorem Vr {m:Md} {q:Qy} (hr:E6 m q=true):SrInv q false ⟨[(GW q).I],[],Vd.none,0⟩:=
 ⟨vab _,by have:=(UO hr).2.2.1; show (0:Int)≤_; omega,by simp,by simp,by simp [Vd.none],fun _=>rfl,fun _=>by simp,fun h=>by cases h⟩
theorem zcS:DQ PR B0 35 Y0:=by
 refine D1 [(74,YZ),(75,Y1),(76,Y2)] [(2,⟨[4,5],[4,8,500,501],[⟨.cell 8 23,500,36,true,EV⟩,⟨.cell 8 24,501,127,true,EH⟩]⟩)] Y0 [[.z,.list true [.bool,.z,.z],.z,.z,.z,.z,.z,.z]] Tryz.func35 So ⟨zcR,zcT,zcU,trivial⟩ ?_;intro vs r hwf h;unfold Y0 at h;split at h
 ·rename_i m q;replace h:=JK h;obtain ⟨m,rfl,h⟩:=h;replace h:=JL h;obtain ⟨q,rfl,h⟩:=h;rw [R.get_ok] at h;refine ⟨70000,?_⟩;rw [← h];refine (Yt 70000 m q).trans ?_;unfold HI RU;cases hr:E6 m q with
  | true=>
   have hb:=(UO hr).2.2.1;rw [DC,DC];obtain ⟨sh',hi,hrun⟩:=zD 70000 m q hr (Z1 70000) (q.bu.toNat+1) 70000 false _ (Vr hr) (by show q.bu < 0+_; omega) (by omega);rw [hrun];generalize KW m q (q.bu.toNat+1) _=s at hi ⊢;cases sh' with
   | false=>rw [tZ,bL (hi.own rfl)]
   | true=>
    have h1:=hi.vp;have h2:=hi.sp1;rw [Nu,Dx,C2 (show s.v.proof.length≤100000 by omega),DC]
  | false=>
   rw [DD,DD];have e:I3 q ⟨[],[],⟨4,[],0,0,0,0,0,0⟩,0⟩=true:=rfl;rw [D2,nL,bL rfl,e,DC,tZ,bL rfl,KW,e,DC]
 ·simp [R.get] at h
open Go
def zdx:Md:=⟨1,1,3,0,0,[.agg [.int 0,.list [.int (HR false 0 0 5 1 2),.int (HR true 10 0 0 0 0),.int (HR true 20 0 0 0 0)]]]⟩
def X4:DO
 | []=>.ok zdx.V []
 | _=>.no
open Go
def T4 (s:Sp):Bool:=decide (-2147483648≤s.lo)&&(decide (s.lo≤s.hi)&&decide (s.hi≤2147483647))
def FL (b:Bx):Bool:=T4 b.s0&&(T4 b.s1&&(T4 b.s2&&(T4 b.s3&&T4 b.s4)))
def XZ:DO
 | [.list false [.int .u64] l,b]=>IH b fun b=>.br (GC l 4&&FL b) (.ok (.tup [.int .i64 (HL l b),.int .i64 (HK l b)]) []) .no
 | _=>.no
def XY:DO
 | [m,.int .i64 k,b]=>I7 m fun m=>IH b fun b=>.br (b.emp||FL b) (.ok (.tup [.int .i64 (D0 m k b),.int .i64 (DV m k b)]) []) .no
 | _=>.no
def X1:DO
 | [m,q,b]=>I7 m fun m=>I8 q fun q=>IH b fun b=>.br (E6 m q&&(b.emp||FL b)) (.ok (.bool (GG m q b)) []) .no
 | _=>.no
def JJ (x:IV):Bool:=cond (HT x) (FA x==0&&FY x==0) (decide (0≤FA x)&&decide (FA x≤4))
def YV:DO
 | [.agg [.bool s,.int .i64 p,.int .i64 a]]=>.ok (.bool (JJ (L5 s p a))) []
 | _=>.no
def MI (st:Int × Int) (x:IV):Option (Int × Int):=
 cond (st.1==0||!(JJ x)) none (cond (HT x) (some (st.1 - 1,st.2)) (some (st.1+1,max st.2 (st.1+1))))
def JR:LI→Int × Int→Option (Int × Int)
 | [],st=>some st
 | x :: r,st=>match MI st x with
  | some st'=>JR r st'
  | none=>none
def MH (l:LI):Int:=cond (decide (ic l.length > 65536)) 0 (match JR l (1,1) with
 | some st=>cond (!(st.1==0)||decide (st.2 > 200)) 0 st.2
 | none=>0)
def YU:DO
 | [.list true [.bool,.z,.z] l]=>.ok (.int .i64 (MH l)) []
 | _=>.no
def YS:DO
 | [.list true [.bool,.z,.z] l]=>.ok (.bool (decide (MH l > 0))) []
 | _=>.no
def MM (st:LI × LI) (x:IV):Option (List IV × LI):=
 cond (HT x) (some (FN st.1,st.2++[(DR st.1).I]))
  (cond (decide (FY x < ((DR st.1).g (FA x).toNat).lo)||decide (FY x≥((DR st.1).g (FA x).toNat).hi)) none
   (some (FN st.1++[((DR st.1).cutH (FA x) (FY x)).I,((DR st.1).cutL (FA x) (FY x)).I],st.2)))
def IE:LI→LI × LI→Option (List IV × LI)
 | [],st=>some st
 | x :: r,st=>match MM st x with
  | some st'=>IE r st'
  | none=>none
def LD (b:Bx) (l:LI):Option LI:=cond (decide (MH l > 0)) ((IE l ([b.I],[])).map (·.2)) none
def YT:DO
 | [b,.list true [.bool,.z,.z] l]=>IH b fun b=>.br (LD b l).isSome (.ok (.tup [.list true EV ((LD b l).getD []),.bool true]) []) (.ok (.tup [.list true EV [],.bool false]) [])
 | _=>.no
def Vd.p (v:Vd):Pt:=⟨v.w0,v.w1,v.w2,v.w3⟩
def WM (m:Md) (q:Qy) (v:Vd):Bool:=
 E6 m q&&cond (v.kind==1) (match LD (GW q) v.proof with
   | some l=>l.all fun x=>GG m q (DW x)
   | none=>false)
  (cond (v.kind==2) ((GW q).has v.p v.twin&&G0 m q v.p v.twin) false)
def XX:DO
 | [m,q,v]=>I7 m fun m=>I8 q fun q=>Fe v fun v=>.ok (.bool (WM m q v)) []
 | _=>.no
open Go Go.Proofs
def Hk (N:Nat):Env:=DZ [] [] 16 N
theorem Yk (N:Nat) (u01:Bool) (u00 s_At:Int):DS (Hk N) rP [.tmp 2] [[.bool]] [.agg [.bool u01,.i u00,.i s_At]]=(cond u01 (some ((.bool (u01==true&&(u00==0&&(s_At==0&&true)))),[])) (cond (decide (u00≥0)) (some ((.bool (decide (u00≤4))),[])) (some ((.bool false),[])))):=by kernel_rfl
def Hj (N:Nat):Env:=DZ [(156,YU)] [] 6 N
theorem Yi (N:Nat) (l:LI):DS (Hj N) rO [.tmp 2] [[.bool]] [.list true [.bool,.z,.z] l]=(some ((.bool (decide (MH l > 0))),[])):=by kernel_rfl
def Ga (N:Nat):Env:=DZ [(114,TF)] [(2,⟨[2,3,6,9,10],[3],[]⟩)] 25 N
open Go Go.Proofs
def OP (N:Nat):Env:=DZ [(192,YV)] [(5,⟨[2,3,4,10,11,12],[],[]⟩)] 40 N
abbrev PP (x2 x3 x4:Int) (l10:LI) (x11 x12:Int):St:=⟨[(2,(.i x2)),(3,(.i x3)),(4,(.i x4)),(10,(.list true EH l10)),(11,(.i x11)),(12,(.i x12))],[]⟩
theorem Yj (N:Nat) (l:LI):DS (OP N) RH [.tmp 2] [[.z]] [.list true [.bool,.z,.z] l]=(cond (decide (ic (AG l) > 65536)) (some ((.i 0),[])) (DT (OP N) (DE RH [1,1,1,0,1,0,0]) ⟨[2,3,4,10,11,12],[],[]⟩ N (PP 0 1 1 l (ic (AG l)) 0) (DK 0 (DM (OP N) (DE RH [1,1,1,1]) (DP (OP N) none [.tmp 2] [[.z]]))))):=by kernel_rfl
theorem Cw (N:Nat) (x2 x3 x4:Int) (l10:LI) (x11 x12:Int) (again:St→DH) (k:Out→St→DH):E4 (OP N) (DE RH [1,1,1,0,1,0,0]) (PP x2 x3 x4 l10 x11 x12) (EO again ⟨[2,3,4,10,11,12],[],[]⟩ k)=(cond (decide (x12 < x11)) (cond (decide (0≤x12)&&decide (x12 < ic (AG l10))) (cond (x3==0) (k .ret (PP 0 x3 x4 l10 x11 x12)) (cond (!JJ (L5 (IV.toBool (IV.cell (AI l10 (AD x12) default) 0)) (IV.toInt (IV.cell (AI l10 (AD x12) default) 1)) (IV.toInt (IV.cell (AI l10 (AD x12) default) 2)))) (k .ret (PP 0 x3 x4 l10 x11 x12)) (cond (IV.toBool (IV.cell (AI l10 (AD x12) default) 0)) (again (PP x2 (AA AB (x3 - 1)) x4 l10 x11 (AA AB (x12+1)))) (again (PP x2 (AA AB (x3+1)) (max x4 (AA AB (x3+1))) l10 x11 (AA AB (x12+1))))))) none) (k (.exit 0) (PP x2 x3 x4 l10 x11 x12))):=by kernel_rfl
theorem No (N:Nat) (x2 x3 x4:Int) (l10:LI) (x11 x12:Int):(DK 0 (DM (OP N) (DE RH [1,1,1,1]) (DP (OP N) none [.tmp 2] [[.z]]))) (.exit 0) (PP x2 x3 x4 l10 x11 x12)=(cond (x3 != 0) (some ((.i 0),[])) (cond (decide (x4 > 200)) (some ((.i 0),[])) (some ((.i x4),[])))):=by kernel_rfl
theorem Np (N:Nat) (x2 x3 x4:Int) (l10:LI) (x11 x12:Int):(DK 0 (DM (OP N) (DE RH [1,1,1,1]) (DP (OP N) none [.tmp 2] [[.z]]))) .ret (PP x2 x3 x4 l10 x11 x12)=(some ((.i x2),[])):=by kernel_rfl
def GE (N:Nat):Env:=DZ [(112,J0),(158,XZ),(53,K3)] [(5,⟨[1,5,6,7,8,9,40,41,42],[5],[]⟩)] 66 N
abbrev LO (a2:Bx) (x1 x6 x7 x8 x9:Int) (l40:LI) (x41 x42:Int):St:=⟨[(1,(.i x1)),(5,(.ptr 5 0 0)),(6,(.i x6)),(7,(.i x7)),(8,(.i x8)),(9,(.i x9)),(40,(.list true LA l40)),(41,(.i x41)),(42,(.i x42))],[(5,(some (.box (Bx.cs a2))))]⟩
theorem Wp (N:Nat) (m:Md) (a1:Int) (a2:Bx):DS (GE N) HY [.tmp 6,.tmp 7] [[.z],[.z]] [(Md.V m),.i a1,(Bx.V a2)]=(cond (!EQ m) (some ((.tup [.i 0,.i 0]),[])) (cond (decide (a1 < 0)) (some ((.tup [.i 0,.i 0]),[])) (cond (decide (a1≥Md.c m)) (some ((.tup [.i 0,.i 0]),[])) (cond (Bx.emp a2) (some ((.tup [.i 0,.i 0]),[])) (cond (decide (a1=ic 0)) (cond (decide (a1=ic 0)) (DT (GE N) (DE HY [1,1,1,0,1,0,0]) ⟨[1,5,6,7,8,9,40,41,42],[5],[]⟩ N (LO a2 a1 0 0 (Md.b0 m) (Md.b0 m) (Md.ts m) (ic (AG (Md.ts m))) 0) (DK 0 (DM (GE N) (DE HY [1,1,1,1]) (DP (GE N) none [.tmp 6,.tmp 7] [[.z],[.z]])))) (cond (decide (a1=ic 1)) (DT (GE N) (DE HY [1,1,1,0,1,0,0]) ⟨[1,5,6,7,8,9,40,41,42],[5],[]⟩ N (LO a2 a1 0 0 (Md.b0 m) (Md.b1 m) (Md.ts m) (ic (AG (Md.ts m))) 0) (DK 0 (DM (GE N) (DE HY [1,1,1,1]) (DP (GE N) none [.tmp 6,.tmp 7] [[.z],[.z]])))) (cond (decide (a1=ic 2)) (DT (GE N) (DE HY [1,1,1,0,1,0,0]) ⟨[1,5,6,7,8,9,40,41,42],[5],[]⟩ N (LO a2 a1 0 0 (Md.b0 m) (Md.b2 m) (Md.ts m) (ic (AG (Md.ts m))) 0) (DK 0 (DM (GE N) (DE HY [1,1,1,1]) (DP (GE N) none [.tmp 6,.tmp 7] [[.z],[.z]])))) none))) (cond (decide (a1=ic 1)) (cond (decide (a1=ic 0)) (DT (GE N) (DE HY [1,1,1,0,1,0,0]) ⟨[1,5,6,7,8,9,40,41,42],[5],[]⟩ N (LO a2 a1 0 0 (Md.b1 m) (Md.b0 m) (Md.ts m) (ic (AG (Md.ts m))) 0) (DK 0 (DM (GE N) (DE HY [1,1,1,1]) (DP (GE N) none [.tmp 6,.tmp 7] [[.z],[.z]])))) (cond (decide (a1=ic 1)) (DT (GE N) (DE HY [1,1,1,0,1,0,0]) ⟨[1,5,6,7,8,9,40,41,42],[5],[]⟩ N (LO a2 a1 0 0 (Md.b1 m) (Md.b1 m) (Md.ts m) (ic (AG (Md.ts m))) 0) (DK 0 (DM (GE N) (DE HY [1,1,1,1]) (DP (GE N) none [.tmp 6,.tmp 7] [[.z],[.z]])))) (cond (decide (a1=ic 2)) (DT (GE N) (DE HY [1,1,1,0,1,0,0]) ⟨[1,5,6,7,8,9,40,41,42],[5],[]⟩ N (LO a2 a1 0 0 (Md.b1 m) (Md.b2 m) (Md.ts m) (ic (AG (Md.ts m))) 0) (DK 0 (DM (GE N) (DE HY [1,1,1,1]) (DP (GE N) none [.tmp 6,.tmp 7] [[.z],[.z]])))) none))) (cond (decide (a1=ic 2)) (cond (decide (a1=ic 0)) (DT (GE N) (DE HY [1,1,1,0,1,0,0]) ⟨[1,5,6,7,8,9,40,41,42],[5],[]⟩ N (LO a2 a1 0 0 (Md.b2 m) (Md.b0 m) (Md.ts m) (ic (AG (Md.ts m))) 0) (DK 0 (DM (GE N) (DE HY [1,1,1,1]) (DP (GE N) none [.tmp 6,.tmp 7] [[.z],[.z]])))) (cond (decide (a1=ic 1)) (DT (GE N) (DE HY [1,1,1,0,1,0,0]) ⟨[1,5,6,7,8,9,40,41,42],[5],[]⟩ N (LO a2 a1 0 0 (Md.b2 m) (Md.b1 m) (Md.ts m) (ic (AG (Md.ts m))) 0) (DK 0 (DM (GE N) (DE HY [1,1,1,1]) (DP (GE N) none [.tmp 6,.tmp 7] [[.z],[.z]])))) (cond (decide (a1=ic 2)) (DT (GE N) (DE HY [1,1,1,0,1,0,0]) ⟨[1,5,6,7,8,9,40,41,42],[5],[]⟩ N (LO a2 a1 0 0 (Md.b2 m) (Md.b2 m) (Md.ts m) (ic (AG (Md.ts m))) 0) (DK 0 (DM (GE N) (DE HY [1,1,1,1]) (DP (GE N) none [.tmp 6,.tmp 7] [[.z],[.z]])))) none))) none))))))):=by kernel_rfl
theorem Ce (N:Nat) (a2:Bx) (x1 x6 x7 x8 x9:Int) (l40:LI) (x41 x42:Int) (again:St→DH) (k:Out→St→DH):E4 (GE N) (DE HY [1,1,1,0,1,0,0]) (LO a2 x1 x6 x7 x8 x9 l40 x41 x42) (EO again ⟨[1,5,6,7,8,9,40,41,42],[5],[]⟩ k)=(cond (decide (x42 < x41)) (cond (decide (0≤x42)&&decide (x42 < ic (AG l40))) (cond (IV.toInt (IV.cell (AI l40 (AD x42) default) 0)==x1) (cond (GC (IV.toList (IV.cell (AI l40 (AD x42) default) 1)) 4&&FL a2) (again (LO a2 x1 x6 x7 (AA AB (x8+HL (IV.toList (IV.cell (AI l40 (AD x42) default) 1)) a2)) (AA AB (x9+HK (IV.toList (IV.cell (AI l40 (AD x42) default) 1)) a2)) l40 x41 (AA AB (x42+1)))) none) (again (LO a2 x1 x6 x7 x8 x9 l40 x41 (AA AB (x42+1))))) none) (k (.exit 0) (LO a2 x1 x6 x7 x8 x9 l40 x41 x42))):=by kernel_rfl
theorem Mq (N:Nat) (a2:Bx) (x1 x6 x7 x8 x9:Int) (l40:LI) (x41 x42:Int):(DK 0 (DM (GE N) (DE HY [1,1,1,1]) (DP (GE N) none [.tmp 6,.tmp 7] [[.z],[.z]]))) (.exit 0) (LO a2 x1 x6 x7 x8 x9 l40 x41 x42)=(some ((.tup [.i x8,.i x9]),[])):=by kernel_rfl
def KB (N:Nat):Env:=DZ [(112,J0),(113,XY)] [(9,⟨[3,4,5,6,7,42,43],[3,4,5],[]⟩)] 94 N
abbrev QX (m:Md) (a1:Qy) (a2:Bx) (b6:Bool) (x7 x42 x43:Int):St:=⟨[(3,(.ptr 3 0 0)),(4,(.ptr 4 0 0)),(5,(.ptr 5 0 0)),(6,(.bool b6)),(7,(.i x7)),(42,(.i x42)),(43,(.i x43))],[(3,(some (.box (Md.cs m)))),(4,(some (.box (Qy.cs a1)))),(5,(some (.box (Bx.cs a2))))]⟩
theorem Wq (N:Nat) (m:Md) (a1:Qy) (a2:Bx):DS (KB N) ME [.tmp 6] [[.bool]] [(Md.V m),(Qy.V a1),(Bx.V a2)]=(cond (Bx.emp a2) (some ((.bool true),[])) (cond (Bx.emp a2||FL a2) (cond (Qy.k a1==1) (cond (decide (Qy.lo a1≤D0 m (Qy.c a1) a2)) (some ((.bool (decide (DV m (Qy.c a1) a2≤Qy.hi a1))),[])) (some ((.bool false),[]))) (cond (Qy.k a1==2) (DT (KB N) (DE ME [1,1,1,0,1,0,1,1,1,0,0,1,0,0]) ⟨[3,4,5,6,7,42,43],[3,4,5],[]⟩ N (QX m a1 a2 false (D0 m (Qy.c a1) a2) (Md.c m) 0) (DK 1 (DM (KB N) (DE ME [1,1,1,0,1,0,1,1,1,0,1]) (DK 0 (DM (KB N) (DE ME [1,1,1,1]) (DP (KB N) none [.tmp 6] [[.bool]])))))) (cond (decide (Qy.ft a1=ic 0)) (cond (decide (Sp.lo (Bx.s0 a2)≥Sp.hi (Bx.s4 a2))) (some ((.bool true),[])) (cond (decide (Qy.ft a1=ic 0)) (cond (Bx.emp {a2 with s0:=(Bx.s4 a2)}||FL {a2 with s0:=(Bx.s4 a2)}) (cond (Qy.fl a1) (some ((.bool (decide (DV m (Qy.c a1) {a2 with s0:=(Bx.s4 a2)}≤D0 m (Qy.c a1) a2))),[])) (some ((.bool (decide (D0 m (Qy.c a1) {a2 with s0:=(Bx.s4 a2)}≥DV m (Qy.c a1) a2))),[]))) none) (cond (decide (Qy.ft a1=ic 1)) (cond (Bx.emp {a2 with s1:=(Bx.s4 a2)}||FL {a2 with s1:=(Bx.s4 a2)}) (cond (Qy.fl a1) (some ((.bool (decide (DV m (Qy.c a1) {a2 with s1:=(Bx.s4 a2)}≤D0 m (Qy.c a1) a2))),[])) (some ((.bool (decide (D0 m (Qy.c a1) {a2 with s1:=(Bx.s4 a2)}≥DV m (Qy.c a1) a2))),[]))) none) (cond (decide (Qy.ft a1=ic 2)) (cond (Bx.emp {a2 with s2:=(Bx.s4 a2)}||FL {a2 with s2:=(Bx.s4 a2)}) (cond (Qy.fl a1) (some ((.bool (decide (DV m (Qy.c a1) {a2 with s2:=(Bx.s4 a2)}≤D0 m (Qy.c a1) a2))),[])) (some ((.bool (decide (D0 m (Qy.c a1) {a2 with s2:=(Bx.s4 a2)}≥DV m (Qy.c a1) a2))),[]))) none) (cond (decide (Qy.ft a1=ic 3)) (cond (Bx.emp {a2 with s3:=(Bx.s4 a2)}||FL {a2 with s3:=(Bx.s4 a2)}) (cond (Qy.fl a1) (some ((.bool (decide (DV m (Qy.c a1) {a2 with s3:=(Bx.s4 a2)}≤D0 m (Qy.c a1) a2))),[])) (some ((.bool (decide (D0 m (Qy.c a1) {a2 with s3:=(Bx.s4 a2)}≥DV m (Qy.c a1) a2))),[]))) none) (cond (decide (Qy.ft a1=ic 4)) (cond (Bx.emp a2||FL a2) (cond (Qy.fl a1) (some ((.bool (decide (DV m (Qy.c a1) a2≤D0 m (Qy.c a1) a2))),[])) (some ((.bool (decide (D0 m (Qy.c a1) a2≥DV m (Qy.c a1) a2))),[]))) none) none)))))) (cond (decide (Qy.ft a1=ic 1)) (cond (decide (Sp.lo (Bx.s1 a2)≥Sp.hi (Bx.s4 a2))) (some ((.bool true),[])) (cond (decide (Qy.ft a1=ic 0)) (cond (Bx.emp {a2 with s0:=(Bx.s4 a2)}||FL {a2 with s0:=(Bx.s4 a2)}) (cond (Qy.fl a1) (some ((.bool (decide (DV m (Qy.c a1) {a2 with s0:=(Bx.s4 a2)}≤D0 m (Qy.c a1) a2))),[])) (some ((.bool (decide (D0 m (Qy.c a1) {a2 with s0:=(Bx.s4 a2)}≥DV m (Qy.c a1) a2))),[]))) none) (cond (decide (Qy.ft a1=ic 1)) (cond (Bx.emp {a2 with s1:=(Bx.s4 a2)}||FL {a2 with s1:=(Bx.s4 a2)}) (cond (Qy.fl a1) (some ((.bool (decide (DV m (Qy.c a1) {a2 with s1:=(Bx.s4 a2)}≤D0 m (Qy.c a1) a2))),[])) (some ((.bool (decide (D0 m (Qy.c a1) {a2 with s1:=(Bx.s4 a2)}≥DV m (Qy.c a1) a2))),[]))) none) (cond (decide (Qy.ft a1=ic 2)) (cond (Bx.emp {a2 with s2:=(Bx.s4 a2)}||FL {a2 with s2:=(Bx.s4 a2)}) (cond (Qy.fl a1) (some ((.bool (decide (DV m (Qy.c a1) {a2 with s2:=(Bx.s4 a2)}≤D0 m (Qy.c a1) a2))),[])) (some ((.bool (decide (D0 m (Qy.c a1) {a2 with s2:=(Bx.s4 a2)}≥DV m (Qy.c a1) a2))),[]))) none) (cond (decide (Qy.ft a1=ic 3)) (cond (Bx.emp {a2 with s3:=(Bx.s4 a2)}||FL {a2 with s3:=(Bx.s4 a2)}) (cond (Qy.fl a1) (some ((.bool (decide (DV m (Qy.c a1) {a2 with s3:=(Bx.s4 a2)}≤D0 m (Qy.c a1) a2))),[])) (some ((.bool (decide (D0 m (Qy.c a1) {a2 with s3:=(Bx.s4 a2)}≥DV m (Qy.c a1) a2))),[]))) none) (cond (decide (Qy.ft a1=ic 4)) (cond (Bx.emp a2||FL a2) (cond (Qy.fl a1) (some ((.bool (decide (DV m (Qy.c a1) a2≤D0 m (Qy.c a1) a2))),[])) (some ((.bool (decide (D0 m (Qy.c a1) a2≥DV m (Qy.c a1) a2))),[]))) none) none)))))) (cond (decide (Qy.ft a1=ic 2)) (cond (decide (Sp.lo (Bx.s2 a2)≥Sp.hi (Bx.s4 a2))) (some ((.bool true),[])) (cond (decide (Qy.ft a1=ic 0)) (cond (Bx.emp {a2 with s0:=(Bx.s4 a2)}||FL {a2 with s0:=(Bx.s4 a2)}) (cond (Qy.fl a1) (some ((.bool (decide (DV m (Qy.c a1) {a2 with s0:=(Bx.s4 a2)}≤D0 m (Qy.c a1) a2))),[])) (some ((.bool (decide (D0 m (Qy.c a1) {a2 with s0:=(Bx.s4 a2)}≥DV m (Qy.c a1) a2))),[]))) none) (cond (decide (Qy.ft a1=ic 1)) (cond (Bx.emp {a2 with s1:=(Bx.s4 a2)}||FL {a2 with s1:=(Bx.s4 a2)}) (cond (Qy.fl a1) (some ((.bool (decide (DV m (Qy.c a1) {a2 with s1:=(Bx.s4 a2)}≤D0 m (Qy.c a1) a2))),[])) (some ((.bool (decide (D0 m (Qy.c a1) {a2 with s1:=(Bx.s4 a2)}≥DV m (Qy.c a1) a2))),[]))) none) (cond (decide (Qy.ft a1=ic 2)) (cond (Bx.emp {a2 with s2:=(Bx.s4 a2)}||FL {a2 with s2:=(Bx.s4 a2)}) (cond (Qy.fl a1) (some ((.bool (decide (DV m (Qy.c a1) {a2 with s2:=(Bx.s4 a2)}≤D0 m (Qy.c a1) a2))),[])) (some ((.bool (decide (D0 m (Qy.c a1) {a2 with s2:=(Bx.s4 a2)}≥DV m (Qy.c a1) a2))),[]))) none) (cond (decide (Qy.ft a1=ic 3)) (cond (Bx.emp {a2 with s3:=(Bx.s4 a2)}||FL {a2 with s3:=(Bx.s4 a2)}) (cond (Qy.fl a1) (some ((.bool (decide (DV m (Qy.c a1) {a2 with s3:=(Bx.s4 a2)}≤D0 m (Qy.c a1) a2))),[])) (some ((.bool (decide (D0 m (Qy.c a1) {a2 with s3:=(Bx.s4 a2)}≥DV m (Qy.c a1) a2))),[]))) none) (cond (decide (Qy.ft a1=ic 4)) (cond (Bx.emp a2||FL a2) (cond (Qy.fl a1) (some ((.bool (decide (DV m (Qy.c a1) a2≤D0 m (Qy.c a1) a2))),[])) (some ((.bool (decide (D0 m (Qy.c a1) a2≥DV m (Qy.c a1) a2))),[]))) none) none)))))) (cond (decide (Qy.ft a1=ic 3)) (cond (decide (Sp.lo (Bx.s3 a2)≥Sp.hi (Bx.s4 a2))) (some ((.bool true),[])) (cond (decide (Qy.ft a1=ic 0)) (cond (Bx.emp {a2 with s0:=(Bx.s4 a2)}||FL {a2 with s0:=(Bx.s4 a2)}) (cond (Qy.fl a1) (some ((.bool (decide (DV m (Qy.c a1) {a2 with s0:=(Bx.s4 a2)}≤D0 m (Qy.c a1) a2))),[])) (some ((.bool (decide (D0 m (Qy.c a1) {a2 with s0:=(Bx.s4 a2)}≥DV m (Qy.c a1) a2))),[]))) none) (cond (decide (Qy.ft a1=ic 1)) (cond (Bx.emp {a2 with s1:=(Bx.s4 a2)}||FL {a2 with s1:=(Bx.s4 a2)}) (cond (Qy.fl a1) (some ((.bool (decide (DV m (Qy.c a1) {a2 with s1:=(Bx.s4 a2)}≤D0 m (Qy.c a1) a2))),[])) (some ((.bool (decide (D0 m (Qy.c a1) {a2 with s1:=(Bx.s4 a2)}≥DV m (Qy.c a1) a2))),[]))) none) (cond (decide (Qy.ft a1=ic 2)) (cond (Bx.emp {a2 with s2:=(Bx.s4 a2)}||FL {a2 with s2:=(Bx.s4 a2)}) (cond (Qy.fl a1) (some ((.bool (decide (DV m (Qy.c a1) {a2 with s2:=(Bx.s4 a2)}≤D0 m (Qy.c a1) a2))),[])) (some ((.bool (decide (D0 m (Qy.c a1) {a2 with s2:=(Bx.s4 a2)}≥DV m (Qy.c a1) a2))),[]))) none) (cond (decide (Qy.ft a1=ic 3)) (cond (Bx.emp {a2 with s3:=(Bx.s4 a2)}||FL {a2 with s3:=(Bx.s4 a2)}) (cond (Qy.fl a1) (some ((.bool (decide (DV m (Qy.c a1) {a2 with s3:=(Bx.s4 a2)}≤D0 m (Qy.c a1) a2))),[])) (some ((.bool (decide (D0 m (Qy.c a1) {a2 with s3:=(Bx.s4 a2)}≥DV m (Qy.c a1) a2))),[]))) none) (cond (decide (Qy.ft a1=ic 4)) (cond (Bx.emp a2||FL a2) (cond (Qy.fl a1) (some ((.bool (decide (DV m (Qy.c a1) a2≤D0 m (Qy.c a1) a2))),[])) (some ((.bool (decide (D0 m (Qy.c a1) a2≥DV m (Qy.c a1) a2))),[]))) none) none)))))) (cond (decide (Qy.ft a1=ic 4)) (cond (decide (Sp.lo (Bx.s4 a2)≥Sp.hi (Bx.s4 a2))) (some ((.bool true),[])) (cond (decide (Qy.ft a1=ic 0)) (cond (Bx.emp {a2 with s0:=(Bx.s4 a2)}||FL {a2 with s0:=(Bx.s4 a2)}) (cond (Qy.fl a1) (some ((.bool (decide (DV m (Qy.c a1) {a2 with s0:=(Bx.s4 a2)}≤D0 m (Qy.c a1) a2))),[])) (some ((.bool (decide (D0 m (Qy.c a1) {a2 with s0:=(Bx.s4 a2)}≥DV m (Qy.c a1) a2))),[]))) none) (cond (decide (Qy.ft a1=ic 1)) (cond (Bx.emp {a2 with s1:=(Bx.s4 a2)}||FL {a2 with s1:=(Bx.s4 a2)}) (cond (Qy.fl a1) (some ((.bool (decide (DV m (Qy.c a1) {a2 with s1:=(Bx.s4 a2)}≤D0 m (Qy.c a1) a2))),[])) (some ((.bool (decide (D0 m (Qy.c a1) {a2 with s1:=(Bx.s4 a2)}≥DV m (Qy.c a1) a2))),[]))) none) (cond (decide (Qy.ft a1=ic 2)) (cond (Bx.emp {a2 with s2:=(Bx.s4 a2)}||FL {a2 with s2:=(Bx.s4 a2)}) (cond (Qy.fl a1) (some ((.bool (decide (DV m (Qy.c a1) {a2 with s2:=(Bx.s4 a2)}≤D0 m (Qy.c a1) a2))),[])) (some ((.bool (decide (D0 m (Qy.c a1) {a2 with s2:=(Bx.s4 a2)}≥DV m (Qy.c a1) a2))),[]))) none) (cond (decide (Qy.ft a1=ic 3)) (cond (Bx.emp {a2 with s3:=(Bx.s4 a2)}||FL {a2 with s3:=(Bx.s4 a2)}) (cond (Qy.fl a1) (some ((.bool (decide (DV m (Qy.c a1) {a2 with s3:=(Bx.s4 a2)}≤D0 m (Qy.c a1) a2))),[])) (some ((.bool (decide (D0 m (Qy.c a1) {a2 with s3:=(Bx.s4 a2)}≥DV m (Qy.c a1) a2))),[]))) none) (cond (decide (Qy.ft a1=ic 4)) (cond (Bx.emp a2||FL a2) (cond (Qy.fl a1) (some ((.bool (decide (DV m (Qy.c a1) a2≤D0 m (Qy.c a1) a2))),[])) (some ((.bool (decide (D0 m (Qy.c a1) a2≥DV m (Qy.c a1) a2))),[]))) none) none)))))) none))))))) none)):=by kernel_rfl
theorem Cf (N:Nat) (m:Md) (a1:Qy) (a2:Bx) (b6:Bool) (x7 x42 x43:Int) (again:St→DH) (k:Out→St→DH):E4 (KB N) (DE ME [1,1,1,0,1,0,1,1,1,0,0,1,0,0]) (QX m a1 a2 b6 x7 x42 x43) (EO again ⟨[3,4,5,6,7,42,43],[3,4,5],[]⟩ k)=(cond (decide (x43 < x42)) (cond (Bx.emp a2||FL a2) (cond (x43 != Qy.c a1) (cond (decide (DV m x43 a2≥x7)) (k .ret (QX m a1 a2 false x7 x42 x43)) (again (QX m a1 a2 b6 x7 x42 (AA AB (x43+1))))) (again (QX m a1 a2 b6 x7 x42 (AA AB (x43+1))))) none) (k (.exit 1) (QX m a1 a2 b6 x7 x42 x43))):=by kernel_rfl
theorem Mr (N:Nat) (m:Md) (a1:Qy) (a2:Bx) (b6:Bool) (x7 x42 x43:Int):(DK 1 (DM (KB N) (DE ME [1,1,1,0,1,0,1,1,1,0,1]) (DK 0 (DM (KB N) (DE ME [1,1,1,1]) (DP (KB N) none [.tmp 6] [[.bool]]))))) (.exit 1) (QX m a1 a2 b6 x7 x42 x43)=(some ((.bool true),[])):=by kernel_rfl
theorem Ms (N:Nat) (m:Md) (a1:Qy) (a2:Bx) (b6:Bool) (x7 x42 x43:Int):(DK 1 (DM (KB N) (DE ME [1,1,1,0,1,0,1,1,1,0,1]) (DK 0 (DM (KB N) (DE ME [1,1,1,1]) (DP (KB N) none [.tmp 6] [[.bool]]))))) .ret (QX m a1 a2 b6 x7 x42 x43)=(some ((.bool b6),[])):=by kernel_rfl
def IT (N:Nat):Env:=DZ [(69,XS),(68,X1),(67,YT),(70,TA),(65,MB),(66,TB)] [(8,⟨[3,4,6,9,29,30,31],[3,4],[]⟩)] 59 N
abbrev QW (m:Md) (q:Qy) (b6 b9:Bool) (l29:LI) (x30 x31:Int):St:=⟨[(3,(.ptr 3 0 0)),(4,(.ptr 4 0 0)),(6,(.bool b6)),(9,(.bool b9)),(29,(.list true EV l29)),(30,(.i x30)),(31,(.i x31))],[(3,(some (.box (Md.cs m)))),(4,(some (.box (Qy.cs q))))]⟩
theorem Wo (N:Nat) (m:Md) (q:Qy) (v:Vd):DS (IT N) KI [.tmp 6] [[.bool]] [(Md.V m),(Qy.V q),(Vd.V v)]=(cond (!E6 m q) (some ((.bool false),[])) (cond (Vd.kind v==1) (cond (Option.isSome (LD (GW q) (Vd.proof v))) (DT (IT N) (DE KI [1,1,1,0,1,0,1,0,1,0,1,0,0]) ⟨[3,4,6,9,29,30,31],[3,4],[]⟩ N (QW m q false true (Option.getD (LD (GW q) (Vd.proof v)) []) (ic (AG (Option.getD (LD (GW q) (Vd.proof v)) []))) 0) (DK 1 (DM (IT N) (DE KI [1,1,1,0,1,0,1,0,1,1]) (DK 0 (DM (IT N) (DE KI [1,1,1,1]) (DP (IT N) none [.tmp 6] [[.bool]])))))) (DT (IT N) (DE KI [1,1,1,0,1,0,1,0,1,0,1,0,0]) ⟨[3,4,6,9,29,30,31],[3,4],[]⟩ N (QW m q false false [] (ic 0) 0) (DK 1 (DM (IT N) (DE KI [1,1,1,0,1,0,1,0,1,1]) (DK 0 (DM (IT N) (DE KI [1,1,1,1]) (DP (IT N) none [.tmp 6] [[.bool]]))))))) (cond (Vd.kind v==2) (cond (Bx.has (GW q) {p0:=Vd.w0 v,p1:=Vd.w1 v,p2:=Vd.w2 v,p3:=Vd.w3 v} (Vd.twin v)) (some ((.bool (G0 m q {p0:=Vd.w0 v,p1:=Vd.w1 v,p2:=Vd.w2 v,p3:=Vd.w3 v} (Vd.twin v))),[])) (some ((.bool false),[]))) (some ((.bool false),[]))))):=by kernel_rfl
theorem nK (N:Nat) (m:Md) (q:Qy) (b6 b9:Bool) (l29:LI) (x30 x31:Int) (again:St→DH) (k:Out→St→DH):E4 (IT N) (DE KI [1,1,1,0,1,0,1,0,1,0,1,0,0]) (QW m q b6 b9 l29 x30 x31) (EO again ⟨[3,4,6,9,29,30,31],[3,4],[]⟩ k)=(cond (decide (x31 < x30)) (cond (decide (0≤x31)&&decide (x31 < ic (AG l29))) (cond (E6 m q&&(Bx.emp (DW (AI l29 (AD x31) default))||FL (DW (AI l29 (AD x31) default)))) (cond (!GG m q (DW (AI l29 (AD x31) default))) (k .ret (QW m q false b9 l29 x30 x31)) (again (QW m q b6 b9 l29 x30 (AA AB (x31+1))))) none) none) (k (.exit 1) (QW m q b6 b9 l29 x30 x31))):=by kernel_rfl
theorem tX (N:Nat) (m:Md) (q:Qy) (b6 b9:Bool) (l29:LI) (x30 x31:Int):(DK 1 (DM (IT N) (DE KI [1,1,1,0,1,0,1,0,1,1]) (DK 0 (DM (IT N) (DE KI [1,1,1,1]) (DP (IT N) none [.tmp 6] [[.bool]]))))) (.exit 1) (QW m q b6 b9 l29 x30 x31)=(some ((.bool b9),[])):=by kernel_rfl
theorem Mp (N:Nat) (m:Md) (q:Qy) (b6 b9:Bool) (l29:LI) (x30 x31:Int):(DK 1 (DM (IT N) (DE KI [1,1,1,0,1,0,1,0,1,1]) (DK 0 (DM (IT N) (DE KI [1,1,1,1]) (DP (IT N) none [.tmp 6] [[.bool]]))))) .ret (QW m q b6 b9 l29 x30 x31)=(some ((.bool b6),[])):=by kernel_rfl
open Go Go.Proofs
theorem zcN:DQ PR B0 192 YV:=by
 refine D1 [] [] YV [[.bool]] Tryz.func192 Sf trivial ?_;intro vs r hwf h;unfold YV at h;split at h
 ·rename_i s p a;rw [R.get_ok] at h;refine ⟨0,(Yk 0 s p a).trans ?_⟩;rw [← h];unfold JJ;show _=some (V.bool (cond s (p==0&&a==0) (decide (0≤p)&&decide (p≤4))),[]);cases s with
  | true=>
   simp only [CO,CE];rfl
  | false=>
   simp only [B9];by_cases hp:0≤p
   ·rw [AE (show p≥0 from hp)]; rfl
   ·rw [AL (show ¬ p≥0 from hp)]; rfl
 ·simp [R.get] at h
def Lr (o:Option (Int × Int)):Int:=match o with
 | some st=>cond (!(st.1==0)||decide (st.2 > 200)) 0 st.2
 | none=>0
theorem jA (N:Nat) (l:LI) (K:Out→St→DH) (hl:l.length≤65536)
  (hx:∀ x2 x3 x4 x11 x12,K (.exit 0) ⟨[(2,(.int .i64 x2)),(3,(.int .i64 x3)),(4,(.int .i64 x4)),(10,(.list true EH l)),(11,(.int .i64 x11)),(12,(.int .i64 x12))],[]⟩=cond (x3 != 0) (some ((.int .i64 0),[])) (cond (decide (x4 > 200)) (some ((.int .i64 0),[])) (some ((.int .i64 x4),[]))))
  (hr:∀ x2 x3 x4 x11 x12,K .ret ⟨[(2,(.int .i64 x2)),(3,(.int .i64 x3)),(4,(.int .i64 x4)),(10,(.list true EH l)),(11,(.int .i64 x11)),(12,(.int .i64 x12))],[]⟩=some (.int .i64 x2,[])) :
  ∀ (d i n:Nat) (left most:Int),i+d=l.length→d < n→0≤left→left≤i+1 →
   DT (OP N) (DE RH [1,1,1,0,1,0,0]) ⟨[2,3,4,10,11,12],[],[]⟩ n ⟨[(2,(.int .i64 0)),(3,(.int .i64 left)),(4,(.int .i64 most)),(10,(.list true EH l)),(11,(.int .i64 (ic l.length))),(12,(.int .i64 (i:Int)))],[]⟩ K=some (.int .i64 (Lr (JR (l.drop i) (left,most))),[])
 | d,i,0,_,_,_,h,_,_=>absurd h (by omega)
 | 0,i,n+1,left,most,hd,_,_,_=>by
  rw [D2,Cw,JC (by omega),DD,hx,CN (by omega)];show _=some (V.int .i64 (cond (!(left==0)||decide (most > 200)) 0 most),[])
  have:(left != 0)=!(left==0):=rfl
  rw [this];cases left==0 <;> cases decide (most > 200) <;> rfl
 | d+1,i,n+1,left,most,hd,hn,h0,h1=>by
  have hi:i < l.length:=by omega
  rw [D2,Cw,IN hi,DC,I0,B1,DC,HJ (by omega),JB hi,A9 hi,JR];unfold MI;have er:JJ (L5 (IV.toBool (IV.cell l[i] 0)) (IV.toInt (IV.cell l[i] 1)) (IV.toInt (IV.cell l[i] 2)))=JJ l[i]:=rfl;have es:IV.toBool (IV.cell l[i] 0)=HT l[i]:=rfl;rw [er,es];generalize l[i]=x;cases hz:(left==0) with
  | true=>rw [DC,hr]; rfl
  | false=>
   have hne:left≠0:=by simpa using hz
   rw [DD];cases JJ x with
   | false=>rw [BB,DC,hr]; rfl
   | true=>
    rw [A2,DD,Bool.or_false,DD];cases HT x with
    | true=>
     rw [DC,DC,show AA AB (left - 1)=left - 1 from EC (by omega) (by omega)];exact jA N l K hl hx hr d (i+1) n (left - 1) most (by omega) (by omega) (by omega) (by omega)
    | false=>
     rw [DD,DD,show AA AB (left+1)=left+1 from EC (by omega) (by omega)];exact jA N l K hl hx hr d (i+1) n (left+1) _ (by omega) (by omega) (by omega) (by omega)
theorem zcM:DQ PR B0 156 YU:=by
 refine D1 [(192,YV)] [(5,⟨[2,3,4,10,11,12],[],[]⟩)] YU [[.z]] Tryz.func156 Se ⟨zcN,trivial⟩ ?_;intro vs r hwf h;unfold YU at h;split at h
 ·rename_i l;rw [R.get_ok] at h;refine ⟨l.length+1,(Yj (l.length+1) l).trans ?_⟩;rw [← h];unfold MH;by_cases hl:l.length≤65536
  ·rw [AL (show ¬ ic l.length > 65536 by simp only [ic]; omega),DD,DD]
   have:=jA (l.length+1) l _ hl (fun x2 x3 x4 x11 x12=>No (l.length+1) x2 x3 x4 l x11 x12) (fun x2 x3 x4 x11 x12=>Np (l.length+1) x2 x3 x4 l x11 x12) l.length 0 (l.length+1) 1 1 (by omega) (by omega) (by omega) (by omega)
   rw [B4] at this;exact this
  ·rw [AE (show ic l.length > 65536 by simp only [ic]; omega)];rfl
 ·simp [R.get] at h
theorem zcK:DQ PR B0 110 YS:=by
 refine D1 [(156,YU)] [] YS [[.bool]] Tryz.func110 Sc ⟨zcM,trivial⟩ ?_;intro vs r hwf h;unfold YS at h;split at h
 ·rename_i l;rw [R.get_ok] at h;exact ⟨0,(Yi 0 l).trans h⟩
 ·simp [R.get] at h
theorem Xu (b:Bx) (p:Pt) (t:Int):DS (Ga 6) qG [.tmp 6] [[.bool]] [b.V,p.V,.int .i64 t] =
 cond (!b.s0.has p.p0) (some (.bool false,[])) (cond (!b.s1.has p.p1) (some (.bool false,[])) (cond (!b.s2.has p.p2) (some (.bool false,[])) (cond (!b.s3.has p.p3) (some (.bool false,[])) (some (.bool (b.s4.has t),[]))))):=by kernel_rfl
theorem zb5:DQ PR B0 69 XS:=by
 refine D1 [(114,TF)] [(2,⟨[2,3,6,9,10],[3],[]⟩)] XS [[.bool]] Tryz.func69 Py ⟨Ap,trivial⟩ ?_;intro vs r hwf h;unfold XS at h;split at h
 ·rename_i b p t;replace h:=IS h;obtain ⟨b,rfl,h⟩:=h;replace h:=U6 h;obtain ⟨p,rfl,h⟩:=h;rw [R.get_ok] at h;refine ⟨6,(Xu b p t).trans ?_⟩;rw [← h];unfold Bx.has;cases b.s0.has p.p0 <;> cases b.s1.has p.p1 <;> cases b.s2.has p.p2 <;> cases b.s3.has p.p3 <;> rfl
 ·simp [R.get] at h
open Go
theorem ND {s:Sp} {n:Int}:s.has n=true↔s.lo≤n∧n≤s.hi:=by
 unfold Sp.has;rw [AH,AQ,AQ]
theorem zda {s:Sp}:s.emp=false↔s.lo≤s.hi:=by
 unfold Sp.emp;rw [BQ];omega
theorem Bh {lo hi n:Int}:(LM lo hi).has n=true↔lo≤n∧n≤hi:=by
 unfold LM;cases hd:decide (lo > hi) with
 | true=>
  have:=A1 hd
  rw [DC,ND];show (1:Int)≤n∧n≤0↔_;omega
 | false=>rw [DD,ND]
theorem iV {s:Sp} {a n:Int}:(s.cutL a).has n=true↔s.has n=true∧n≤a:=by
 unfold Sp.cutL;rw [Bh,ND];omega
theorem iT {s:Sp} {a n:Int} (ha : -9223372036854775808≤a) (hs:s.hi≤9223372036854775807):(s.cutH a).has n=true↔s.has n=true∧a < n:=by
 unfold Sp.cutH;cases hd:decide (a≥s.hi) with
 | true=>
  have:=A1 hd
  rw [DC,ND,ND];show (1:Int)≤n∧n≤0↔_;omega
 | false=>
  have:=BE hd
  have e:E7 (a+1)=a+1:=EC (by omega) (by omega);rw [DD,Bh,ND,e];omega
def co (p:Pt) (t:Int):Nat→Int
 | 0=>p.p0
 | 1=>p.p1
 | 2=>p.p2
 | 3=>p.p3
 | _=>t
theorem OT {b:Bx} {p:Pt} {t:Int}:b.has p t=true↔∀ i,i < 5→(b.g i).has (co p t i)=true:=by
 unfold Bx.has;simp only [AH];constructor
 ·rintro ⟨h0,h1,h2,h3,h4⟩ i hi
  match i,hi with
  | 0,_=>exact h0
  | 1,_=>exact h1
  | 2,_=>exact h2
  | 3,_=>exact h3
  | 4,_=>exact h4
  | i+5,h=>exact absurd h (by omega)
 ·intro h;exact ⟨h 0 (by omega),h 1 (by omega),h 2 (by omega),h 3 (by omega),h 4 (by omega)⟩
theorem iC {b:Bx}:b.emp=false↔∀ i,i < 5→(b.g i).lo≤(b.g i).hi:=by
 unfold Bx.emp;simp only [van,zda];constructor
 ·rintro ⟨h0,h1,h2,h3,h4⟩ i hi
  match i,hi with
  | 0,_=>exact h0
  | 1,_=>exact h1
  | 2,_=>exact h2
  | 3,_=>exact h3
  | 4,_=>exact h4
  | i+5,h=>exact absurd h (by omega)
 ·intro h;exact ⟨h 0 (by omega),h 1 (by omega),h 2 (by omega),h 3 (by omega),h 4 (by omega)⟩
theorem KG (b:Bx) (s:Sp):∀ {i j:Nat},i < 5→j < 5→(b.p s i).g j=if j=i then s else b.g j
 | 0,0,_,_=>rfl
 | 0,1,_,_=>rfl
 | 0,2,_,_=>rfl
 | 0,3,_,_=>rfl
 | 0,4,_,_=>rfl
 | 1,0,_,_=>rfl
 | 1,1,_,_=>rfl
 | 1,2,_,_=>rfl
 | 1,3,_,_=>rfl
 | 1,4,_,_=>rfl
 | 2,0,_,_=>rfl
 | 2,1,_,_=>rfl
 | 2,2,_,_=>rfl
 | 2,3,_,_=>rfl
 | 2,4,_,_=>rfl
 | 3,0,_,_=>rfl
 | 3,1,_,_=>rfl
 | 3,2,_,_=>rfl
 | 3,3,_,_=>rfl
 | 3,4,_,_=>rfl
 | 4,0,_,_=>rfl
 | 4,1,_,_=>rfl
 | 4,2,_,_=>rfl
 | 4,3,_,_=>rfl
 | 4,4,_,_=>rfl
 | i+5,_,h,_=>absurd h (by omega)
 | _,j+5,_,h=>absurd h (by omega)
def Bx.ok (b:Bx):Prop:=∀ i,i < 5→(b.g i).hi≤2147483647
theorem VQ (b:Bx) (h:b.emp=false):b.has b.low b.s4.hi=true:=by
 rw [iC] at h;rw [OT];intro i hi;rw [ND]
 have:=h i hi
 match i,hi with
 | 0,_=>exact ⟨vab _,this⟩
 | 1,_=>exact ⟨vab _,this⟩
 | 2,_=>exact ⟨vab _,this⟩
 | 3,_=>exact ⟨vab _,this⟩
 | 4,_=>exact ⟨this,vab _⟩
 | i+5,h=>exact absurd h (by omega)
theorem cT {b:Bx} {p:Pt} {t:Int} (h:b.has p t=true):b.emp=false:=by
 rw [OT] at h;rw [iC];intro i hi
 have:=ND.1 (h i hi)
 omega
theorem iU {b:Bx} {i:Nat} (hi:i < 5) {a:Int} {p:Pt} {t:Int}:(b.cutL (i:Int) a).has p t=true↔b.has p t=true∧co p t i≤a:=by
 unfold Bx.cutL;rw [BD,OT,OT];constructor
 ·intro h;refine ⟨fun j hj=>?_,?_⟩
  ·have:=h j hj
   rw [KG b _ hi hj] at this;by_cases e:j=i
   ·rw [BL e,iV] at this;rw [e] at this ⊢;exact this.1
   ·rw [A4 e] at this;exact this
  ·have:=h i hi
   rw [KG b _ hi hi,BL rfl,iV] at this;exact this.2
 ·rintro ⟨h,ha⟩ j hj;rw [KG b _ hi hj];by_cases e:j=i
  ·rw [BL e,iV,e];exact ⟨h i hi,ha⟩
  ·rw [A4 e];exact h j hj
theorem iS {b:Bx} (hb:b.ok) {i:Nat} (hi:i < 5) {a:Int} (ha : -2147483648≤a) {p:Pt} {t:Int}:(b.cutH (i:Int) a).has p t=true↔b.has p t=true∧a < co p t i:=by
 have hs:=hb i hi;unfold Bx.cutH;rw [BD,OT,OT];constructor
 ·intro h;refine ⟨fun j hj=>?_,?_⟩
  ·have:=h j hj
   rw [KG b _ hi hj] at this;by_cases e:j=i
   ·rw [BL e,iT (by omega) (by omega)] at this;rw [e] at this ⊢;exact this.1
   ·rw [A4 e] at this;exact this
  ·have:=h i hi
   rw [KG b _ hi hi,BL rfl,iT (by omega) (by omega)] at this;exact this.2
 ·rintro ⟨h,ha'⟩ j hj;rw [KG b _ hi hj];by_cases e:j=i
  ·rw [BL e,iT (by omega) (by omega),e];exact ⟨h i hi,ha'⟩
  ·rw [A4 e];exact h j hj
theorem Bi {lo hi:Int} (h:hi≤2147483647):(LM lo hi).hi≤2147483647:=by
 unfold LM;cases decide (lo > hi) with
 | true=>rw [DC]; show (0:Int)≤_; omega
 | false=>exact h
theorem aL {b:Bx} (hb:b.ok) {s:Sp} (hs:s.hi≤2147483647) {i:Nat} (hi:i < 5):(b.p s i).ok:=by
 intro j hj;rw [KG b _ hi hj];split
 ·exact hs
 ·exact hb j hj
theorem s8 {b:Bx} (hb:b.ok) {i:Nat} (hi:i < 5) (a:Int):(b.cutL (i:Int) a).ok:=by
 unfold Bx.cutL;rw [BD];refine aL hb ?_ hi;unfold Sp.cutL;exact Bi (by have:=hb i hi; omega)
theorem s6 {b:Bx} (hb:b.ok) {i:Nat} (hi:i < 5) (a:Int):(b.cutH (i:Int) a).ok:=by
 unfold Bx.cutH;rw [BD];refine aL hb ?_ hi;unfold Sp.cutH;cases decide (a≥(b.g i).hi) with
 | true=>rw [DC]; show (0:Int)≤_; omega
 | false=>exact Bi (hb i hi)
theorem HW (b:Bx):DW b.I=b:=rfl
theorem cZ (p:Pt) (t:Int):∀ {i:Nat},i < 4→co p t i=p.g i
 | 0,_=>rfl
 | 1,_=>rfl
 | 2,_=>rfl
 | 3,_=>rfl
 | i+4,h=>absurd h (by omega)
abbrev nd (l:LI) (i:Nat):Nd:=DF (l.getD i default).toInt
def UE (l:LI) (k j:Nat):Prop:=(nd l k).lf=false∧((nd l k).l=(j:Int)∨(nd l k).r=(j:Int))
structure TreeOK (l:LI):Prop where
 len:1≤l.length∧l.length≤31
 node:∀ k,k < l.length→FU (l.getD k default).toInt=true
 fork:∀ k,k < l.length→(nd l k).lf=false→(0≤(nd l k).f∧(nd l k).f < 4)∧EU (nd l k).a=true∧((k:Int) < (nd l k).l∧(nd l k).l < ic l.length)∧((k:Int) < (nd l k).r∧(nd l k).r < ic l.length)∧(nd l k).l≠(nd l k).r
 parent:∀ j,1≤j→j < l.length→∃ k,k < l.length∧UE l k j
 alone:∀ j k k',1≤j→j < l.length→k < l.length→k' < l.length→UE l k j→UE l k' j→k=k'
theorem zdq {l:List Nat}:∀ {k a:Nat},l[k]?=some a→a≤l.sum:=by
 induction l with
 | nil=>intro k a h; simp at h
 | cons x r ih=>
  intro k a h;cases k with
  | zero=>simp at h; simp; omega
  | succ k=>have:=ih (k:=k) (a:=a) (by simpa using h); simp; omega
theorem Dr {l:List Nat}:∀ {k k' a b:Nat},k < k'→l[k]?=some a→l[k']?=some b→a+b≤l.sum:=by
 induction l with
 | nil=>intro k k' a b _ h; simp at h
 | cons x r ih=>
  intro k k' a b hk h h';cases k with
  | zero=>
   cases k' with
   | zero=>omega
   | succ k'=>
    have:=zdq (l:=r) (k:=k') (a:=b) (by simpa using h')
    simp at h;simp;omega
  | succ k=>
   cases k' with
   | zero=>omega
   | succ k'=>
    have:=ih (k:=k) (k':=k') (a:=a) (b:=b) (by omega) (by simpa using h) (by simpa using h')
    simp;omega
theorem zds {l:List Nat}:0 < l.sum→∃ (k a:Nat),l[k]?=some a∧0 < a:=by
 induction l with
 | nil=>intro h; simp at h
 | cons x r ih=>
  intro h;by_cases hx:0 < x
  ·exact ⟨0,x,rfl,hx⟩
  ·obtain ⟨k,a,hk,ha⟩:=ih (by simp at h; omega);exact ⟨k+1,a,by simpa using hk,ha⟩
theorem k7 {x:Nd} {j:Nat}:0 < J3 x j↔x.lf=false∧(x.l=(j:Int)∨x.r=(j:Int)):=by
 unfold J3;cases x.lf with
 | true=>simp
 | false=>
  rw [DD];by_cases h1:x.l=(j:Int) <;> by_cases h2:x.r=(j:Int) <;> simp [h1,h2]
theorem ZW {l:LI} {k:Nat} (h:k < l.length):l.getD k default=l[k]:=by simp [h]
theorem n3 {l:LI} (h:GC l 4=true):TreeOK l:=by
 have key:∀ {dim n:Int} {l:LI} {i k:Nat} (hk:k < l.length),JF dim n i l=true→FU (l[k]).toInt=true∧MJ dim n (i+k) (DF (l[k]).toInt)=true:=by
  intro dim n l
  induction l with
  | nil=>intro i k hk; exact absurd hk (Nat.not_lt_zero k)
  | cons w r ih=>
   intro i k hk h;rw [JF] at h;simp only [AH] at h;cases k with
   | zero=>exact h.1
   | succ k=>
    have:=ih (k:=k) (by simpa using hk) h.2
    rw [show i+1+k=i+(k+1) by omega] at this;exact this
 unfold GC at h;simp only [AH] at h;obtain ⟨⟨h1,h31⟩,hn,ho⟩:=h;have hlen:=AM h1;have once:∀ j,1≤j→j < l.length→H4 l j=1:=fun j hj hjl=>by
  unfold WH at ho;rw [CP] at ho
  have:=ho (j - 1) (vaH.2 (by omega))
  rw [show j - 1+1=j by omega] at this;simpa using this
 have at_:∀ k (hk:k < l.length) j,(l.map fun w=>J3 (DF w.toInt) j)[k]?=some (J3 (nd l k) j):=fun k hk j=>by
  rw [B5,A6 hk];unfold nd;rw [ZW hk];rfl
 refine ⟨⟨hlen,AM h31⟩,fun k hk=>by rw [ZW hk]; exact (key hk hn).1,fun k hk hl=>?_,fun j hj hjl=>?_,fun j k k' hj hjl hk hk' hn1 hn2=>?_⟩
 ·have h2:=(key hk hn).2;have h3:=(key hk hn).1;rw [BF] at h2;unfold nd at hl ⊢;rw [ZW hk] at hl ⊢;unfold MJ at h2;rw [hl,DD] at h2;simp only [AH,BY,BQ,BR] at h2;obtain ⟨q1,q2,q3,q4⟩:=h2;have hr:=(eR h3).2;unfold LJ OV at hr;rw [hl,DD] at hr;simp only [AH,AQ] at hr;exact ⟨⟨hr.2.1,hr.2.2.1⟩,hr.2.2.2.1,⟨by omega,by simp only [ic] at q4 ⊢; omega⟩,⟨by omega,by simp only [ic] at q4 ⊢; omega⟩,q2⟩
 ·have h2:=once j hj hjl;unfold H4 at h2;obtain ⟨k,a,hk,ha⟩:=zds (l:=l.map fun w=>J3 (DF w.toInt) j) (by omega);have hkl:k < l.length:=by
   have:=(BN.1 hk).1
   simpa using this
  rw [at_ k hkl j] at hk;simp only [AC] at hk;subst hk;exact ⟨k,hkl,k7.1 ha⟩
 ·have h2:=once j hj hjl;unfold H4 at h2;have p1:0 < J3 (nd l k) j:=k7.2 hn1;have p2:0 < J3 (nd l k') j:=k7.2 hn2;rcases Nat.lt_trichotomy k k' with hlt | heq | hlt
  ·have:=Dr hlt (at_ k hk j) (at_ k' hk' j)
   omega
  ·exact heq
  ·have:=Dr hlt (at_ k' hk' j) (at_ k hk j)
   omega
def OD (l:LI) (p:Pt) (i:Nat):Int:=(H0 l p 31 (i:Int)).2.v
theorem dA {l:LI} (h:TreeOK l) (p:Pt) {i:Nat} (hi:i < l.length) (n:Nat):H0 l p (n+1) (i:Int) =
  cond (nd l i).lf ((i:Int),nd l i) (cond (decide (p.g (nd l i).f.toNat≤(nd l i).a)) (H0 l p n (nd l i).l) (H0 l p n (nd l i).r)):=by
 rw [H0,AL (show ¬ (i:Int)≥ic l.length by simp only [ic]; omega),DD,BD,h.node i hi,A2,DD]
theorem dC {l:LI} (h:TreeOK l) (p:Pt):∀ (n n' i:Nat),i < l.length→l.length - i≤n→l.length - i≤n'→H0 l p n (i:Int)=H0 l p n' (i:Int)
 | 0,_,i,hi,h1,_=>absurd h1 (by omega)
 | _+1,0,i,hi,_,h2=>absurd h2 (by omega)
 | n+1,n'+1,i,hi,h1,h2=>by
  rw [dA h p hi,dA h p hi];cases hl:(nd l i).lf with
  | true=>rfl
  | false=>
   obtain ⟨_,_,⟨a1,a2⟩,⟨b1,b2⟩,_⟩:=h.fork i hi hl;simp only [ic] at a2 b2;rw [DD,DD];cases decide (p.g (nd l i).f.toNat≤(nd l i).a) with
   | true=>
    have e:(nd l i).l=(((nd l i).l.toNat:Nat):Int):=by omega
    rw [DC,DC,e];exact dC h p n n' _ (by omega) (by omega) (by omega)
   | false=>
    have e:(nd l i).r=(((nd l i).r.toNat:Nat):Int):=by omega
    rw [DD,DD,e];exact dC h p n n' _ (by omega) (by omega) (by omega)
theorem Er {l:LI} (h:TreeOK l) (p:Pt) {i:Nat} (hi:i < l.length) (hl:(nd l i).lf=true):OD l p i=(nd l i).v:=by
 unfold OD;rw [dA h p hi,hl,DC]
theorem Ep {l:LI} (h:TreeOK l) (p:Pt) {i:Nat} (hi:i < l.length) (hl:(nd l i).lf=false):OD l p i=OD l p (cond (decide (p.g (nd l i).f.toNat≤(nd l i).a)) (nd l i).l.toNat (nd l i).r.toNat):=by
 obtain ⟨_,_,⟨a1,a2⟩,⟨b1,b2⟩,_⟩:=h.fork i hi hl;have h31:=h.len.2;simp only [ic] at a2 b2;unfold OD;rw [dA h p hi,hl,DD];cases decide (p.g (nd l i).f.toNat≤(nd l i).a) with
 | true=>
  rw [DC,DC];have e:(nd l i).l=(((nd l i).l.toNat:Nat):Int):=by omega
  rw [e,BD];rw [dC h p 30 31 _ (by omega) (by omega) (by omega)]
 | false=>
  rw [DD,DD];have e:(nd l i).r=(((nd l i).r.toNat:Nat):Int):=by omega
  rw [e,BD];rw [dC h p 30 31 _ (by omega) (by omega) (by omega)]
theorem zdQ (l:LI) (p:Pt):GO l p=OD l p 0:=rfl
abbrev H8 (own:LI) (j:Nat):Bx:=DW (own.getD j default)
def fr (l:LI) (i j:Nat):Prop:=i≤j∧j < l.length∧(j=0∨∃ k,k < i∧UE l k j)
structure PInv (l:LI) (b:Bx) (i:Nat) (own out:LI):Prop where
 len:own.length=l.length
 val:∀ j,fr l i j→∀ p t,(H8 own j).has p t=true→b.has p t=true∧OD l p 0=OD l p j
 ok:∀ j,fr l i j→(H8 own j).ok
 all:∀ p t,b.has p t=true→(∃ x∈out,(DW x).has p t=true)∨∃ j,fr l i j∧(H8 own j).has p t=true
 out:∀ x∈out,(DW x).emp=false∧(DW x).ok∧∀ p t,(DW x).has p t=true→b.has p t=true∧GO l p=G2 x
theorem uH {l:LI} (h:TreeOK l) {i:Nat} (hi:i < l.length):fr l i i:=by
 refine ⟨AY _,hi,?_⟩;by_cases h0:i=0
 ·exact .inl h0
 ·obtain ⟨k,hk,hn⟩:=h.parent i (by omega) hi;refine .inr ⟨k,?_,hn⟩;obtain ⟨_,_,a,b,_⟩:=h.fork k hk hn.1;rcases hn.2 with e | e <;> omega
theorem mW {own:LI} {a j:Nat} {x:IV} (ha:a < own.length):(own.set a x).getD j default=if j=a then x else own.getD j default:=by
 rw [BO,List.getElem?_set];by_cases e:a=j
 ·subst e;rw [BL rfl,BL ha,BL rfl];rfl
 ·rw [A4 e,A4 (fun h=>e h.symm),← BO]
theorem zaS {l:LI} (h:TreeOK l) {b:Bx} {i:Nat} (hi:i < l.length) {own out:LI} (hp:PInv l b i own out) :
  PInv l b (i+1) (M7 (nd l i) i own) (cond ((nd l i).lf&&!(H8 own i).emp) (out++[aO (H8 own i) (nd l i).v]) out):=by
 have hfi:=uH h hi;cases hl:(nd l i).lf with
 | true=>
  have e1:M7 (nd l i) i own=own:=by unfold M7; rw [hl,DC]
  have hfr:∀ j,fr l (i+1) j→fr l i j:=fun j hj=>by
   refine ⟨by have:=hj.1; omega,hj.2.1,hj.2.2.imp_right ?_⟩;rintro ⟨k,hk,hn⟩;refine ⟨k,?_,hn⟩;rcases Nat.lt_succ_iff_lt_or_eq.1 hk with h1 | h1
   ·exact h1
   ·subst h1;rw [hn.1] at hl;cases hl
  have hrf:∀ j,fr l i j→j=i∨fr l (i+1) j:=fun j hj=>by
   by_cases e:j=i
   ·exact .inl e
   ·refine .inr ⟨by have:=hj.1; omega,hj.2.1,hj.2.2.imp_right ?_⟩;rintro ⟨k,hk,hn⟩;exact ⟨k,by omega,hn⟩
  rw [e1,BH];have hv:=fun p=>Er h p hi hl
  cases he:(H8 own i).emp with
  | true=>
   rw [A2,DD];refine ⟨hp.len,fun j hj=>hp.val j (hfr j hj),fun j hj=>hp.ok j (hfr j hj),fun p t hb=>?_,hp.out⟩;rcases hp.all p t hb with h1 | ⟨j,hj,hh⟩
   ·exact .inl h1
   ·rcases hrf j hj with rfl | hj'
    ·rw [cT hh] at he;cases he
    ·exact .inr ⟨j,hj',hh⟩
  | false=>
   rw [BB,DC];refine ⟨hp.len,fun j hj=>hp.val j (hfr j hj),fun j hj=>hp.ok j (hfr j hj),fun p t hb=>?_,fun x hx=>?_⟩
   ·rcases hp.all p t hb with ⟨x,hx,hh⟩ | ⟨j,hj,hh⟩
    ·exact .inl ⟨x,AV.2 (.inl hx),hh⟩
    ·rcases hrf j hj with rfl | hj'
     ·exact .inl ⟨_,AV.2 (.inr (BU.2 rfl)),hh⟩
     ·exact .inr ⟨j,hj',hh⟩
   ·rcases AV.1 hx with hx | hx
    ·exact hp.out x hx
    ·obtain rfl:=BU.1 hx;refine ⟨he,hp.ok i hfi,fun p t hh=>?_⟩;obtain ⟨q1,q2⟩:=hp.val i hfi p t hh;refine ⟨q1,?_⟩;rw [zdQ,q2,hv p];rfl
 | false=>
  obtain ⟨⟨f0,f4⟩,ha,⟨a1,a2⟩,⟨b1,b2⟩,hne⟩:=h.fork i hi hl;simp only [ic] at a2 b2;have ef:(nd l i).f=(((nd l i).f.toNat:Nat):Int):=by omega
  have hf5:(nd l i).f.toNat < 5:=by omega
  have e1:M7 (nd l i) i own=(own.set (nd l i).l.toNat ((H8 own i).cutL (nd l i).f (nd l i).a).I).set (nd l i).r.toNat ((H8 own i).cutH (nd l i).f (nd l i).a).I:=by unfold M7; rw [hl,DD]
  have hlen:=hp.len;have at_:∀ j,(M7 (nd l i) i own).getD j default=if j=(nd l i).r.toNat then ((H8 own i).cutH (nd l i).f (nd l i).a).I else if j=(nd l i).l.toNat then ((H8 own i).cutL (nd l i).f (nd l i).a).I else own.getD j default:=fun j=>by
   rw [e1,mW (by rw [vay]; omega)];congr 1;rw [mW (by omega)]
  have fits : -2147483648≤(nd l i).a∧(nd l i).a≤2147483647:=by
   unfold EU at ha;simpa only [AH,AQ] using ha
  have hok:=hp.ok i hfi;have cl:∀ p t,((H8 own i).cutL (nd l i).f (nd l i).a).has p t=true↔(H8 own i).has p t=true∧p.g (nd l i).f.toNat≤(nd l i).a:=fun p t=>by
   have:=iU (b:=H8 own i) hf5 (a:=(nd l i).a) (p:=p) (t:=t)
   rw [← ef,cZ p t (by omega)] at this;exact this
  have ch:∀ p t,((H8 own i).cutH (nd l i).f (nd l i).a).has p t=true↔(H8 own i).has p t=true∧(nd l i).a < p.g (nd l i).f.toNat:=fun p t=>by
   have:=iS hok hf5 (a:=(nd l i).a) fits.1 (p:=p) (t:=t)
   rw [← ef,cZ p t (by omega)] at this;exact this
  have nl:UE l i (nd l i).l.toNat:=⟨hl,.inl (by omega)⟩;have nr:UE l i (nd l i).r.toNat:=⟨hl,.inr (by omega)⟩;have hfr:∀ j,fr l (i+1) j→j≠(nd l i).l.toNat→j≠(nd l i).r.toNat→fr l i j:=fun j hj h1 h2=>by
   refine ⟨by have:=hj.1; omega,hj.2.1,hj.2.2.imp_right ?_⟩;rintro ⟨k,hk,hn⟩;refine ⟨k,?_,hn⟩;rcases Nat.lt_succ_iff_lt_or_eq.1 hk with h3 | h3
   ·exact h3
   ·subst h3;rcases hn.2 with e | e
    ·exact absurd (by omega) h1
    ·exact absurd (by omega) h2
  have hnot:∀ j,UE l i j→¬ fr l i j:=fun j hn hj=>by
   obtain ⟨h1,h2,h3⟩:=hj;have hj0:1≤j:=by rcases hn.2 with e | e <;> omega
   rcases h3 with h3 | ⟨k,hk,hk2⟩
   ·omega
   ·have:=h.alone j k i hj0 h2 (by omega) hi hk2 hn
    omega
  have fl:fr l (i+1) (nd l i).l.toNat:=⟨by omega,by omega,.inr ⟨i,by omega,nl⟩⟩;have frr:fr l (i+1) (nd l i).r.toNat:=⟨by omega,by omega,.inr ⟨i,by omega,nr⟩⟩;have hup:∀ j,fr l i j→j≠i→fr l (i+1) j:=fun j hj e=>by
   refine ⟨by have:=hj.1; omega,hj.2.1,hj.2.2.imp_right ?_⟩;rintro ⟨k,hk,hn⟩;exact ⟨k,by omega,hn⟩
  have hvf:=fun p=>Ep h p hi hl
  rw [BV,DD];refine ⟨by rw [e1,vay,vay]; exact hp.len,fun j hj p t hh=>?_,fun j hj=>?_,fun p t hb=>?_,hp.out⟩
  ·unfold H8 at hh;rw [at_] at hh;by_cases hr:j=(nd l i).r.toNat
   ·rw [BL hr,HW,ch] at hh;obtain ⟨q1,q2⟩:=hp.val i hfi p t hh.1;refine ⟨q1,?_⟩;rw [q2,hvf p,AL (by omega),DD,hr]
   ·rw [A4 hr] at hh;by_cases hlj:j=(nd l i).l.toNat
    ·rw [BL hlj,HW,cl] at hh;obtain ⟨q1,q2⟩:=hp.val i hfi p t hh.1;refine ⟨q1,?_⟩;rw [q2,hvf p,AE hh.2,DC,hlj]
    ·rw [A4 hlj] at hh;exact hp.val j (hfr j hj hlj hr) p t hh
  ·unfold H8;rw [at_];by_cases hr:j=(nd l i).r.toNat
   ·rw [BL hr,HW,ef];exact s6 hok hf5 _
   ·rw [A4 hr];by_cases hlj:j=(nd l i).l.toNat
    ·rw [BL hlj,HW,ef];exact s8 hok hf5 _
    ·rw [A4 hlj];exact hp.ok j (hfr j hj hlj hr)
  ·rcases hp.all p t hb with h1 | ⟨j,hj,hh⟩
   ·exact .inl h1
   ·refine .inr ?_;by_cases e:j=i
    ·subst e;by_cases hd:p.g (nd l j).f.toNat≤(nd l j).a
     ·refine ⟨_,fl,?_⟩;unfold H8;rw [at_,A4 (by omega),BL rfl,HW,cl];exact ⟨hh,hd⟩
     ·refine ⟨_,frr,?_⟩;unfold H8;rw [at_,BL rfl,HW,ch];exact ⟨hh,by omega⟩
    ·refine ⟨j,hup j hj e,?_⟩;unfold H8;rw [at_,A4 (fun (er:j=(nd l i).r.toNat)=>hnot j (er ▸ nr) hj),A4 (fun (er:j=(nd l i).l.toNat)=>hnot j (er ▸ nl) hj)];exact hh
theorem xW {l:LI} (h:TreeOK l) {b:Bx}:∀ (m i:Nat) (own out:LI),i+m=l.length→PInv l b i own out→∃ own',PInv l b l.length own' (ML (l.drop i) i own out)
 | 0,i,own,out,hd,hp=>by
  have hi:i=l.length:=by omega
  subst hi;rw [vas,ML];exact ⟨own,hp⟩
 | m+1,i,own,out,hd,hp=>by
  have hi:i < l.length:=by omega
  rw [A9 hi,ML];have hs:=zaS h hi hp;have e:nd l i=DF (l[i]).toInt:=by unfold nd; rw [ZW hi]
  rw [e] at hs;exact xW h m (i+1) _ _ (by omega) hs
theorem Uu {l:LI} (ht:GC l 4=true) {b:Bx} (hb:b.emp=false) (hok:b.ok) :
  (∀ x∈H1 l b,(DW x).emp=false∧(DW x).ok∧∀ p t,(DW x).has p t=true→b.has p t=true∧GO l p=G2 x) ∧
   ∀ p t,b.has p t=true→∃ x∈H1 l b,(DW x).has p t=true:=by
 have h:=n3 ht;have h1:=h.len.1;have hz:((BG l.length VP.I).set 0 b.I).getD 0 default=b.I:=by rw [mW (by simp; omega),BL rfl]
 have f0:∀ j,fr l 0 j→j=0:=fun j hj=>by
  rcases hj.2.2 with e | ⟨k,hk,_⟩
  ·exact e
  ·omega
 have h0:PInv l b 0 ((BG l.length VP.I).set 0 b.I) []:=by
  refine ⟨by simp,fun j hj p t hh=>?_,fun j hj=>?_,fun p t hh=>.inr ⟨0,uH h (by omega),?_⟩,fun x hx=>by cases hx⟩
  ·obtain rfl:=f0 j hj;unfold H8 at hh;rw [hz,HW] at hh;exact ⟨hh,rfl⟩
  ·obtain rfl:=f0 j hj;unfold H8;rw [hz,HW];exact hok
  ·unfold H8;rw [hz,HW];exact hh
 obtain ⟨own',hp⟩:=xW h l.length 0 _ _ (by omega) h0;have e:H1 l b=ML (l.drop 0) 0 ((BG l.length VP.I).set 0 b.I) []:=by unfold H1; rw [ht,hb]; rfl
 rw [e];refine ⟨hp.out,fun p t hh=>?_⟩;rcases hp.all p t hh with h1 | ⟨j,hj,_⟩
 ·exact h1
 ·have:=hj.1
  have:=hj.2.1
  omega
theorem wC:∀ {l:LI} {a:Int},M9 l a≤a∧∀ x∈l,M9 l a≤G2 x
 | [],a=>⟨vab _,fun x hx=>by cases hx⟩
 | y :: r,a=>by
  rw [M9];obtain ⟨h1,h2⟩:=wC (l:=r) (a:=min a (G2 y));refine ⟨by omega,fun x hx=>?_⟩;rcases AU.1 hx with rfl | hx
  ·omega
  ·exact h2 x hx
theorem v7:∀ {l:LI} {a:Int},a≤M8 l a∧∀ x∈l,G2 x≤M8 l a
 | [],a=>⟨vab _,fun x hx=>by cases hx⟩
 | y :: r,a=>by
  rw [M8];obtain ⟨h1,h2⟩:=v7 (l:=r) (a:=max a (G2 y));refine ⟨by omega,fun x hx=>?_⟩;rcases AU.1 hx with rfl | hx
  ·omega
  ·exact h2 x hx
theorem wB:∀ {l:LI} {a:Int},M9 l a=a∨∃ x∈l,M9 l a=G2 x
 | [],a=>.inl rfl
 | y :: r,a=>by
  rw [M9];rcases wB (l:=r) (a:=min a (G2 y)) with h | ⟨x,hx,h⟩
  ·rw [h];by_cases hd:a≤G2 y
   ·exact .inl (by omega)
   ·exact .inr ⟨y,AT ..,by omega⟩
  ·exact .inr ⟨x,AX _ hx,h⟩
theorem v6:∀ {l:LI} {a:Int},M8 l a=a∨∃ x∈l,M8 l a=G2 x
 | [],a=>.inl rfl
 | y :: r,a=>by
  rw [M8];rcases v6 (l:=r) (a:=max a (G2 y)) with h | ⟨x,hx,h⟩
  ·rw [h];by_cases hd:G2 y≤a
   ·exact .inl (by omega)
   ·exact .inr ⟨y,AT ..,by omega⟩
  ·exact .inr ⟨x,AX _ hx,h⟩
theorem za6 {ps:LI} (hp:ps≠[]):(∀ x∈ps,aT ps≤G2 x∧G2 x≤aS ps)∧(∃ x∈ps,G2 x=aT ps)∧∃ x∈ps,G2 x=aS ps:=by
 unfold aT aS;cases ps with
 | nil=>exact absurd rfl hp
 | cons y r=>
  have e:(y :: r).getD 0 default=y:=rfl;rw [e];refine ⟨fun x hx=>⟨wC.2 x hx,v7.2 x hx⟩,?_,?_⟩
  ·rcases wB (l:=y :: r) (a:=G2 y) with h | ⟨x,hx,h⟩
   ·exact ⟨y,AT ..,h.symm⟩
   ·exact ⟨x,hx,h.symm⟩
  ·rcases v6 (l:=y :: r) (a:=G2 y) with h | ⟨x,hx,h⟩
   ·exact ⟨y,AT ..,h.symm⟩
   ·exact ⟨x,hx,h.symm⟩
theorem UU {l:LI} (ht:GC l 4=true) {b:Bx} (hb:b.emp=false) (hok:b.ok) :
  (∀ p t,b.has p t=true→HL l b≤GO l p∧GO l p≤HK l b)∧(∃ p t,b.has p t=true∧GO l p=HL l b)∧∃ p t,b.has p t=true∧GO l p=HK l b:=by
 obtain ⟨h1,h2⟩:=Uu ht hb hok;have hne:H1 l b≠[]:=fun e=>by
  obtain ⟨x,hx,_⟩:=h2 b.low b.s4.hi (VQ b hb);rw [e] at hx;cases hx
 obtain ⟨q1,⟨x,hx,q2⟩,⟨y,hy,q3⟩⟩:=za6 hne;have hT:UT l b=true:=by
  unfold UT;cases he:H1 l b with
  | nil=>exact absurd he hne
  | cons _ _=>rfl
 unfold HL HK;rw [hT,DC,DC];refine ⟨fun p t hh=>?_,⟨(DW x).low,(DW x).s4.hi,?_⟩,⟨(DW y).low,(DW y).s4.hi,?_⟩⟩
 ·obtain ⟨z,hz,hzh⟩:=h2 p t hh;rw [((h1 z hz).2.2 p t hzh).2];exact q1 z hz
 ·obtain ⟨r1,r2⟩:=(h1 x hx).2.2 _ _ (VQ _ (h1 x hx).1);exact ⟨r1,r2.trans q2⟩
 ·obtain ⟨r1,r2⟩:=(h1 y hy).2.2 _ _ (VQ _ (h1 y hy).1);exact ⟨r1,r2.trans q3⟩
open Go
theorem WZ {m:Md} (hm:EQ m=true) {t:IV} (ht:t∈m.ts):GC (E3 t) 4=true:=by
 have h:=KS hm;exact zdD (Dz (CP.1 h.2.2.2.2 t ht)).2 h.1.2
theorem nS (g:LI→Int) (k:Int) (p:Pt):∀ (ts:LI) (s s':Int),(∀ t∈ts,g (E3 t)≤GO (E3 t) p)→s≤s'→IB g k ts s≤NY k p ts s'
 | [],_,_,_,h=>h
 | t :: r,s,s',hg,h=>by
  rw [IB,NY];have h1:=hg t (AT ..);refine nS g k p r _ _ (fun u hu=>hg u (AX _ hu)) ?_;cases (SG t==k) <;> simp only [CO,B9] <;> omega
theorem nQ (g:LI→Int) (k:Int) (p:Pt):∀ (ts:LI) (s s':Int),(∀ t∈ts,GO (E3 t) p≤g (E3 t))→s'≤s→NY k p ts s'≤IB g k ts s
 | [],_,_,_,h=>h
 | t :: r,s,s',hg,h=>by
  rw [IB,NY];have h1:=hg t (AT ..);refine nQ g k p r _ _ (fun u hu=>hg u (AX _ hu)) ?_;cases (SG t==k) <;> simp only [CO,B9] <;> omega
theorem mR {m:Md} {k:Int} {b:Bx} (h:GL m k b=true):EQ m=true∧HO m k=true∧b.emp=false:=by
 unfold GL at h;simp only [AH,BY] at h;exact h
theorem tW {m:Md} {k:Int} (hm:EQ m=true) (hk:HO m k=true) (p:Pt):EB m k p=NY k p m.ts (KF m k):=by
 unfold EB;rw [hm,hk];rfl
theorem zbG {m:Md} {k:Int} {b:Bx} (h:GL m k b=true) (hok:b.ok) {p:Pt} {t:Int} (hh:b.has p t=true):D0 m k b≤EB m k p∧EB m k p≤DV m k b:=by
 obtain ⟨hm,hk,hb⟩:=mR h;unfold D0 DV;rw [h,DC,DC,tW hm hk];exact ⟨nS _ k p m.ts _ _ (fun t ht=>((UU (WZ hm ht) hb hok).1 p _ hh).1) (vab _),nQ _ k p m.ts _ _ (fun t ht=>((UU (WZ hm ht) hb hok).1 p _ hh).2) (vab _)⟩
theorem zbF {m:Md} {k:Int} {b:Bx} (h:GL m k b=true) (hok:b.ok) {p:Pt} {t:Int} (hh:b.has p t=true) (hc:∀ u∈m.ts,∀ p' t',b.has p' t'=true→GO (E3 u) p'=GO (E3 u) p):D0 m k b=EB m k p∧DV m k b=EB m k p:=by
 obtain ⟨hm,hk,hb⟩:=mR h;have h1:=zbG h hok hh;have h2:EB m k p≤D0 m k b∧DV m k b≤EB m k p:=by
  unfold D0 DV;rw [h,DC,DC,tW hm hk];refine ⟨nQ _ k p m.ts _ _ (fun u hu=>?_) (vab _),nS _ k p m.ts _ _ (fun u hu=>?_) (vab _)⟩
  ·obtain ⟨_,⟨p',t',q1,q2⟩,_⟩:=UU (WZ hm hu) hb hok;rw [← hc u hu p' t' q1];exact Int.le_of_eq q2
  ·obtain ⟨_,_,⟨p',t',q1,q2⟩⟩:=UU (WZ hm hu) hb hok;rw [← hc u hu p' t' q1];exact Int.le_of_eq q2.symm
 omega
theorem iP {x:Int}:∀ {l:List Int} {p:Int},x∈l→x=p∨x∈K7 p l
 | y :: r,p,h=>by
  rw [K7];cases hb:(y==p) with
  | true=>
   have hb:=B3.1 hb;rw [DC];rcases AU.1 h with h | h
   ·exact .inl (h.trans hb)
   ·rcases iP (p:=y) h with h1 | h1
    ·exact .inl (h1.trans hb)
    ·exact .inr h1
  | false=>
   rw [DD];rcases AU.1 h with h | h
   ·exact .inr (h ▸ AT ..)
   ·rcases iP (p:=y) h with h1 | h1
    ·exact .inr (h1 ▸ AT ..)
    ·exact .inr (AX _ h1)
theorem Kz {x:Int} {l:List Int} (h:x∈l):x∈JA l:=by
 cases l with
 | nil=>cases h
 | cons y r=>
  rw [JA];rcases AU.1 h with h | h
  ·exact h ▸ AT ..
  ·rcases iP (p:=y) h with h1 | h1
   ·exact h1 ▸ AT ..
   ·exact AX _ h1
theorem zdw {ts:LI} {f a:Int}:a∈I6 ts f↔∃ t∈ts,∃ w∈E3 t,(DF w.toInt).lf=false∧(DF w.toInt).f=f∧(DF w.toInt).a=a:=by
 have e:a∈I6 ts f↔a∈KY ts f:=by
  unfold I6;exact ⟨fun h=>(SC _).mem_iff.1 (sV h),fun h=>Kz ((SC _).mem_iff.2 h)⟩
 rw [e];unfold KY;simp only [List.mem_flatMap];constructor
 ·rintro ⟨t,ht,w,hw,h⟩;unfold OC at h;cases hc:(!(DF w.toInt).lf&&(DF w.toInt).f==f) with
  | false=>rw [hc,DD] at h; cases h
  | true=>
   rw [hc,DC] at h;simp only [AH,BY,B3] at hc;exact ⟨t,ht,w,hw,hc.1,hc.2,(BU.1 h).symm⟩
 ·rintro ⟨t,ht,w,hw,h1,h2,h3⟩;refine ⟨t,ht,w,hw,?_⟩;unfold OC;rw [h1,h2,vaT];exact BU.2 h3.symm
def V3 (m:Md) (s:Sp) (f:Int):Prop:=∀ a∈I6 m.ts f,¬ (s.lo≤a∧a < s.hi)
theorem Ul {lo hi a:Int} {l:List Int}:a∈KM lo hi l↔a∈l∧lo≤a∧a < hi:=by
 unfold KM;rw [List.mem_filter];simp only [BY,van,BQ];constructor
 ·rintro ⟨h,h1,h2⟩; exact ⟨h,by omega,by omega⟩
 ·rintro ⟨h,h1,h2⟩; exact ⟨h,by omega,by omega⟩
theorem TY {m:Md} {q:Qy} {b:Bx} {i:Nat} {a:Int}:a∈EZ m q b i↔0≤IY q (i:Int)∧a∈I6 m.ts (IY q (i:Int))∧(b.g i).lo≤a∧a < (b.g i).hi:=by
 unfold EZ;cases hd:decide (IY q (i:Int) < 0) with
 | true=>
  have:=A1 hd
  rw [DC];constructor
  ·intro h; cases h
  ·rintro ⟨h,_⟩; omega
 | false=>
  have:=BE hd
  rw [DD,Ul];constructor
  ·intro h; exact ⟨by omega,h⟩
  ·exact fun h=>h.2
theorem uE {m:Md} {q:Qy} {b:Bx} {i:Nat} (h:EZ m q b i=[]) (hf:0≤IY q (i:Int)):V3 m (b.g i) (IY q (i:Int)):=by
 intro a ha hr
 have:a∈EZ m q b i:=TY.2 ⟨hf,ha,hr⟩
 rw [h] at this;cases this
theorem t7 {q:Qy} {i:Nat} (hi:i < 4):IY q (i:Int)=(i:Int):=by
 unfold IY;rw [AE (show (i:Int)≥0 by omega),AE (show (i:Int) < 4 by omega)];rfl
theorem oB {l:LI} {p p':Pt} (h:∀ w∈l,FU w.toInt=true→(DF w.toInt).lf=false→(p.g (DF w.toInt).f.toNat≤(DF w.toInt).a↔p'.g (DF w.toInt).f.toNat≤(DF w.toInt).a)):∀ (n:Nat) (a:Int),H0 l p n a=H0 l p' n a
 | 0,_=>rfl
 | n+1,a=>by
  rw [H0,H0];cases decide (a≥ic l.length) with
  | true=>rfl
  | false=>
   rw [DD,DD];by_cases hlt:a.toNat < l.length
   ·have hw:l.getD a.toNat default∈l:=by rw [ZW hlt]; exact CX hlt
    generalize l.getD a.toNat default=w at hw ⊢;cases hb:FU w.toInt with
    | false=>rfl
    | true=>
     rw [A2,DD,DD];cases hl:(DF w.toInt).lf with
     | true=>rfl
     | false=>
      have:=h w hw hb hl
      have ed:decide (p.g (DF w.toInt).f.toNat≤(DF w.toInt).a)=decide (p'.g (DF w.toInt).f.toNat≤(DF w.toInt).a):=by
       rw [va6,AQ,AQ];exact this
      rw [DD,DD,ed,oB h n _,oB h n _]
   ·have e:l.getD a.toNat default=default:=by
     rw [BO,BM (by omega)];rfl
    rw [e];rfl
theorem Ow {m:Md} {b:Bx} (hf:∀ f:Nat,f < 4→V3 m (b.g f) (f:Int)) {u:IV} (hu:u∈m.ts) {p p':Pt} {t t':Int} (h:b.has p t=true) (h':b.has p' t'=true):GO (E3 u) p'=GO (E3 u) p:=by
 unfold GO dD;rw [oB (p:=p') (p':=p) fun w hw hb hl=>?_];obtain ⟨⟨f0,f4⟩,_⟩:=lA hb hl;have ef:(DF w.toInt).f=(((DF w.toInt).f.toNat:Nat):Int):=by omega
 have hlt:(DF w.toInt).f.toNat < 4:=by omega
 have h1:=ND.1 (OT.1 h _ (show (DF w.toInt).f.toNat < 5 by omega));have h2:=ND.1 (OT.1 h' _ (show (DF w.toInt).f.toNat < 5 by omega));rw [cZ _ _ hlt] at h1 h2;have h3:=hf _ hlt (DF w.toInt).a (zdw.2 ⟨u,hu,w,hw,hl,ef,rfl⟩);omega
theorem a8 {m:Md} {k:Int} {b:Bx} (h:GL m k b=true) (hok:b.ok) (hf:∀ f:Nat,f < 4→V3 m (b.g f) (f:Int)) {p:Pt} {t:Int} (hh:b.has p t=true):D0 m k b=EB m k p∧DV m k b=EB m k p:=
 zbF h hok hh fun _ hu _ _ h'=>Ow hf hu hh h'
theorem kV {m:Md} {c lo:Int} {b:Bx}:∀ (d:Nat) (i a:Int) (z:Bool),(0 < O6 m c lo b d i a z↔(z=true∨∃ j:Nat,j < d∧i+j≠c)∧(z=true→0 < a)∧∀ j:Nat,j < d→i+j≠c→DV m (i+j) b < lo)∨(z=false∧∀ j:Nat,j < d→i+j=c)
 | 0,i,a,z=>by
  cases z with
  | false=>exact .inr ⟨rfl,fun j hj=>absurd hj (Nat.not_lt_zero j)⟩
  | true=>
   refine .inl ?_;rw [O6];exact ⟨fun h=>⟨.inl rfl,fun _=>h,fun j hj=>absurd hj (Nat.not_lt_zero j)⟩,fun h=>h.2.1 rfl⟩
 | d+1,i,a,z=>by
  rw [O6];have sh:∀ j:Nat,i+1+(j:Int)=i+((j+1:Nat):Int):=fun j=>by omega
  cases hc:(i==c) with
  | true=>
   have hc:=B3.1 hc;rw [DC];rcases kV (m:=m) (c:=c) (lo:=lo) (b:=b) d (i+1) a z with h | ⟨h1,h2⟩
   ·refine .inl (h.trans ?_);constructor
    ·rintro ⟨q1,q2,q3⟩;refine ⟨q1.imp_right ?_,q2,fun j hj hne=>?_⟩
     ·rintro ⟨j,hj,hne⟩; exact ⟨j+1,by omega,by rw [← sh j]; exact hne⟩
     ·cases j with
      | zero=>exact absurd (by simpa using hc) hne
      | succ j=>rw [← sh j] at hne ⊢; exact q3 j (by omega) hne
    ·rintro ⟨q1,q2,q3⟩;refine ⟨q1.imp_right ?_,q2,fun j hj hne=>?_⟩
     ·rintro ⟨j,hj,hne⟩;cases j with
      | zero=>exact absurd (by simpa using hc) hne
      | succ j=>exact ⟨j,by omega,by rw [sh j]; exact hne⟩
     ·rw [sh j] at hne ⊢; exact q3 (j+1) (by omega) hne
   ·refine .inr ⟨h1,fun j hj=>?_⟩;cases j with
    | zero=>simpa using hc
    | succ j=>rw [← sh j]; exact h2 j (by omega)
  | false=>
   have hc:i≠c:=fun e=>by rw [e,vaT] at hc; cases hc
   rw [DD];refine .inl ?_;have key:∀ (a':Int),(0 < a'↔(z=true→0 < a)∧DV m i b < lo)→(0 < O6 m c lo b d (i+1) a' true↔(z=true∨∃ j:Nat,j < d+1∧i+(j:Int)≠c)∧(z=true→0 < a)∧∀ j:Nat,j < d+1→i+(j:Int)≠c→DV m (i+j) b < lo):=fun a' ha'=>by
    rcases kV (m:=m) (c:=c) (lo:=lo) (b:=b) d (i+1) a' true with h | ⟨h1,_⟩
    ·rw [h];constructor
     ·rintro ⟨_,q2,q3⟩;obtain ⟨r1,r2⟩:=ha'.1 (q2 rfl);refine ⟨.inr ⟨0,by omega,by simpa using hc⟩,r1,fun j hj hne=>?_⟩;cases j with
      | zero=>simpa using r2
      | succ j=>rw [← sh j] at hne ⊢; exact q3 j (by omega) hne
     ·rintro ⟨_,q2,q3⟩;have r2:=q3 0 (by omega) (by simpa using hc);refine ⟨.inl rfl,fun _=>ha'.2 ⟨q2,by simpa using r2⟩,fun j hj hne=>?_⟩;rw [sh j] at hne ⊢;exact q3 (j+1) (by omega) hne
    ·cases h1
   cases z with
   | false=>
    rw [BB,Bool.true_or,DC];exact key _ ⟨fun h=>⟨fun h=>(by cases h),by omega⟩,fun h=>by have:=h.2; omega⟩
   | true=>
    rw [A2,vaB];cases hd:decide (lo - DV m i b < a) with
    | true=>
     have hd:=A1 hd;rw [DC];exact key _ ⟨fun h=>⟨fun _=>by omega,by omega⟩,fun h=>by have:=h.2; omega⟩
    | false=>
     have hd:=BE hd;rw [DD];exact key _ ⟨fun h=>⟨fun _=>h,by omega⟩,fun h=>h.1 rfl⟩
theorem vY {m:Md} {c:Int} {b:Bx} (h:LY m c b=true):0 < RT m c b↔∀ j:Nat,(j:Int) < m.c→(j:Int)≠c→DV m (j:Int) b < D0 m c b:=by
 have h0:=h;unfold LY at h0;rw [AH,AQ] at h0;obtain ⟨hs,h2⟩:=h0;have hc:=sS (mR hs).2.1;unfold RT;rw [h,DC];rcases kV (m:=m) (c:=c) (lo:=D0 m c b) (b:=b) m.c.toNat 0 0 false with h1 | ⟨_,h1⟩
 ·rw [h1];simp only [Int.zero_add];constructor
  ·rintro ⟨_,_,q⟩ j hj hne;exact q j (by omega) hne
  ·intro q;refine ⟨.inr ?_,fun h=>(by cases h),fun j hj hne=>q j (by omega) hne⟩;by_cases e:c=0
   ·exact ⟨1,by omega,by omega⟩
   ·exact ⟨0,by omega,by omega⟩
 ·have q0:=h1 0 (by omega);have q1:=h1 1 (by omega);omega
theorem za7 (p:Pt) (x t:Int):∀ {f i:Nat},f < 4→i < 5→co (p.p x f) t i=if i=f then x else co p t i
 | 0,0,_,_=>rfl
 | 0,1,_,_=>rfl
 | 0,2,_,_=>rfl
 | 0,3,_,_=>rfl
 | 0,4,_,_=>rfl
 | 1,0,_,_=>rfl
 | 1,1,_,_=>rfl
 | 1,2,_,_=>rfl
 | 1,3,_,_=>rfl
 | 1,4,_,_=>rfl
 | 2,0,_,_=>rfl
 | 2,1,_,_=>rfl
 | 2,2,_,_=>rfl
 | 2,3,_,_=>rfl
 | 2,4,_,_=>rfl
 | 3,0,_,_=>rfl
 | 3,1,_,_=>rfl
 | 3,2,_,_=>rfl
 | 3,3,_,_=>rfl
 | 3,4,_,_=>rfl
 | f+4,_,h,_=>absurd h (by omega)
 | _,i+5,_,h=>absurd h (by omega)
theorem sX (p:Pt) (t t':Int):∀ {i:Nat},i < 4→co p t i=co p t' i
 | 0,_=>rfl
 | 1,_=>rfl
 | 2,_=>rfl
 | 3,_=>rfl
 | i+4,h=>absurd h (by omega)
theorem Ot {q:Qy} {b:Bx} (hp:GM q=true) {p:Pt} {t:Int} (h:b.has p t=true):(IZ q b).has p 0=true:=by
 rw [OT] at h ⊢;intro i hi;unfold IZ;rw [hp,DC,KG _ _ (by omega) hi];by_cases e:i=4
 ·subst e;rw [BL rfl];rfl
 ·rw [A4 e,sX p 0 t (by omega)];exact h i hi
theorem zbN {q:Qy} {b:Bx} (hp:GM q=true) {p:Pt} {t:Int} (h:b.has p t=true):(I4 q b).has (IG q p t) 0=true:=by
 have hf:q.ft.toNat < 4:=by rcases PC hp with e | e | e | e <;> rw [e] <;> decide
 rw [OT] at h ⊢;intro i hi;unfold I4 IG;rw [hp,DC,DC,KG _ _ (by omega) hi];by_cases e:i=4
 ·subst e;rw [BL rfl]
  have:co (p.p t q.ft.toNat) 0 4=0:=rfl
  rw [this];rfl
 ·rw [A4 e,KG _ _ (by omega) hi,za7 p t 0 hf hi];by_cases e2:i=q.ft.toNat
  ·rw [BL e2,BL e2];exact h 4 (by omega)
  ·rw [A4 e2,A4 e2,sX p 0 t (by omega)];exact h i hi
theorem Ou {q:Qy} {b:Bx} (hb:b.ok):(IZ q b).ok:=by
 unfold IZ;cases GM q with
 | true=>exact aL (s:=⟨0,0⟩) (i:=4) hb (show (0:Int)≤2147483647 by omega) (by omega)
 | false=>exact hb
theorem zbO {q:Qy} {b:Bx} (hb:b.ok):(I4 q b).ok:=by
 unfold I4;cases hp:GM q with
 | true=>
  have hf:q.ft.toNat < 5:=by rcases PC hp with e | e | e | e <;> rw [e] <;> decide
  exact aL (s:=⟨0,0⟩) (i:=4) (aL hb (hb 4 (by omega)) hf) (show (0:Int)≤2147483647 by omega) (by omega)
 | false=>exact hb
theorem iM {m:Md} {k:Int} (h0:0≤k) (h1:k < m.c):HO m k=true:=by
 unfold HO;rw [AE h0,AE h1];rfl
theorem UQ {m:Md} {k:Int} {b:Bx} (hm:EQ m=true) (hk:HO m k=true) (hb:b.emp=false):GL m k b=true:=by
 unfold GL;rw [hm,hk,hb];rfl
theorem lS {m:Md} {q:Qy} (hm:EQ m=true) (hk:q.k=3) (hf:0≤q.ft∧q.ft < m.d):GM q=true:=by
 have:=(KS hm).1
 unfold GM;rw [hk,AE (show q.ft≥0 by omega),AE (show q.ft < 4 by omega)];rfl
theorem zaH {m:Md} {q:Qy} {p:Pt} {own:Int}:aK m q p own=true↔∃ j:Nat,(j:Int) < m.c∧(j:Int)≠q.c∧EB m (j:Int) p≥own:=by
 unfold aK;rw [List.any_eq_true];constructor
 ·rintro ⟨c,hc,h⟩;simp only [AH,BY,BR,AQ] at h;exact ⟨c,by have:=vaH.1 hc; omega,h.1,h.2⟩
 ·rintro ⟨j,h1,h2,h3⟩;refine ⟨j,vaH.2 (by omega),?_⟩;simp only [AH,BY,BR,AQ];exact ⟨h2,h3⟩
theorem Kq {m:Md} {q:Qy} {b:Bx} (hr:E6 m q=true) (hb:b.emp=false) (hok:b.ok) (hn:∀ i,i < 5→EZ m q b i=[]):GG m q b=true∨G0 m q b.low b.s4.hi=true:=by
 obtain ⟨hm,⟨c0,c1⟩,_,_,hk⟩:=UO hr;have hcl:=iM c0 c1;have hs:=UQ hm hcl hb;have hh:=VQ b hb;have hfl:∀ f:Nat,f < 4→V3 m (b.g f) (f:Int):=fun f hf=>by
  have:=uE (hn f (by omega)) (by rw [t7 hf]; omega)
  rwa [t7 hf] at this
 unfold GG G0;rw [hr,hb,BH,BH,DD];rcases dY hk with ⟨e,_⟩ | ⟨e,h2,_⟩ | ⟨e,hf,_⟩
 ·rw [e];obtain ⟨q1,q2⟩:=a8 hs hok hfl hh;show (GL m q.c b&&(decide (q.lo≤D0 m q.c b)&&decide (DV m q.c b≤q.hi)))=true∨(!(Sp.has ⟨q.lo,q.hi⟩ (EB m q.c b.low)))=true;rw [hs,q1,q2,BH];unfold Sp.has;cases (decide (q.lo≤EB m q.c b.low)&&decide (EB m q.c b.low≤q.hi)) with
  | true=>exact .inl rfl
  | false=>exact .inr rfl
 ·rw [e];show (LY m q.c b&&decide (RT m q.c b > 0))=true∨aK m q b.low (EB m q.c b.low)=true;have hg:LY m q.c b=true:=by unfold LY; rw [hs,AE (show m.c≥2 from h2)]; rfl
  rw [hg,BH];cases ho:aK m q b.low (EB m q.c b.low) with
  | true=>exact .inr rfl
  | false=>
   refine .inl (AE ((vY hg).2 fun j hj hne=>?_));have q1:=(a8 hs hok hfl hh).1;have q2:=(a8 (UQ hm (iM (k:=(j:Int)) (by omega) hj) hb) hok hfl hh).2;have q3:¬ EB m (j:Int) b.low≥EB m q.c b.low:=fun h=>by
    rw [zaH.2 ⟨j,hj,hne,h⟩] at ho;cases ho
   omega
 ·rw [e];have hp:=lS hm e hf;have hf5:q.ft.toNat < 4:=by rcases PC hp with e | e | e | e <;> rw [e] <;> decide
  have ef:q.ft=((q.ft.toNat:Nat):Int):=by omega
  show cond (!(N3 q b)) true (cond q.fl (J1 m q b&&decide (P7 m q b≤0)) (J1 m q b&&decide (P8 m q b≥0)))=true∨cond (decide (b.low.g q.ft.toNat≥b.s4.hi)) false (cond q.fl (decide (EB m q.c (IG q b.low b.s4.hi) > EB m q.c b.low)) (decide (EB m q.c (IG q b.low b.s4.hi) < EB m q.c b.low)))=true;cases ho:N3 q b with
  | false=>exact .inl rfl
  | true=>
   have hlt:b.low.g q.ft.toNat < b.s4.hi:=by
    unfold N3 at ho;simp only [AH,AQ] at ho;have h1:=ho.2.2
    have:b.low.g q.ft.toNat=(b.g q.ft.toNat).lo:=by
     match q.ft.toNat,hf5 with
     | 0,_=>rfl
     | 1,_=>rfl
     | 2,_=>rfl
     | 3,_=>rfl
     | n+4,h=>exact absurd h (by omega)
    omega
   have f1:=Ot (b:=b) hp hh;have f2:=zbN (b:=b) hp hh;have k1:=UQ hm hcl (cT f1);have k2:=UQ hm hcl (cT f2);have fl1:∀ f:Nat,f < 4→V3 m ((IZ q b).g f) (f:Int):=fun f hf=>by
    unfold IZ;rw [hp,DC,KG _ _ (by omega) (by omega),A4 (by omega)];exact hfl f hf
   have fl2:∀ f:Nat,f < 4→V3 m ((I4 q b).g f) (f:Int):=fun f hf=>by
    unfold I4;rw [hp,DC,KG _ _ (by omega) (by omega),A4 (by omega),KG _ _ (by omega) (by omega)];by_cases e2:f=q.ft.toNat
    ·rw [BL e2];have e4:IY q ((4:Nat):Int)=q.ft:=by unfold IY; rw [e]; rfl
     have:=uE (hn 4 (by omega)) (by rw [e4]; omega)
     rw [e4,ef,← e2] at this;exact this
    ·rw [A4 e2];exact hfl f hf
   obtain ⟨q1,q2⟩:=a8 k1 (Ou hok) fl1 f1;obtain ⟨q3,q4⟩:=a8 k2 (zbO hok) fl2 f2;have hch:J1 m q b=true:=by unfold J1; rw [hp,k1,k2]; rfl
   rw [A2,DD,hch,BH,BH,AL (show ¬ b.low.g q.ft.toNat≥b.s4.hi by omega),DD];unfold P7 P8;rw [hch,DC,DC,q1,q2,q3,q4];cases q.fl with
   | true=>
    rw [DC,DC];by_cases hd:EB m q.c (IG q b.low b.s4.hi) > EB m q.c b.low
    ·exact .inr (AE hd)
    ·exact .inl (AE (by omega))
   | false=>
    rw [DD,DD];by_cases hd:EB m q.c (IG q b.low b.s4.hi) < EB m q.c b.low
    ·exact .inr (AE hd)
    ·exact .inl (AE (by omega))
theorem Bk {m:Md} {q:Qy} {b:Bx}:∀ (d i:Nat),(J9 m q b d i).isSome=false→∀ j,i≤j→j < i+d→EZ m q b j=[]
 | 0,i,_,j,h1,h2=>by omega
 | d+1,i,h,j,h1,h2=>by
  rw [J9] at h;cases hc:decide ((EZ m q b i).length > 0) with
  | true=>rw [hc,DC] at h; cases h
  | false=>
   rw [hc,DD] at h;have hc:=BE hc;by_cases e:j=i
   ·subst e;exact List.length_eq_zero_iff.1 (by omega)
   ·exact Bk d (i+1) h j (by omega) (by omega)
theorem zdc {m:Md} {q:Qy} {b:Bx} (h:(EL m q b).isSome=false):∀ i,i < 5→EZ m q b i=[]:=fun i hi=>Bk 5 0 h i (BZ _) (by omega)
theorem Bl {m:Md} {q:Qy} {b:Bx}:∀ (d i:Nat),(J9 m q b d i).isSome=true→∃ j:Nat,i≤j∧j < i+d∧I5 (J9 m q b d i)=(j:Int)∧0 < (EZ m q b j).length∧IA (J9 m q b d i)=(EZ m q b j).getD (((EZ m q b j).length - 1) / 2) 0∧∀ k,i≤k→k < j→EZ m q b k=[]
 | 0,i,h=>by rw [J9] at h; cases h
 | d+1,i,h=>by
  rw [J9] at h ⊢;cases hc:decide ((EZ m q b i).length > 0) with
  | true=>exact ⟨i,AY _,by omega,rfl,A1 hc,rfl,fun k h1 h2=>absurd h1 (by omega)⟩
  | false=>
   rw [hc,DD] at h;rw [DD];have hc:=BE hc;obtain ⟨j,h1,h2,h3,h4,h5,h6⟩:=Bl d (i+1) h;refine ⟨j,by omega,by omega,h3,h4,h5,fun k hk1 hk2=>?_⟩;by_cases e:k=i
   ·subst e;exact List.length_eq_zero_iff.1 (by omega)
   ·exact h6 k (by omega) hk2
theorem nG {m:Md} {q:Qy} {b:Bx} (h:(EL m q b).isSome=true):∃ j:Nat,j < 5∧I5 (EL m q b)=(j:Int)∧0 < (EZ m q b j).length∧IA (EL m q b)=(EZ m q b j).getD (((EZ m q b j).length - 1) / 2) 0∧IA (EL m q b)∈EZ m q b j:=by
 obtain ⟨j,_,h2,h3,h4,h5,_⟩:=Bl 5 0 h;refine ⟨j,by omega,h3,h4,h5,?_⟩;have hlt:((EZ m q b j).length - 1) / 2 < (EZ m q b j).length:=by omega
 have:IA (EL m q b)=(EZ m q b j)[((EZ m q b j).length - 1) / 2]:=by
  refine Eq.trans h5 ?_;simp [hlt]
 rw [this];exact CX hlt
open Go
abbrev Ui:List Kd:=[.z,.list false [.z],.list false [.z],.list false [.z],.list false [.z]]
structure Ft where
 d:Int
 c:Int
 bias:LI
 ts:LI
def Ft.cs (f:Ft):List FM.V:=[.int .i64 f.d,.int .i64 f.c,.list false [.z] f.bias,.list true Ui f.ts]
def Ft.V (f:Ft):FM.V:=.agg f.cs
def Ft.M (f:Ft):Md:=eJ f.d f.c f.bias f.ts
def ftOf?:List FM.V→Option Ft
 | [.int .i64 d,.int .i64 c,.list false [.z] b,.list true [.z,.list false [.z],.list false [.z],.list false [.z],.list false [.z]] t]=>some ⟨d,c,b,t⟩
 | _=>none
def akOf?:List FM.V→Option Ak
 | [.int .i64 k,.int .i64 c,.int .i64 lo,.int .i64 size,.int .i64 ft,.int .i64 bu,.bool fl,.list false [.z] sp]=>some ⟨k,c,lo,size,ft,bu,fl,sp⟩
 | _=>none
abbrev oL (v:FM.V) (k:Ft→R):R:=PM ftOf? v k
abbrev Fb (v:FM.V) (k:Ak→R):R:=PM akOf? v k
theorem Fc {v:FM.V} {k:Ft→R} {z:FM.V × List (List FM.V)} (h:(oL v k).get=some z):∃ x:Ft,v=x.V∧(k x).get=some z:=by
 obtain ⟨l,x,rfl,hx,h⟩:=SL h;unfold ftOf? at hx;split at hx
 ·simp only [AC] at hx;subst hx;exact ⟨_,rfl,h⟩
 ·cases hx
theorem zdT {v:FM.V} {k:Ak→R} {z:FM.V × List (List FM.V)} (h:(Fb v k).get=some z):∃ x:Ak,v=x.V∧(k x).get=some z:=by
 obtain ⟨l,x,rfl,hx,h⟩:=SL h;unfold akOf? at hx;split at hx
 ·simp only [AC] at hx;subst hx;exact ⟨_,rfl,h⟩
 ·cases hx
def Jh (a:Ak) (m:Md):Qy:=JI a m.d m.c
def zah (m:Md):Bool:=(decide (1≤m.d)&&decide (m.d≤4))&&(decide (1≤m.c)&&decide (m.c≤3))
def ZC:DO
 | [f]=>oL f fun f=>.ok f.M.V []
 | _=>.no
def ZB:DO
 | [a,m]=>Fb a fun a=>I7 m fun m=>.br (zah m) (.ok (Jh a m).V []) .no
 | _=>.no
theorem Im {vs:List FM.V} {z:FM.V × List (List FM.V)} (h:(ZC vs).get=some z):(bZ vs).get=some z:=by
 unfold ZC at h;split at h
 ·replace h:=Fc h;obtain ⟨f,rfl,h⟩:=h;exact h
 ·simp [R.get] at h
theorem Io {vs:List FM.V} {z:FM.V × List (List FM.V)} (h:(ZB vs).get=some z):(bY vs).get=some z:=by
 unfold ZB at h;split at h
 ·replace h:=zdT h;obtain ⟨a,rfl,h⟩:=h;replace h:=JK h;obtain ⟨m,rfl,h⟩:=h;exact h
 ·simp [R.get] at h
open Go
def Bx.good (b:Bx):Prop:=∀ i,i < 5 → -2147483648≤(b.g i).lo∧(b.g i).lo≤(b.g i).hi∧(b.g i).hi≤2147483647
theorem Bx.good.emp {b:Bx} (h:b.good):b.emp=false:=iC.2 fun i hi=>(h i hi).2.1
theorem Bx.good.ok {b:Bx} (h:b.good):b.ok:=fun i hi=>(h i hi).2.2
def Sp.good (s:Sp):Prop := -2147483648≤s.lo∧s.lo≤s.hi∧s.hi≤2147483647
theorem RZ {b:Bx} (hb:b.good) {s:Sp} (hs:s.good) {i:Nat} (hi:i < 5):(b.p s i).good:=by
 intro j hj;rw [KG b s hi hj];by_cases h:j=i
 ·rw [BL h]; exact hs
 ·rw [A4 h]; exact hb j hj
theorem Bg {lo hi:Int} (h0 : -2147483648≤lo) (h1:lo≤hi) (h2:hi≤2147483647):(LM lo hi).good:=by
 unfold LM;rw [AL (by omega),DD];exact ⟨h0,h1,h2⟩
theorem s7 {b:Bx} (hb:b.good) {i:Nat} (hi:i < 5) {a:Int} (h1:(b.g i).lo≤a) (h2:a < (b.g i).hi):(b.cutL (i:Int) a).good:=by
 unfold Bx.cutL;rw [BD];have h:=hb i hi;refine RZ hb (Bg h.1 ?_ ?_) hi <;> omega
theorem s5 {b:Bx} (hb:b.good) {i:Nat} (hi:i < 5) {a:Int} (h1:(b.g i).lo≤a) (h2:a < (b.g i).hi):(b.cutH (i:Int) a).good:=by
 unfold Bx.cutH;rw [BD];have h:=hb i hi;have e:E7 (a+1)=a+1:=EC (by omega) (by omega);refine RZ hb ?_ hi;unfold Sp.cutH;rw [AL (by omega),DD,e];exact Bg (by omega) (by omega) h.2.2
theorem bE {d i:Int} {s:Sp} (h:L4 d i s=true):s.good:=by
 unfold L4 at h;simp only [AH,BY,EU,Sp.emp,AQ,BQ] at h;obtain ⟨_,h1,h2,h3⟩:=h;exact ⟨h2.1,by omega,h3.2⟩
theorem WR {m:Md} {q:Qy} (h:E6 m q=true):EQ m=true∧(0≤q.c∧q.c < m.c)∧(0≤q.bu∧q.bu≤65536)∧QK q.bx m.d=true∧RR m q=true:=by
 unfold E6 at h;simp only [AH,AQ] at h;exact ⟨h.1,⟨h.2.1,h.2.2.1⟩,⟨h.2.2.2.1,h.2.2.2.2.1⟩,h.2.2.2.2.2.1,h.2.2.2.2.2.2⟩
theorem zbh {b:Bx} {d:Int} (h:QK b d=true):b.good:=by
 unfold QK at h;simp only [AH] at h;intro i hi
 match i,hi with
 | 0,_=>exact bE h.1
 | 1,_=>exact bE h.2.1
 | 2,_=>exact bE h.2.2.1
 | 3,_=>exact bE h.2.2.2.1
 | 4,_=>exact bE h.2.2.2.2
 | n+5,hi=>omega
theorem nN {m:Md} {q:Qy} (h:E6 m q=true):(GW q).good:=by
 have hb:=zbh (WR h).2.2.2.1;unfold GW;refine RZ hb ?_ (by omega);cases hp:GM q with
 | false=>rw [DD]; exact ⟨by decide,by decide,by decide⟩
 | true=>
  rw [DC];unfold GM at hp;simp only [AH,AQ] at hp;exact hb q.ft.toNat (by omega)
def WB (s:Sr):Prop:=∀ x∈s.left,(DW x).good
theorem f7 {s:Sr} (h:WB s) (hl:0 < s.left.length):(DR s.left).good:=by
 unfold DR;refine h _ ?_;rw [BO,A6 (by omega)];exact CX _
theorem Vs {m:Md} {q:Qy} (h:E6 m q=true):WB ⟨[(GW q).I],[],Vd.none,0⟩:=by
 intro x hx;obtain rfl:=BU.1 hx;rw [HW];exact nN h
theorem Dh {m:Md} {q:Qy} {s:Sr} (hr:E6 m q=true) (hg:WB s) (hl:0 < s.left.length) (h1:GG m q (DR s.left)=false) (h2:G0 m q (DR s.left).low (DR s.left).s4.hi=false) :
  (EL m q (DR s.left)).isSome=true:=by
 have ht:=f7 hg hl;cases hs:(EL m q (DR s.left)).isSome with
 | true=>rfl
 | false=>
  rcases Kq hr ht.emp ht.ok (zdc hs) with h | h
  ·rw [h1] at h; cases h
  ·rw [h2] at h; cases h
theorem WK {l:LI} {x:IV} (h:x∈FN l):x∈l:=va2 h
theorem zdj {m:Md} {q:Qy} {s:Sr} (hg:WB s) (hl:0 < s.left.length):WB (FV m q s):=by
 have hp:∀ x∈FN s.left,(DW x).good:=fun x hx=>hg x (WK hx)
 unfold FV;cases GG m q (DR s.left) with
 | true=>exact hp
 | false=>
  cases G0 m q (DR s.left).low (DR s.left).s4.hi with
  | true=>exact hp
  | false=>
   cases hs:(EL m q (DR s.left)).isSome with
   | false=>exact hp
   | true=>
    obtain ⟨j,hj,ei,_,_,hm⟩:=nG hs;have hc:=TY.1 hm;have ht:=f7 hg hl;intro x hx;rw [DD,DD,DC] at hx;rcases AV.1 hx with hx | hx
    ·exact hp x hx
    ·rw [ei] at hx;rcases AU.1 hx with rfl | hx
     ·rw [HW]; exact s5 ht hj hc.2.2.1 hc.2.2.2
     ·obtain rfl:=BU.1 hx;rw [HW]; exact s7 ht hj hc.2.2.1 hc.2.2.2
theorem Ii (f:Ft):EQ f.M=true:=Vp _ _ _ _
open Go
abbrev dW:List Kd:=[.z,.z,.z,.z,.z,.z,.z,.z,.z,.z,.z]
def OE (a:Int) (b:Bx):IV:=.agg [.int a,.int b.s0.lo,.int b.s0.hi,.int b.s1.lo,.int b.s1.hi,.int b.s2.lo,.int b.s2.hi,.int b.s3.lo,.int b.s3.hi,.int b.s4.lo,.int b.s4.hi]
abbrev HC (x:IV):Int:=cI x 0
def IR (x:IV):Bx:=⟨⟨cI x 1,cI x 2⟩,⟨cI x 3,cI x 4⟩,⟨cI x 5,cI x 6⟩,⟨cI x 7,cI x 8⟩,⟨cI x 9,cI x 10⟩⟩
theorem UZ (a:Int) (b:Bx):HC (OE a b)=a:=rfl
theorem QR (a:Int) (b:Bx):IR (OE a b)=b:=rfl
structure En where
 todo:LI
 lo:Int
 hi:Int
 any:Bool
def EN (l:LI):IV:=l.getD (l.length - 1) default
def EM (l:LI) (e:En):Nd:=DF (l.getD (HC (EN e.todo)).toNat default).toInt
def ZR (l:LI) (e:En):En:=
 cond (!(FU (l.getD (HC (EN e.todo)).toNat default).toInt)||(IR (EN e.todo)).emp) ⟨FN e.todo,e.lo,e.hi,e.any⟩
  (cond (!(EM l e).lf)
   ⟨FN e.todo++[OE (EM l e).l ((IR (EN e.todo)).cutL (EM l e).f (EM l e).a),OE (EM l e).r ((IR (EN e.todo)).cutH (EM l e).f (EM l e).a)],e.lo,e.hi,e.any⟩
   ⟨FN e.todo,min (cond e.any e.lo (EM l e).v) (EM l e).v,max (cond e.any e.hi (EM l e).v) (EM l e).v,true⟩)
def jE (b:Bx):En:=⟨[OE 0 b],0,0,false⟩
structure EnI (l:LI) (b:Bx) (e:En):Prop where
 at_:∀ (j:Nat) (x:IV),e.todo[j]?=some x→(j:Int)≤HC x∧HC x < ic l.length
 ok:∀ x∈e.todo,(IR x).ok
 val:∀ x∈e.todo,∀ p t,(IR x).has p t=true→b.has p t=true∧GO l p=OD l p (HC x).toNat
 all:∀ p t,b.has p t=true→(∃ x∈e.todo,(IR x).has p t=true)∨(e.any=true∧e.lo≤GO l p∧GO l p≤e.hi)
 lo:e.any=true→∃ p t,b.has p t=true∧GO l p=e.lo
 hi:e.any=true→∃ p t,b.has p t=true∧GO l p=e.hi
theorem aP {l:LI} {j:Nat} {x:IV} (h:(FN l)[j]?=some x):l[j]?=some x:=by
 unfold FN at h;rw [CI] at h;split at h
 ·exact h
 ·cases h
theorem nF {l:LI} {x:IV} (hl:0 < l.length) (h:x∈l):x∈FN l∨x=EN l:=by
 obtain ⟨j,hj⟩:=List.getElem?_of_mem h;have hjl:=(BN.1 hj).1;by_cases hc:j < l.length - 1
 ·refine .inl (vag (i:=j) ?_);unfold FN;rw [CI,BL hc];exact hj
 ·have:j=l.length - 1:=by omega
  subst this;refine .inr ?_;unfold EN;rw [BO,hj];rfl
theorem SH {l:LI} (hl:0 < l.length):EN l∈l∧l[l.length - 1]?=some (EN l):=by
 unfold EN;rw [BO,A6 (by omega)];exact ⟨CX _,rfl⟩
theorem R3 (l:LI):(FN l).length=l.length - 1:=by
 unfold FN;rw [A8]; omega
theorem Ma {l:LI} (ht:TreeOK l) {b:Bx} {e:En} (h:EnI l b e) (hl:0 < e.todo.length):EnI l b (ZR l e):=by
 obtain ⟨hm,hg⟩:=SH hl;have ha:=h.at_ _ _ hg;have h31:=ht.len.2;have hpm:∀ x∈FN e.todo,x∈e.todo:=fun x hx=>WK hx
 have e0:((HC (EN e.todo)).toNat:Int)=HC (EN e.todo):=by omega
 have hlt:(HC (EN e.todo)).toNat < l.length:=by have:=ha.2; simp only [ic] at this; omega
 have hn:=ht.node _ hlt;have hv:=h.val _ hm;have hok:=h.ok _ hm;unfold ZR;rw [hn,A2,vaB];cases he:(IR (EN e.todo)).emp with
 | true=>
  rw [DC];refine ⟨fun j x hj=>h.at_ j x (aP hj),fun x hx=>h.ok x (hpm x hx),fun x hx=>h.val x (hpm x hx),fun p t hh=>?_,h.lo,h.hi⟩;rcases h.all p t hh with ⟨x,hx,hxh⟩ | hr
  ·rcases nF hl hx with hx | rfl
   ·exact .inl ⟨x,hx,hxh⟩
   ·have:=cT hxh
    rw [he] at this; cases this
  ·exact .inr hr
 | false=>
  rw [DD];cases hlf:(EM l e).lf with
  | true=>
   rw [A2,DD];have hvl:∀ p t,(IR (EN e.todo)).has p t=true→b.has p t=true∧GO l p=(EM l e).v:=fun p t hh=>by
    obtain ⟨h1,h2⟩:=hv p t hh;exact ⟨h1,h2.trans (Er ht p hlt hlf)⟩
   have hlow:=hvl _ _ (VQ _ he);refine ⟨fun j x hj=>h.at_ j x (aP hj),fun x hx=>h.ok x (hpm x hx),fun x hx=>h.val x (hpm x hx),fun p t hh=>?_,fun _=>?_,fun _=>?_⟩
   ·rcases h.all p t hh with ⟨x,hx,hxh⟩ | ⟨h1,h2,h3⟩
    ·rcases nF hl hx with hx | rfl
     ·exact .inl ⟨x,hx,hxh⟩
     ·refine .inr ⟨rfl,?_,?_⟩
      ·rw [(hvl p t hxh).2]; show min _ _≤_; omega
      ·rw [(hvl p t hxh).2]; show _≤max _ _; omega
    ·refine .inr ⟨rfl,?_,?_⟩
     ·show min (cond e.any e.lo _) _≤_;rw [h1,DC]; omega
     ·show _≤max (cond e.any e.hi _) _;rw [h1,DC]; omega
   ·show ∃ p t,b.has p t=true∧GO l p=min (cond e.any e.lo (EM l e).v) (EM l e).v;cases hany:e.any with
    | false=>exact ⟨_,_,hlow.1,by rw [hlow.2,DD]; omega⟩
    | true=>
     rw [DC];by_cases hc:e.lo≤(EM l e).v
     ·obtain ⟨p,t,h1,h2⟩:=h.lo hany;exact ⟨p,t,h1,by omega⟩
     ·exact ⟨_,_,hlow.1,by rw [hlow.2]; omega⟩
   ·show ∃ p t,b.has p t=true∧GO l p=max (cond e.any e.hi (EM l e).v) (EM l e).v;cases hany:e.any with
    | false=>exact ⟨_,_,hlow.1,by rw [hlow.2,DD]; omega⟩
    | true=>
     rw [DC];by_cases hc:(EM l e).v≤e.hi
     ·obtain ⟨p,t,h1,h2⟩:=h.hi hany;exact ⟨p,t,h1,by omega⟩
     ·exact ⟨_,_,hlow.1,by rw [hlow.2]; omega⟩
  | false=>
   rw [BB,DC];obtain ⟨⟨f0,f4⟩,fa,⟨l1,l2⟩,⟨r1,r2⟩,_⟩:=ht.fork _ hlt hlf;replace f0:0≤(EM l e).f:=f0;replace f4:(EM l e).f < 4:=f4;replace l1:((HC (EN e.todo)).toNat:Int) < (EM l e).l:=l1;replace l2:(EM l e).l < ic l.length:=l2;replace r1:((HC (EN e.todo)).toNat:Int) < (EM l e).r:=r1;replace r2:(EM l e).r < ic l.length:=r2;have ef:(EM l e).f=(((EM l e).f.toNat:Nat):Int):=by omega
   have hfl:(EM l e).f.toNat < 5:=by omega
   have fa' : -2147483648≤(EM l e).a:=by
    have:EU (EM l e).a=true:=fa
    unfold EU at this;simp only [AH,AQ] at this;exact this.1
   have vf:∀ p:Pt,OD l p (HC (EN e.todo)).toNat=OD l p (cond (decide (p.g (EM l e).f.toNat≤(EM l e).a)) (EM l e).l.toNat (EM l e).r.toNat):=fun p=>Ep ht p hlt hlf
   have hL:∀ p t,((IR (EN e.todo)).cutL (EM l e).f (EM l e).a).has p t=true↔(IR (EN e.todo)).has p t=true∧co p t (EM l e).f.toNat≤(EM l e).a:=fun p t=>by
    have:=iU (b:=IR (EN e.todo)) hfl (a:=(EM l e).a) (p:=p) (t:=t)
    rwa [← ef] at this
   have hH:∀ p t,((IR (EN e.todo)).cutH (EM l e).f (EM l e).a).has p t=true↔(IR (EN e.todo)).has p t=true∧(EM l e).a < co p t (EM l e).f.toNat:=fun p t=>by
    have:=iS hok hfl fa' (p:=p) (t:=t)
    rwa [← ef] at this
   have okL:((IR (EN e.todo)).cutL (EM l e).f (EM l e).a).ok:=by
    have:=s8 hok hfl (EM l e).a
    rwa [← ef] at this
   have okH:((IR (EN e.todo)).cutH (EM l e).f (EM l e).a).ok:=by
    have:=s6 hok hfl (EM l e).a
    rwa [← ef] at this
   have hco:∀ p t,co p t (EM l e).f.toNat=p.g (EM l e).f.toNat:=fun p t=>cZ p t (by omega)
   refine ⟨fun j x hj=>?_,fun x hx=>?_,fun x hx=>?_,fun p t hh=>?_,h.lo,h.hi⟩
   ·rw [vaf,R3] at hj;split at hj
    ·exact h.at_ j x (aP hj)
    ·rename_i hc;have h1:=ha.1;rcases C6 (j - (e.todo.length - 1)) 1 with h0 | h0
     ·have:j - (e.todo.length - 1)=0:=by omega
      rw [this] at hj;simp only [BK,AC] at hj;subst hj;rw [UZ];omega
     ·rcases C6 (j - (e.todo.length - 1)) 2 with h2 | h2
      ·have:j - (e.todo.length - 1)=1:=by omega
       rw [this] at hj;simp only [DB,BK,AC] at hj;subst hj;rw [UZ];omega
      ·rw [BM (by simpa using h2)] at hj;cases hj
   ·rcases AV.1 hx with hx | hx
    ·exact h.ok x (hpm x hx)
    ·rcases AU.1 hx with rfl | hx
     ·rw [QR]; exact okL
     ·obtain rfl:=BU.1 hx;rw [QR]; exact okH
   ·rcases AV.1 hx with hx | hx
    ·exact h.val x (hpm x hx)
    ·rcases AU.1 hx with rfl | hx
     ·intro p t hh;rw [QR] at hh;obtain ⟨h1,h2⟩:=(hL p t).1 hh;obtain ⟨h3,h4⟩:=hv p t h1;rw [hco] at h2;rw [UZ];exact ⟨h3,by rw [h4,vf,AE h2,DC]⟩
     ·obtain rfl:=BU.1 hx;intro p t hh;rw [QR] at hh;obtain ⟨h1,h2⟩:=(hH p t).1 hh;obtain ⟨h3,h4⟩:=hv p t h1;rw [hco] at h2;rw [UZ];exact ⟨h3,by rw [h4,vf,AL (by omega),DD]⟩
   ·rcases h.all p t hh with ⟨x,hx,hxh⟩ | hr
    ·rcases nF hl hx with hx | rfl
     ·exact .inl ⟨x,AV.2 (.inl hx),hxh⟩
     ·by_cases hc:co p t (EM l e).f.toNat≤(EM l e).a
      ·exact .inl ⟨_,AV.2 (.inr (AT ..)),by rw [QR]; exact (hL p t).2 ⟨hxh,hc⟩⟩
      ·exact .inl ⟨_,AV.2 (.inr (AX _ (AT ..))),by rw [QR]; exact (hH p t).2 ⟨hxh,by omega⟩⟩
    ·exact .inr hr
theorem Lz {l:LI} (ht:TreeOK l) {b:Bx} (hb:b.ok):EnI l b (jE b):=by
 have h1:=ht.len.1;refine ⟨fun j x hj=>?_,fun x hx=>?_,fun x hx=>?_,fun p t hh=>.inl ⟨_,AT ..,by rw [QR]; exact hh⟩,(fun h=>by cases h),(fun h=>by cases h)⟩
 ·match j,hj with
  | 0,hj=>
   obtain rfl:OE 0 b=x:=by simpa [jE] using hj
   rw [UZ];simp only [ic];omega
  | j+1,hj=>simp [jE] at hj
 ·obtain rfl:=BU.1 hx;rw [QR]; exact hb
 ·obtain rfl:=BU.1 hx;intro p t hh;rw [QR] at hh;exact ⟨hh,rfl⟩
def NV (l:LI):Nat:=(l.map fun x=>3 ^ (31 - (HC x).toNat)).sum
theorem EnI.depth {l:LI} (ht:TreeOK l) {b:Bx} {e:En} (h:EnI l b e):e.todo.length≤31:=by
 by_cases hc:e.todo.length≤31
 ·exact hc
 ·obtain ⟨x,hx⟩:∃ x,e.todo[31]?=some x:=⟨_,A6 (by omega)⟩
  have:=h.at_ 31 x hx
  have h2:=ht.len.2;simp only [ic] at this;omega
theorem Lw {l:LI} (hl:0 < l.length):NV l=NV (FN l)+3 ^ (31 - (HC (EN l)).toNat):=by
 have e:l=FN l++[EN l]:=by
  have h2:=(SH hl).2;have h3:l[l.length - 1]=EN l:=CS ((A6 (by omega)).symm.trans h2);unfold FN;rw [← h3,List.take_append_getElem,CV (by omega)]
 unfold NV
 conv=>lhs; rw [e]
 rw [List.map_append,List.sum_append];simp
theorem zdy {a b c:Nat} (h1:a < b) (h2:a < c) (ha:a < 31):3 ^ (31 - b)+3 ^ (31 - c)+1≤3 ^ (31 - a):=by
 have e:3 ^ (31 - a)=3*3 ^ (30 - a):=by
  rw [show 31 - a=(30 - a)+1 by omega,Nat.pow_succ]; omega
 have e1:3 ^ (31 - b)≤3 ^ (30 - a):=Nat.pow_le_pow_right (by omega) (by omega);have e2:3 ^ (31 - c)≤3 ^ (30 - a):=Nat.pow_le_pow_right (by omega) (by omega);have e3:0 < 3 ^ (30 - a):=Nat.pow_pos (by omega);omega
theorem Ly {l:LI} (ht:TreeOK l) {b:Bx} {e:En} (h:EnI l b e) (hl:0 < e.todo.length):NV (ZR l e).todo+1≤NV e.todo:=by
 obtain ⟨hm,hg⟩:=SH hl;have ha:=h.at_ _ _ hg;have h31:=ht.len.2;have hlt:(HC (EN e.todo)).toNat < l.length:=by have:=ha.2; simp only [ic] at this; omega
 have hpos:0 < 3 ^ (31 - (HC (EN e.todo)).toNat):=Nat.pow_pos (by omega);rw [Lw hl];unfold ZR;cases !FU (l.getD (HC (EN e.todo)).toNat default).toInt||(IR (EN e.todo)).emp with
 | true=>rw [DC]; show NV (FN e.todo)+1≤_; omega
 | false=>
  rw [DD];cases hlf:(EM l e).lf with
  | true=>rw [A2,DD]; show NV (FN e.todo)+1≤_; omega
  | false=>
   rw [BB,DC];obtain ⟨_,_,⟨l1,l2⟩,⟨r1,r2⟩,_⟩:=ht.fork _ hlt hlf;replace l1:((HC (EN e.todo)).toNat:Int) < (EM l e).l:=l1;replace r1:((HC (EN e.todo)).toNat:Int) < (EM l e).r:=r1
   have:=zdy (a:=(HC (EN e.todo)).toNat) (b:=(EM l e).l.toNat) (c:=(EM l e).r.toNat) (by omega) (by omega) (by omega)
   unfold NV at *;rw [List.map_append,List.sum_append];simp only [AZ,CB,List.sum_cons,List.sum_nil,UZ];omega
theorem Lx {l:LI} (hT:GC l 4=true) {b:Bx} (hb:b.emp=false) (hok:b.ok) {e:En} (h:EnI l b e) (hl:e.todo=[]):e.lo=HL l b∧e.hi=HK l b:=by
 obtain ⟨t1,⟨p1,u1,q1,q2⟩,⟨p2,u2,q3,q4⟩⟩:=UU hT hb hok;have hall:∀ p t,b.has p t=true→e.any=true∧e.lo≤GO l p∧GO l p≤e.hi:=fun p t hh=>by
  rcases h.all p t hh with ⟨x,hx,_⟩ | hr
  ·rw [hl] at hx; cases hx
  ·exact hr
 have hany:=(hall _ _ q1).1;obtain ⟨p3,u3,q5,q6⟩:=h.lo hany;obtain ⟨p4,u4,q7,q8⟩:=h.hi hany;have a1:=hall _ _ q1;have a2:=hall _ _ q3;have a3:=t1 _ _ q5;have a4:=t1 _ _ q7;omega
theorem zdt {l:LI} (hT:GC l 4=true) {b c:Bx} (hb:b.emp=false) (hok:b.ok) (hc:c.emp=false) (hokc:c.ok) (h:∀ p,(∃ t,b.has p t=true)↔∃ t,c.has p t=true):HL l b=HL l c∧HK l b=HK l c:=by
 obtain ⟨t1,⟨p1,u1,q1,q2⟩,⟨p2,u2,q3,q4⟩⟩:=UU hT hb hok;obtain ⟨s1,⟨p3,u3,q5,q6⟩,⟨p4,u4,q7,q8⟩⟩:=UU hT hc hokc;obtain ⟨v1,w1⟩:=(h p1).1 ⟨u1,q1⟩;obtain ⟨v2,w2⟩:=(h p2).1 ⟨u2,q3⟩;obtain ⟨v3,w3⟩:=(h p3).2 ⟨u3,q5⟩;obtain ⟨v4,w4⟩:=(h p4).2 ⟨u4,q7⟩;have a1:=s1 _ _ w1;have a2:=s1 _ _ w2;have a3:=t1 _ _ w3;have a4:=t1 _ _ w4;omega
open Go
theorem mB:∀ {l:LI} {st st':LI × LI} {x:IV},IE l st=some st'→IE (l++[x]) st=MM st' x
 | [],st,st',x,h=>by
  obtain rfl:=CS h;rw [vba,IE];cases MM st x <;> rfl
 | y :: r,st,st',x,h=>by
  rw [vaa,IE];rw [IE] at h;cases hs:MM st y with
  | none=>rw [hs] at h; cases h
  | some s1=>rw [hs] at h; exact mB h
theorem jC:∀ {l:LI} {st st':Int × Int} {x:IV},JR l st=some st'→JR (l++[x]) st=MI st' x
 | [],st,st',x,h=>by
  obtain rfl:=CS h;rw [vba,JR];cases MI st x <;> rfl
 | y :: r,st,st',x,h=>by
  rw [vaa,JR];rw [JR] at h;cases hs:MI st y with
  | none=>rw [hs] at h; cases h
  | some s1=>rw [hs] at h; exact jC h
def N4 (m:Md) (q:Qy) (b:Bx):Nat:=(EZ m q b 0).length+(EZ m q b 1).length+(EZ m q b 2).length+(EZ m q b 3).length+(EZ m q b 4).length
theorem uB {α:Type} {p q:α→Bool}:∀ {l:List α},(∀ x∈l,p x=true→q x=true)→(l.filter p).length≤(l.filter q).length
 | [],_=>AY _
 | x :: l,h=>by
  have ih:=uB (l:=l) (p:=p) (q:=q) fun y hy=>h y (AX _ hy)
  have hx:=h x (AT ..);rw [vbg,vbg];cases hp:p x with
  | true=>rw [hx hp,BL rfl,BL rfl]; simp only [AN]; omega
  | false=>
   rw [A4 (by decide)];cases q x with
   | true=>rw [BL rfl]; simp only [AN]; omega
   | false=>rw [A4 (by decide)]; exact ih
theorem uC {α:Type} {p q:α→Bool} {a:α}:∀ {l:List α},a∈l→p a=false→q a=true→(∀ x∈l,p x=true→q x=true)→(l.filter p).length < (l.filter q).length
 | [],h,_,_,_=>by cases h
 | x :: l,hm,h1,h2,h=>by
  have hx:=h x (AT ..);have hr:=fun y hy=>h y (AX _ hy)
  rw [vbg,vbg];rcases AU.1 hm with rfl | hm
  ·rw [h1,h2,A4 (by decide),BL rfl]
   have:=uB hr
   simp only [AN]; omega
  ·have ih:=uC hm h1 h2 hr;cases hp:p x with
   | true=>rw [hx hp,BL rfl,BL rfl]; simp only [AN]; omega
   | false=>
    rw [A4 (by decide)];cases q x with
    | true=>rw [BL rfl]; simp only [AN]; omega
    | false=>rw [A4 (by decide)]; exact ih
theorem Lj {m:Md} {q:Qy} {b c:Bx} {i:Nat} (h:c.g i=b.g i):EZ m q c i=EZ m q b i:=by unfold EZ; rw [h]
theorem tC {m:Md} {q:Qy} {b c:Bx} {i:Nat} {a:Int} (ha:a∈EZ m q b i) (h1:(b.g i).lo≤(c.g i).lo) (h2:(c.g i).hi≤(b.g i).hi) (h3:a < (c.g i).lo∨(c.g i).hi≤a):(EZ m q c i).length < (EZ m q b i).length:=by
 obtain ⟨hf,hm,hl,hh⟩:=TY.1 ha;unfold EZ;rw [AL (by omega),DD,DD];unfold KM;refine uC hm ?_ ?_ ?_
 ·simp only [Bool.not_eq_false',vax,AQ]; omega
 ·simp only [BY,van,BQ]; omega
 ·intro x _;simp only [BY,van,BQ]; omega
theorem xZ {m:Md} {q:Qy} {b c:Bx} {j:Nat} (hj:j < 5) (h1:(EZ m q c j).length < (EZ m q b j).length) (h2:∀ i,i < 5→i≠j→c.g i=b.g i):N4 m q c < N4 m q b:=by
 have e:∀ i,i < 5→i≠j→(EZ m q c i).length=(EZ m q b i).length:=fun i hi hn=>by rw [Lj (h2 i hi hn)]
 unfold N4
 match j,hj with
 | 0,_=>have:=e 1 (by omega) (by omega); have:=e 2 (by omega) (by omega); have:=e 3 (by omega) (by omega); have:=e 4 (by omega) (by omega); omega
 | 1,_=>have:=e 0 (by omega) (by omega); have:=e 2 (by omega) (by omega); have:=e 3 (by omega) (by omega); have:=e 4 (by omega) (by omega); omega
 | 2,_=>have:=e 0 (by omega) (by omega); have:=e 1 (by omega) (by omega); have:=e 3 (by omega) (by omega); have:=e 4 (by omega) (by omega); omega
 | 3,_=>have:=e 0 (by omega) (by omega); have:=e 1 (by omega) (by omega); have:=e 2 (by omega) (by omega); have:=e 4 (by omega) (by omega); omega
 | 4,_=>have:=e 0 (by omega) (by omega); have:=e 1 (by omega) (by omega); have:=e 2 (by omega) (by omega); have:=e 3 (by omega) (by omega); omega
 | n+5,h=>omega
theorem Bf {lo hi:Int} (h:lo≤hi):LM lo hi=⟨lo,hi⟩:=by unfold LM; rw [AL (by omega),DD]
theorem xY {m:Md} {q:Qy} {b:Bx} {j:Nat} (hj:j < 5) {a:Int} (ha:a∈EZ m q b j):N4 m q (b.cutL (j:Int) a) < N4 m q b:=by
 obtain ⟨hf,hm,hl,hh⟩:=TY.1 ha;have e:∀ i,i < 5→(b.cutL (j:Int) a).g i=if i=j then ⟨(b.g j).lo,a⟩ else b.g i:=fun i hi=>by
  unfold Bx.cutL;rw [BD,KG b _ hj hi];unfold Sp.cutL;rw [show min (b.g j).hi a=a by omega,Bf hl]
 refine xZ hj (tC ha ?_ ?_ ?_) fun i hi hn=>by rw [e i hi,A4 hn]
 ·rw [e j hj,BL rfl]; exact vab _
 ·rw [e j hj,BL rfl]; show a≤_; omega
 ·rw [e j hj,BL rfl]; exact .inr (vab _)
theorem zaU {m:Md} {q:Qy} {b:Bx} (hb:b.good) {j:Nat} (hj:j < 5) {a:Int} (ha:a∈EZ m q b j):N4 m q (b.cutH (j:Int) a) < N4 m q b:=by
 obtain ⟨hf,hm,hl,hh⟩:=TY.1 ha;have hg:=hb j hj;have e:∀ i,i < 5→(b.cutH (j:Int) a).g i=if i=j then ⟨a+1,(b.g j).hi⟩ else b.g i:=fun i hi=>by
  unfold Bx.cutH;rw [BD,KG b _ hj hi];unfold Sp.cutH;rw [AL (by omega),DD,show E7 (a+1)=a+1 from EC (by omega) (by omega),show max (b.g j).lo (a+1)=a+1 by omega,Bf (by omega)]
 refine xZ hj (tC ha ?_ ?_ ?_) fun i hi hn=>by rw [e i hi,A4 hn]
 ·rw [e j hj,BL rfl]; show _≤a+1; omega
 ·rw [e j hj,BL rfl]; exact vab _
 ·rw [e j hj,BL rfl]; exact .inl (by show a < a+1; omega)
structure Rp (m:Md) (q:Qy) (s:Sr):Prop where
 left:WB s
 pt:∀ (j:Nat) (x:IV),s.left[j]?=some x→N4 m q (DW x)+j≤N4 m q (GW q)
 ps:∃ outs,IE s.proof ([(GW q).I],[])=some (s.left,outs)∧∀ x∈outs,GG m q (DW x)=true
 dp:∃ most,JR s.proof (1,1)=some (ic s.left.length,most)∧1≤most∧most≤(N4 m q (GW q):Int)+1
theorem zbw {m:Md} {q:Qy} (h:E6 m q=true):Rp m q ⟨[(GW q).I],[],Vd.none,0⟩ where
 left:=Vs h
 pt j x hj:=by
  match j,hj with
  | 0,hj=>
   obtain rfl:(GW q).I=x:=by simpa using hj
   rw [HW]; omega
  | j+1,hj=>simp at hj
 ps:=⟨[],rfl,fun x hx=>by cases hx⟩
 dp:=⟨1,rfl,by omega,by omega⟩
theorem y7 {m:Md} {q:Qy} {s:Sr} (hr:E6 m q=true) (h:Rp m q s) (hl:0 < s.left.length) (hn:GG m q (DR s.left)=false→G0 m q (DR s.left).low (DR s.left).s4.hi=false):Rp m q (FV m q s):=by
 obtain ⟨outs,hps,hout⟩:=h.ps;obtain ⟨most,hdp,hm1,hm2⟩:=h.dp;have hg:=zdj (m:=m) (q:=q) h.left hl;have ht:=f7 h.left hl;have htop:s.left[s.left.length - 1]?=some (EN s.left):=(SH hl).2;have ept:DR s.left=DW (EN s.left):=rfl;have hpt:=h.pt _ _ htop;rw [← ept] at hpt;cases hc:GG m q (DR s.left) with
 | true=>
  have e:(FV m q s).left=FN s.left∧(FV m q s).proof=s.proof++[L5 true 0 0]:=by
   unfold FV;rw [hc,DC];exact ⟨rfl,rfl⟩
  refine ⟨hg,fun j x hj=>?_,⟨outs++[(DR s.left).I],?_,fun x hx=>?_⟩,⟨most,?_,hm1,hm2⟩⟩
  ·rw [e.1] at hj;exact h.pt j x (aP hj)
  ·rw [e.2,mB hps,e.1];rfl
  ·rcases AV.1 hx with hx | hx
   ·exact hout x hx
   ·obtain rfl:=BU.1 hx;rw [HW]; exact hc
  ·rw [e.2,jC hdp,e.1,R3];unfold MI;have h1:(ic s.left.length==0)=false:=BR.2 (by simp only [ic]; omega);show cond ((ic s.left.length==0)||!true) none (some (ic s.left.length - 1,most))=_;rw [h1];show some (ic s.left.length - 1,most)=_;rw [show ic s.left.length - 1=ic (s.left.length - 1) by simp only [ic]; omega]
 | false=>
  have hb:=hn hc;have hs:=Dh hr h.left hl hc hb;obtain ⟨j,hj,ei,_,_,hm⟩:=nG hs;have hcut:=TY.1 hm;have e:(FV m q s).left=FN s.left++[((DR s.left).cutH (j:Int) (IA (EL m q (DR s.left)))).I,((DR s.left).cutL (j:Int) (IA (EL m q (DR s.left)))).I]∧(FV m q s).proof=s.proof++[L5 false (j:Int) (IA (EL m q (DR s.left)))]:=by
   unfold FV;rw [hc,DD,hb,DD,hs,DC,ei];exact ⟨rfl,rfl⟩
  generalize IA (EL m q (DR s.left))=a at hm hcut e;refine ⟨hg,fun k x hk=>?_,⟨outs,?_,hout⟩,⟨max most (ic s.left.length+1),?_,by omega,?_⟩⟩
  ·rw [e.1,vaf,R3] at hk;split at hk
   ·exact h.pt k x (aP hk)
   ·rcases C6 (k - (s.left.length - 1)) 1 with h0 | h0
    ·rw [show k - (s.left.length - 1)=0 by omega] at hk;simp only [BK,AC] at hk;subst hk;rw [HW]
     have:=zaU ht hj hm
     omega
    ·rcases C6 (k - (s.left.length - 1)) 2 with h2 | h2
     ·rw [show k - (s.left.length - 1)=1 by omega] at hk;simp only [DB,BK,AC] at hk;subst hk;rw [HW]
      have:=xY (q:=q) hj hm
      omega
     ·rw [BM (by simpa using h2)] at hk;cases hk
  ·rw [e.2,mB hps,e.1];unfold MM;show cond false _ (cond (decide (a < ((DR s.left).g ((j:Int)).toNat).lo)||decide (a≥((DR s.left).g ((j:Int)).toNat).hi)) none _)=_;rw [DD,BD,AL (by omega),AL (by omega)];rfl
  ·rw [e.2,jC hdp,e.1];unfold MI;have h1:(ic s.left.length==0)=false:=BR.2 (by simp only [ic]; omega);have h2:JJ (L5 false (j:Int) a)=true:=by
    show (decide ((0:Int)≤(j:Int))&&decide ((j:Int)≤4))=true;rw [AE (by omega),AE (by omega)]; rfl
   show cond ((ic s.left.length==0)||!(JJ (L5 false (j:Int) a))) none (some (ic s.left.length+1,max most (ic s.left.length+1)))=_;rw [h1,h2];show some (ic s.left.length+1,max most (ic s.left.length+1))=_;rw [AW,R3]
   have:ic (s.left.length - 1+[((DR s.left).cutH (j:Int) a).I,((DR s.left).cutL (j:Int) a).I].length)=ic s.left.length+1:=by simp only [ic,AN,A7]; omega
   rw [this]
  ·have h3:0 < N4 m q (DR s.left):=Nat.lt_of_le_of_lt (BZ _) (xY (q:=q) hj hm);simp only [ic];omega
open Go
open Go
def zdp (q:Qy) (s:Sr):Prop:=∀ x∈s.left,∀ p t,(DW x).has p t=true→(GW q).has p t=true
structure Ri (m:Md) (q:Qy) (s:Sr):Prop where
 sp:0≤s.spent∧s.spent≤q.bu
 opn:s.v.kind=0→Rp m q s∧0 < s.left.length∧s.spent=ic s.proof.length∧s.v.proof=[]∧zdp q s
 holds:s.v.kind=1→Rp m q s∧s.left=[]∧s.spent=ic s.proof.length∧s.v.proof=s.proof
 fails:s.v.kind=2→s.v.proof=[]∧1≤s.spent∧(GW q).has ⟨s.v.w0,s.v.w1,s.v.w2,s.v.w3⟩ s.v.twin=true∧G0 m q ⟨s.v.w0,s.v.w1,s.v.w2,s.v.w3⟩ s.v.twin=true
 kinds:s.v.kind=0∨s.v.kind=1∨s.v.kind=2
theorem zbl {m:Md} {q:Qy} (h:E6 m q=true):Ri m q ⟨[(GW q).I],[],Vd.none,0⟩ where
 sp:=⟨vab _,(WR h).2.2.1.1⟩
 opn _:=⟨zbw h,by simp,rfl,rfl,fun x hx p t hh=>by
  obtain rfl:=BU.1 hx;rw [HW] at hh; exact hh⟩
 holds h:=absurd (show (0:Int)=1 from h) (by decide)
 fails h:=absurd (show (0:Int)=2 from h) (by decide)
 kinds:=.inl rfl
theorem zbm {m:Md} {q:Qy} {s:Sr} (hr:E6 m q=true) (h:Ri m q s) (ho:I3 q s=false):Ri m q (FV m q s):=by
 unfold I3 at ho;rw [van] at ho;have hk:s.v.kind=0:=by simpa using ho.1
 have hs:¬ s.spent≥q.bu:=BE ho.2;obtain ⟨hrp,hl,hsp,hvp,hsub⟩:=h.opn hk;have hsp0:=h.sp;have ht:=f7 hrp.left hl;have htm:EN s.left∈s.left:=(SH hl).1;have ept:DR s.left=DW (EN s.left):=rfl;cases hc:GG m q (DR s.left) with
 | true=>
  have hrp':=y7 hr hrp hl (fun h=>by rw [hc] at h; cases h);have e:FV m q s=⟨FN s.left,s.proof++[L5 true 0 0],cond (ic (s.left.length - 1)==0) ⟨1,s.proof++[L5 true 0 0],0,0,0,0,0,0⟩ s.v,s.spent+1⟩:=by
   unfold FV;rw [hc,DC]
  rw [e] at hrp' ⊢;have hlen:s.spent+1=ic (s.proof++[L5 true 0 0]).length:=by
   rw [hsp]; simp only [ic,AW,AN,A7]; omega
  cases he:(ic (s.left.length - 1)==0) with
  | true=>
   rw [he] at hrp';have h1:s.left.length=1:=by
    have:ic (s.left.length - 1)=0:=by simpa using he
    simp only [ic] at this; omega
   have hnil:FN s.left=[]:=List.length_eq_zero_iff.1 (by rw [R3]; omega);exact ⟨⟨by show 0≤s.spent+1; omega,by show s.spent+1≤_; omega⟩,fun h=>absurd (show (1:Int)=0 from h) (by decide),fun _=>⟨hrp',hnil,hlen,rfl⟩,fun h=>absurd (show (1:Int)=2 from h) (by decide),.inr (.inl rfl)⟩
  | false=>
   rw [he] at hrp';have h1:s.left.length - 1≠0:=fun h=>by rw [h] at he; exact absurd he (by decide)
   refine ⟨⟨by show 0≤s.spent+1; omega,by show s.spent+1≤_; omega⟩,fun _=>⟨hrp',?_,hlen,hvp,fun x hx=>hsub x (WK hx)⟩,fun h=>?_,fun h=>?_,.inl hk⟩
   ·show 0 < (FN s.left).length;rw [R3]; omega
   ·replace h:s.v.kind=1:=h;omega
   ·replace h:s.v.kind=2:=h;omega
 | false=>
  cases hb:G0 m q (DR s.left).low (DR s.left).s4.hi with
  | true=>
   have e:FV m q s=⟨FN s.left,s.proof,⟨2,[],(DR s.left).s0.lo,(DR s.left).s1.lo,(DR s.left).s2.lo,(DR s.left).s3.lo,(DR s.left).s4.hi,0⟩,s.spent+1⟩:=by
    unfold FV;rw [hc,DD,hb,DC]
   rw [e];refine ⟨⟨by show 0≤s.spent+1; omega,by show s.spent+1≤_; omega⟩,fun h=>absurd (show (2:Int)=0 from h) (by decide),fun h=>absurd (show (2:Int)=1 from h) (by decide),fun _=>⟨rfl,by show 1≤s.spent+1; omega,?_,hb⟩,.inr (.inr rfl)⟩;exact hsub _ htm _ _ (by rw [← ept]; exact VQ _ ht.emp)
  | false=>
   have hrp':=y7 hr hrp hl (fun _=>hb);have hs2:=Dh hr hrp.left hl hc hb;obtain ⟨j,hj,ei,_,_,hm⟩:=nG hs2;have hcut:=TY.1 hm;have hg:=ht j hj;have e:FV m q s=⟨FN s.left++[((DR s.left).cutH (j:Int) (IA (EL m q (DR s.left)))).I,((DR s.left).cutL (j:Int) (IA (EL m q (DR s.left)))).I],
     s.proof++[L5 false (j:Int) (IA (EL m q (DR s.left)))],s.v,s.spent+1⟩:=by
    unfold FV;rw [hc,DD,hb,DD,hs2,DC,ei]
   rw [e] at hrp' ⊢;generalize IA (EL m q (DR s.left))=a at hm hcut hrp';refine ⟨⟨by show 0≤s.spent+1; omega,by show s.spent+1≤_; omega⟩,fun _=>⟨hrp',by simp,?_,hvp,fun x hx p t hh=>?_⟩,fun h=>?_,fun h=>?_,.inl hk⟩
   ·show s.spent+1=_;rw [hsp]; simp only [ic,AW,AN,A7]; omega
   ·rcases AV.1 hx with hx | hx
    ·exact hsub x (WK hx) p t hh
    ·rcases AU.1 hx with rfl | hx
     ·rw [HW] at hh;exact hsub _ htm p t (by rw [← ept]; exact ((iS ht.ok hj (by omega)).1 hh).1)
     ·obtain rfl:=BU.1 hx;rw [HW] at hh;exact hsub _ htm p t (by rw [← ept]; exact ((iU hj).1 hh).1)
   ·replace h:s.v.kind=1:=h;omega
   ·replace h:s.v.kind=2:=h;omega
theorem y3 {m:Md} {q:Qy} (hr:E6 m q=true):∀ (d:Nat) (s:Sr),Ri m q s→q.bu < s.spent+d→Ri m q (KW m q d s)∧I3 q (KW m q d s)=true
 | 0,s,h,hd=>⟨h,by
  unfold I3
  have:KW m q 0 s=s:=rfl
  rw [this,AE (show s.spent≥q.bu by omega)];simp⟩
 | d+1,s,h,hd=>by
  rw [KW];cases ho:I3 q s with
  | true=>rw [DC]; exact ⟨h,ho⟩
  | false=>
   rw [DD];refine y3 hr d (FV m q s) (zbm hr h ho) ?_
   have:(FV m q s).spent=s.spent+1:=by
    unfold FV;cases GG m _ _ <;> cases G0 m _ _ _ <;> cases (EL m _ _).isSome <;> rfl
   omega
open Go
theorem Pd {s:Sp}:T4 s=true↔s.good:=by
 unfold T4 Sp.good;simp only [AH,AQ]
theorem V4 {b:Bx}:FL b=true↔b.good:=by
 unfold FL;simp only [AH,Pd];constructor
 ·rintro ⟨h0,h1,h2,h3,h4⟩ i hi
  match i,hi with
  | 0,_=>exact h0
  | 1,_=>exact h1
  | 2,_=>exact h2
  | 3,_=>exact h3
  | 4,_=>exact h4
  | n+5,hi=>omega
 ·intro h;exact ⟨h 0 (by omega),h 1 (by omega),h 2 (by omega),h 3 (by omega),h 4 (by omega)⟩
theorem zdM {b:Bx} (h4:b.s4.lo≤b.s4.hi) (p:Pt):(∃ t,(b.p ⟨0,0⟩ 4).has p t=true)↔∃ t,b.has p t=true:=by
 constructor
 ·rintro ⟨t,h⟩;refine ⟨b.s4.lo,?_⟩;unfold Bx.has at h ⊢;simp only [AH] at h ⊢;exact ⟨h.1,h.2.1,h.2.2.1,h.2.2.2.1,ND.2 ⟨vab _,h4⟩⟩
 ·rintro ⟨t,h⟩;refine ⟨0,?_⟩;unfold Bx.has at h ⊢;simp only [AH] at h ⊢;exact ⟨h.1,h.2.1,h.2.2.1,h.2.2.2.1,ND.2 ⟨vab _,vab _⟩⟩
theorem nP {g g':LI→Int} (k:Int):∀ (ts:LI) (s:Int),(∀ t∈ts,g (E3 t)=g' (E3 t))→IB g k ts s=IB g' k ts s
 | [],_,_=>rfl
 | t :: ts,s,h=>by
  rw [IB,IB,h t (AT ..)];exact nP k ts _ fun u hu=>h u (AX _ hu)
theorem zE {m:Md} (hm:EQ m=true) (k:Int) {b:Bx} (hb:b.good):D0 m k (b.p ⟨0,0⟩ 4)=D0 m k b∧DV m k (b.p ⟨0,0⟩ 4)=DV m k b:=by
 have hg:(b.p ⟨0,0⟩ 4).good:=RZ hb ⟨by decide,by decide,by decide⟩ (by omega);have ht:∀ t∈m.ts,HL (E3 t) (b.p ⟨0,0⟩ 4)=HL (E3 t) b∧HK (E3 t) (b.p ⟨0,0⟩ 4)=HK (E3 t) b:=fun t ht=>
  zdt (WZ hm ht) hg.emp hg.ok hb.emp hb.ok (zdM (hb 4 (by omega)).2.1)
 have es:GL m k (b.p ⟨0,0⟩ 4)=GL m k b:=by unfold GL; rw [hg.emp,hb.emp]
 unfold D0 DV;rw [es];cases GL m k b with
 | false=>exact ⟨rfl,rfl⟩
 | true=>
  rw [DC,DC,DC,DC];exact ⟨nP k m.ts _ fun t h=>(ht t h).1,nP k m.ts _ fun t h=>(ht t h).2⟩
def TS (m:Md) (q:Qy) (b:Bx):Nat→Nat→Bool
 | 0,_=>true
 | d+1,i=>cond (!((i:Int)==q.c)&&decide (DV m (i:Int) b≥D0 m q.c b)) false (TS m q b d (i+1))
def JV (q:Qy) (b:Bx):Bx:=b.p b.s4 q.ft.toNat
def mY (m:Md) (q:Qy) (b:Bx):Bool:=
 cond b.emp true
  (cond (q.k==1) (decide (q.lo≤D0 m q.c b)&&decide (DV m q.c b≤q.hi))
   (cond (q.k==2) (TS m q b m.c.toNat 0)
    (cond (decide ((b.g q.ft.toNat).lo≥b.s4.hi)) true
     (cond q.fl (decide (DV m q.c (JV q b)≤D0 m q.c b)) (decide (D0 m q.c (JV q b)≥DV m q.c b))))))
theorem pJ {m:Md} {q:Qy} {b:Bx}:∀ (d i:Nat),TS m q b d i=true↔∀ j:Nat,i≤j→j < i+d→(j:Int)≠q.c→DV m (j:Int) b < D0 m q.c b
 | 0,i=>⟨fun _ j h1 h2=>by omega,fun _=>rfl⟩
 | d+1,i=>by
  rw [TS];cases hc:(!((i:Int)==q.c)&&decide (DV m (i:Int) b≥D0 m q.c b)) with
  | true=>
   rw [DC];simp only [AH,BY,BR,AQ] at hc;refine ⟨(fun h=>by cases h),fun h=>?_⟩
   have:=h i (AY _) (by omega) hc.1
   omega
  | false=>
   rw [DD,pJ d (i+1)];rw [Bool.and_eq_false_iff,Bool.not_eq_false',B3,BQ] at hc;constructor
   ·intro h j h1 h2 hn;rcases C6 i j with h3 | h3
    ·exact h j h3 (by omega) hn
    ·have:j=i:=by omega
     subst this;rcases hc with hc | hc
     ·exact absurd hc hn
     ·omega
   ·intro h j h1 h2 hn;exact h j (by omega) (by omega) hn
theorem zbQ {m:Md} {q:Qy} {b:Bx} (hr:E6 m q=true) (hb:b.emp=true∨b.good):mY m q b=GG m q b:=by
 unfold mY GG;rw [hr,BH];cases he:b.emp with
 | true=>rfl
 | false=>
  rw [DD,DD];have hg:b.good:=by
   rcases hb with h | h
   ·rw [he] at h; cases h
   ·exact h
  obtain ⟨hm,⟨c0,c1⟩,_,_,hk⟩:=WR hr;have hcl:=iM c0 c1;have hs:=UQ hm hcl he;rcases dY hk with ⟨e,_⟩ | ⟨e,h2,_⟩ | ⟨e,hf,_⟩
  ·rw [e];show (decide (q.lo≤D0 m q.c b)&&decide (DV m q.c b≤q.hi))=(GL m q.c b&&(decide (q.lo≤D0 m q.c b)&&decide (DV m q.c b≤q.hi)));rw [hs,BH]
  ·rw [e];show TS m q b m.c.toNat 0=(LY m q.c b&&decide (RT m q.c b > 0));have hmg:LY m q.c b=true:=by unfold LY; rw [hs,AE (by omega)]; rfl
   rw [hmg,BH,va6,pJ,AQ]
   have:=vY hmg
   constructor
   ·intro h;exact this.2 fun j hj hn=>h j (BZ _) (by omega) hn
   ·intro h j _ h2 hn;exact this.1 h j (by omega) hn
  ·rw [e];have hp:=lS hm e hf;have h44:=hg 4 (by omega);have hg2:(JV q b).good:=RZ hg h44 (by have:=hf; have:=(WR hr).1; rcases PC hp with e | e | e | e <;> rw [e] <;> decide);have s1:=zE hm q.c hg;have s2:=zE hm q.c hg2;have f1:IZ q b=b.p ⟨0,0⟩ 4:=by unfold IZ; rw [hp,DC]
   have f2:I4 q b=(JV q b).p ⟨0,0⟩ 4:=by unfold I4; rw [hp,DC]; rfl
   have hch:J1 m q b=true:=by
    unfold J1;rw [hp,f1,f2,UQ hm hcl (RZ hg ⟨by decide,by decide,by decide⟩ (by omega)).emp,UQ hm hcl (RZ hg2 ⟨by decide,by decide,by decide⟩ (by omega)).emp];rfl
   have e1:P7 m q b=DV m q.c (JV q b) - D0 m q.c b:=by unfold P7; rw [hch,DC,f1,f2,s1.1,s2.2]
   have e2:P8 m q b=D0 m q.c (JV q b) - DV m q.c b:=by unfold P8; rw [hch,DC,f1,f2,s1.2,s2.1]
   have eo:N3 q b=!decide ((b.g q.ft.toNat).lo≥b.s4.hi):=by
    unfold N3;rw [hp,he];by_cases h:(b.g q.ft.toNat).lo < b.s4.hi
    ·rw [AE h,AL (by omega)]; rfl
    ·rw [AL h,AE (by omega)]; rfl
   show cond (decide ((b.g q.ft.toNat).lo≥b.s4.hi)) true _=cond (!(N3 q b)) true (cond q.fl (J1 m q b&&decide (P7 m q b≤0)) (J1 m q b&&decide (P8 m q b≥0)));rw [eo,Bool.not_not,hch,BH,BH,e1,e2];have d1:decide (DV m q.c (JV q b) - D0 m q.c b≤0)=decide (DV m q.c (JV q b)≤D0 m q.c b):=by
    rw [va6,AQ,AQ]; omega
   have d2:decide (D0 m q.c (JV q b) - DV m q.c b≥0)=decide (D0 m q.c (JV q b)≥DV m q.c b):=by
    rw [va6,AQ,AQ]; omega
   rw [d1,d2]
open Go
theorem jD {x:IV} {left most:Int} {st:Int × Int} (h:MI (left,most) x=some st):left≠0∧JJ x=true∧((HT x=true∧st=(left - 1,most))∨(HT x=false∧st=(left+1,max most (left+1)))):=by
 unfold MI at h;cases hz:(left==0) with
 | true=>simp only [hz,Bool.true_or,CO] at h; cases h
 | false=>
  have hne:left≠0:=by simpa using hz
  simp only [hz,vaB] at h;cases hr:JJ x with
  | false=>rw [hr] at h; cases h
  | true=>
   rw [hr] at h;simp only [A2,B9] at h;cases hs:HT x with
   | true=>rw [hs] at h; exact ⟨hne,rfl,.inl ⟨rfl,(CS h).symm⟩⟩
   | false=>rw [hs] at h; exact ⟨hne,rfl,.inr ⟨rfl,(CS h).symm⟩⟩
theorem mO {x:IV} (h:JJ x=true) (hs:HT x=false):0≤FA x∧FA x≤4:=by
 unfold JJ at h;rw [hs,DD,AH,AQ,AQ] at h;exact h
theorem yJ {x:IV} {left out:LI} {most:Int} {st:Int × Int} {lo:LI × LI} (hl:∀ y∈left,(DW y).good) (ho:∀ y∈out,(DW y).good) (hd:MI (ic left.length,most) x=some st) (hp:MM (left,out) x=some lo) :
  (∀ y∈lo.1,(DW y).good)∧(∀ y∈lo.2,(DW y).good)∧st.1=ic lo.1.length:=by
 obtain ⟨hne,hr,hd⟩:=jD hd;have hlen:0 < left.length:=by simp only [ic] at hne; omega
 have ht:(DR left).good:=hl _ (SH hlen).1;unfold MM at hp;rcases hd with ⟨hs,rfl⟩ | ⟨hs,rfl⟩
 ·rw [hs] at hp;obtain rfl:=CS hp;refine ⟨fun y hy=>hl y (WK hy),fun y hy=>?_,?_⟩
  ·rcases AV.1 hy with hy | hy
   ·exact ho y hy
   ·obtain rfl:=BU.1 hy;rw [HW]; exact ht
  ·show ic left.length - 1=ic (FN left).length;rw [R3]; simp only [ic]; omega
 ·rw [hs] at hp;have hpl:=mO hr hs;have ej:FA x=(((FA x).toNat:Nat):Int):=by omega
  cases hc:(decide (FY x < ((DR left).g (FA x).toNat).lo)||decide (FY x≥((DR left).g (FA x).toNat).hi)) with
  | true=>simp only [hc,B9,CO] at hp; cases hp
  | false=>
   simp only [hc,B9] at hp;obtain rfl:=CS hp;simp only [van,BQ] at hc;refine ⟨fun y hy=>?_,ho,?_⟩
   ·rcases AV.1 hy with hy | hy
    ·exact hl y (WK hy)
    ·rcases AU.1 hy with rfl | hy
     ·rw [HW,ej]; exact s5 ht (by omega) (by omega) (by omega)
     ·obtain rfl:=BU.1 hy;rw [HW,ej]; exact s7 ht (by omega) (by omega) (by omega)
   ·show ic left.length+1=ic (FN left++[_,_]).length;rw [AW,R3];simp only [ic,AN,A7]; omega
theorem yH:∀ {l:LI} {left out:LI} {most:Int} {st:Int × Int} {lo:LI × LI},(∀ y∈left,(DW y).good)→(∀ y∈out,(DW y).good)→JR l (ic left.length,most)=some st→IE l (left,out)=some lo→∀ y∈lo.2,(DW y).good
 | [],left,out,most,st,lo,_,ho,_,hp=>by
  obtain rfl:=CS hp;exact ho
 | x :: l,left,out,most,st,lo,hl,ho,hd,hp=>by
  rw [JR] at hd;rw [IE] at hp;cases h1:MI (ic left.length,most) x with
  | none=>rw [h1] at hd; cases hd
  | some s1=>
   cases h2:MM (left,out) x with
   | none=>rw [h2] at hp; cases hp
   | some l1=>
    rw [h1] at hd;rw [h2] at hp;obtain ⟨g1,g2,g3⟩:=yJ hl ho h1 h2;obtain ⟨a,b⟩:=l1;obtain ⟨c,d⟩:=s1;obtain rfl:c=ic a.length:=g3;exact yH g1 g2 hd hp
theorem tE {l:LI} (h:MH l > 0):∃ st,JR l (1,1)=some st:=by
 unfold MH at h;cases hc:decide (ic l.length > 65536) with
 | true=>rw [hc,DC] at h; omega
 | false=>
  rw [hc,DD] at h;cases hd:JR l (1,1) with
  | none=>rw [hd] at h; exact absurd h (by decide)
  | some st=>exact ⟨st,rfl⟩
theorem za4 {b:Bx} (hb:b.good) {l outs:LI} (h:LD b l=some outs):∀ y∈outs,(DW y).good:=by
 unfold LD at h;cases hd:decide (MH l > 0) with
 | false=>rw [hd,DD] at h; cases h
 | true=>
  rw [hd,DC] at h;obtain ⟨st,hst⟩:=tE (A1 hd);cases hp:IE l ([b.I],[]) with
  | none=>rw [hp] at h; cases h
  | some lo=>
   rw [hp] at h;obtain rfl:=CS h;refine yH (left:=[b.I]) (out:=[]) (most:=1) (fun y hy=>?_) (fun y hy=>by cases hy) hst hp;obtain rfl:=BU.1 hy;rw [HW]; exact hb
open Go Go.Proofs
def VC (N:Nat):Env:=DZ [(111,NK),(112,J0),(55,K4)] [(3,⟨[0,4,5,6,7,8,9],[500],[⟨.tmp 9,500,252,true,dW⟩]⟩)] 88 N
open Go Go.Proofs
set_option maxRecDepth 100000
def OX (l O:LI) (n:Nat) (lo hi:Int) (any:Bool):St:=⟨[(0,.list false [.int .u64] l),(4,.int .i64 0),(5,.int .i64 0),(6,.int .i64 lo),(7,.int .i64 hi),(8,.bool any),(9,.row 500 0 n)],[(500,some (.row true 252 true dW O))]⟩
abbrev kE:KP:=⟨[0,4,5,6,7,8,9],[500],[⟨.tmp 9,500,252,true,dW⟩]⟩
noncomputable abbrev kB (N:Nat):Out→St→DH:=DK 0 (DM (VC N) (DE VR [1,1,1,1]) (DP (VC N) none [.tmp 4,.tmp 5] [[.z],[.z]]))
def eW (n:Nat):Int:=AA AB (ic (n - 0) - 1)
def eX (O:LI) (n:Nat):IV:=O.getD (0+(eW n).toNat) default
def IL (l:LI) (x:IV):Int:=(l.getD (HC x).toNat default).toInt
theorem Xp (N:Nat) (l:LI) (b:Bx):DS (VC N) VR [.tmp 4,.tmp 5] [[.z],[.z]] [.list false [.int .u64] l,b.V] =
 DT (VC N) (DE VR [1,1,1,0,0,0]) kE N (OX l [OE 0 b] 1 0 0 false) (kB N):=by kernel_rfl
theorem Cp (N:Nat) (l O:LI) (n:Nat) (lo hi:Int) (any:Bool) (again:St→DH) (k:Out→St→DH):E4 (VC N) (DE VR [1,1,1,0,0,0]) (OX l O n lo hi any) (EO again kE k) =
 cond (decide (ic (n - 0) > 0)) (cond (decide (0≤eW n)&&decide (eW n < ic (n - 0))) (cond (decide (0≤eW n)&&decide (eW n≤ic (n - 0)))
 (cond (decide (0≤HC (eX O n))&&decide (HC (eX O n) < ic l.length))
 (cond (!(FU (IL l (eX O n)))) (again (OX l O (0+(eW n).toNat) lo hi any))
 (cond (IR (eX O n)).emp (again (OX l O (0+(eW n).toNat) lo hi any))
 (cond (!(DF (IL l (eX O n))).lf)
 (cond (HG (DF (IL l (eX O n))).f) (cond (decide ((0+(eW n).toNat+2)*88≤D6))
 (again (OX l (O.take (0+(eW n).toNat)++[OE (DF (IL l (eX O n))).l ((IR (eX O n)).cutL (DF (IL l (eX O n))).f (DF (IL l (eX O n))).a),OE (DF (IL l (eX O n))).r ((IR (eX O n)).cutH (DF (IL l (eX O n))).f (DF (IL l (eX O n))).a)]) (0+(eW n).toNat+2) lo hi any)) none) none)
 (cond (!any) (again (OX l O (0+(eW n).toNat) (min (DF (IL l (eX O n))).v (DF (IL l (eX O n))).v) (max (DF (IL l (eX O n))).v (DF (IL l (eX O n))).v) true))
 (again (OX l O (0+(eW n).toNat) (min lo (DF (IL l (eX O n))).v) (max hi (DF (IL l (eX O n))).v) any)))))) none) none) none)
 (k (.exit 0) (OX l O n lo hi any)):=by kernel_rfl
theorem Nf (N:Nat) (l O:LI) (n:Nat) (lo hi:Int) (any:Bool):kB N (.exit 0) (OX l O n lo hi any)=some (.tup [.int .i64 lo,.int .i64 hi],[]):=by kernel_rfl
theorem V0 (N:Nat) {l:LI} (hT:GC l 4=true) {b:Bx} (hb:b.good):∀ (c:Nat) (O:LI) (n:Nat) (lo hi:Int) (any:Bool),n≤O.length→EnI l b ⟨O.take n,lo,hi,any⟩→NV (O.take n) < c →
  DT (VC N) (DE VR [1,1,1,0,0,0]) kE c (OX l O n lo hi any) (kB N)=some (.tup [.int .i64 (HL l b),.int .i64 (HK l b)],[])
 | 0,_,_,_,_,_,_,_,h=>absurd h (by omega)
 | c+1,O,0,lo,hi,any,hn,h,hc=>by
  obtain ⟨e1,e2⟩:=Lx hT hb.emp hb.ok h rfl;replace e1:lo=HL l b:=e1;replace e2:hi=HK l b:=e2;rw [D2,Cp,show decide (ic (0 - 0) > 0)=false from rfl,DD,Nf,e1,e2]
 | c+1,O,j+1,lo,hi,any,hn,h,hc=>by
  have ht:=n3 hT;have hlen:(O.take (j+1)).length=j+1:=by rw [A8]; omega
  have hl:0 < (En.mk (O.take (j+1)) lo hi any).todo.length:=by show 0 < (O.take (j+1)).length; omega
  have hd:=h.depth ht;replace hd:(O.take (j+1)).length≤31:=hd;have hs:=Ma ht h hl;have hw:=Ly ht h hl;have htop:EN (O.take (j+1))=O.getD j default:=by
   unfold EN;rw [hlen,BO,BO,CI,BL (by omega)];rfl
  have hpop:FN (O.take (j+1))=O.take j:=by
   unfold FN;rw [hlen,List.take_take];congr 1;omega
  have ew:eW (j+1)=(j:Int):=by
   unfold eW;rw [show ic (j+1 - 0) - 1=(j:Int) by simp only [ic]; omega];exact EC (by omega) (by omega)
  have ej:0+(eW (j+1)).toNat=j:=by rw [ew]; omega
  have ex:eX O (j+1)=EN (O.take (j+1)):=by unfold eX; rw [ej,htop]
  have ha:=h.at_ _ _ (SH hl).2;replace ha:((((O.take (j+1)).length - 1:Nat)):Int)≤HC (EN (O.take (j+1)))∧HC (EN (O.take (j+1))) < ic l.length:=ha;have i1:decide (ic (j+1 - 0) > 0)=true:=AE (by simp only [ic]; omega);have i2:(decide (0≤eW (j+1))&&decide (eW (j+1) < ic (j+1 - 0)))=true:=by rw [ew,AE (by omega),AE (by simp only [ic]; omega)]; rfl
  have i3:(decide (0≤eW (j+1))&&decide (eW (j+1)≤ic (j+1 - 0)))=true:=by rw [ew,AE (by omega),AE (by simp only [ic]; omega)]; rfl
  rw [D2,Cp,i1,DC,i2,DC,i3,DC,ej,ex,AE (show 0≤HC (EN (O.take (j+1))) by omega),AE ha.2,B1,DC];unfold ZR at hs hw;simp only [EM,hpop] at hs hw;have eWdef:IL l (EN (O.take (j+1)))=(l.getD (HC (EN (O.take (j+1)))).toNat default).toInt:=rfl;rw [← eWdef] at hs hw;have hfk:(DF (IL l (EN (O.take (j+1))))).lf=false→HG (DF (IL l (EN (O.take (j+1))))).f=true:=fun hf=>by
   have hk:(HC (EN (O.take (j+1)))).toNat < l.length:=by have:=ha.2; simp only [ic] at this; omega
   have:=(ht.fork _ hk hf).1
   replace this:0≤(DF (IL l (EN (O.take (j+1))))).f∧(DF (IL l (EN (O.take (j+1))))).f < 4:=this;unfold HG;rw [AE this.1,AE (by omega)];rfl
  generalize IL l (EN (O.take (j+1)))=wd at hs hw hfk ⊢;generalize IR (EN (O.take (j+1)))=vb at hs hw ⊢;cases hnb:FU wd with
  | false=>
   rw [BB,DC];simp only [hnb,BB,Bool.true_or,CO] at hs hw;exact V0 N hT hb c O j lo hi any (by omega) hs (by omega)
  | true=>
   rw [A2,DD];simp only [hnb,A2,vaB] at hs hw;cases he:vb.emp with
   | true=>
    rw [DC];simp only [he,CO] at hs hw;exact V0 N hT hb c O j lo hi any (by omega) hs (by omega)
   | false=>
    rw [DD];simp only [he,B9] at hs hw;cases hlf:(DF wd).lf with
    | true=>
     rw [A2,DD];simp only [hlf,A2,B9] at hs hw;cases any with
     | false=>
      rw [BB,DC];exact V0 N hT hb c O j _ _ true (by omega) hs (by omega)
     | true=>
      rw [A2,DD];exact V0 N hT hb c O j _ _ true (by omega) hs (by omega)
    | false=>
     rw [BB,DC];simp only [hlf,BB,CO] at hs hw;have e2:∀ v1 v2:IV,(O.take j++[v1,v2]).take (j+2)=O.take j++[v1,v2]:=fun v1 v2=>CV (by simp only [AW,A8,AN,A7]; omega)
     rw [hfk hlf,DC,AE (show (j+2)*88≤D6 by unfold D6; omega),DC];refine V0 N hT hb c _ (j+2) lo hi any (by simp only [AW,A8,AN,A7]; omega) ?_ ?_
     ·rw [e2]; exact hs
     ·rw [e2]; omega
theorem zcc:DQ PR B0 158 XZ:=by
 refine D1 [(111,NK),(112,J0),(55,K4)] [(3,⟨[0,4,5,6,7,8,9],[500],[⟨.tmp 9,500,252,true,dW⟩]⟩)] XZ [[.z],[.z]] Tryz.func158 Qg ⟨fL,UR,WW,trivial⟩ ?_;intro vs r hwf h;unfold XZ at h;split at h
 ·rename_i l b;replace h:=IS h;obtain ⟨b,rfl,h⟩:=h;cases hg:(GC l 4&&FL b) with
  | false=>rw [hg] at h; simp [R.get] at h
  | true=>
  rw [hg,R.get_br,DC,R.get_ok] at h;rw [AH] at hg;refine ⟨3 ^ 31+1,(Xp (3 ^ 31+1) l b).trans ?_⟩;rw [← h];have hgd:=V4.1 hg.2;refine V0 (3 ^ 31+1) hg.1 hgd (3 ^ 31+1) [OE 0 b] 1 0 0 false (AY _) (Lz (n3 hg.1) hgd.ok) ?_;show NV [OE 0 b] < 3 ^ 31+1;unfold NV;simp only [AZ,CB,List.sum_cons,List.sum_nil,UZ];show 3 ^ 31+0 < 3 ^ 31+1;omega
 ·simp [R.get] at h
open Go Go.Proofs
def VD (N:Nat):Env:=DZ [(111,NK),(110,YS)] [(6,⟨[4,5,6,7,19,20,21],[500,501],[⟨.tmp 6,500,36,true,EV⟩,⟨.tmp 7,501,36,true,EV⟩]⟩)] 75 N
open Go Go.Proofs
set_option maxRecDepth 100000
def PF (l L:LI) (n:Nat) (out:LI) (m:Nat) (i:Int):St:=⟨[(4,.zs),(5,.bool false),(6,.row 500 0 n),(7,.row 501 0 m),(19,.list true EH l),(20,.int .i64 (ic l.length)),(21,.int .i64 i)],[(500,some (.row true 36 true EV L)),(501,some (.row true 36 true EV out))]⟩
abbrev kG:KP:=⟨[4,5,6,7,19,20,21],[500,501],[⟨.tmp 6,500,36,true,EV⟩,⟨.tmp 7,501,36,true,EV⟩]⟩
def lW (p:Int) (f:Nat→DH):DH:=cond (decide (p=ic 0)) (f 0) (cond (decide (p=ic 1)) (f 1) (cond (decide (p=ic 2)) (f 2) (cond (decide (p=ic 3)) (f 3) (cond (decide (p=ic 4)) (f 4) none))))
def JS (n:Nat):Int:=AA AB (ic (n - 0) - 1)
def pX (L:LI) (n:Nat):IV:=L.getD (0+(JS n).toNat) default
noncomputable abbrev dV (N:Nat):Out→St→DH:=DK 0 (DM (VD N) (DE VS [1,1,1,1,1]) (DP (VD N) none [.tmp 4,.tmp 5] [[.list true EV],[.bool]]))
theorem Yl (N:Nat) (l:LI) (b:Bx):DS (VD N) VS [.tmp 4,.tmp 5] [[.list true EV],[.bool]] [b.V,.list true EH l] =
 cond (!decide (MH l > 0)) (some (.tup [.list true EV [],.bool false],[])) (DT (VD N) (DE VS [1,1,1,1,0,1,0,0]) kG N (PF l [b.I] 1 [] 0 0) (dV N)):=by kernel_rfl
theorem Nq (N:Nat) (l L out:LI) (n m:Nat) (i:Int):dV N (.exit 0) (PF l L n out m i)=some (.tup [.list true EV (AK m out),.bool true],[]):=by kernel_rfl
theorem tY (N:Nat) (l L out:LI) (n m:Nat) (i:Int):dV N .ret (PF l L n out m i)=some (.tup [.list true EV [],.bool false],[]):=by kernel_rfl
theorem Cx (N:Nat) (l L out:LI) (n m:Nat) (i:Int) (again:St→DH) (k:Out→St→DH):E4 (VD N) (DE VS [1,1,1,1,0,1,0,0]) (PF l L n out m i) (EO again kG k) =
 cond (decide (i < ic l.length)) (cond (decide (0≤i)&&decide (i < ic l.length)) (cond (decide (0≤JS n)&&decide (JS n < ic (n - 0))) (cond (decide (0≤JS n)&&decide (JS n≤ic (n - 0)))
 (cond (HT (l.getD i.toNat default)) (cond (decide ((m+1)*80≤D6)) (again (PF l L (0+(JS n).toNat) (out.take m++[(DW (pX L n)).I]) (m+1) (E7 (i+1)))) none)
 (lW (FA (l.getD i.toNat default)) fun j=>cond (decide (FY (l.getD i.toNat default) < cI (pX L n) (2*j))) (k .ret (PF l L (0+(JS n).toNat) out m i))
 (lW (FA (l.getD i.toNat default)) fun j=>cond (decide (FY (l.getD i.toNat default)≥cI (pX L n) (2*j+1))) (k .ret (PF l L (0+(JS n).toNat) out m i))
 (cond (HG (FA (l.getD i.toNat default))) (cond (decide ((0+(JS n).toNat+2)*80≤D6))
 (again (PF l (L.take (0+(JS n).toNat)++[((DW (pX L n)).cutH (FA (l.getD i.toNat default)) (FY (l.getD i.toNat default))).I,((DW (pX L n)).cutL (FA (l.getD i.toNat default)) (FY (l.getD i.toNat default))).I]) (0+(JS n).toNat+2) out m (E7 (i+1)))) none) none)))) none) none) none)
 (k (.exit 0) (PF l L n out m i)):=by kernel_rfl
theorem xX {p:Int} {a:Nat} (h:p=(a:Int)) (ha:a < 5) (f:Nat→DH):lW p f=f a:=by
 subst h
 match a,ha with
 | 0,_=>rfl
 | 1,_=>rfl
 | 2,_=>rfl
 | 3,_=>rfl
 | 4,_=>rfl
 | n+5,h=>omega
theorem Ke (x:IV):∀ {a:Nat},a < 5→(DW x).g a=⟨cI x (2*a),cI x (2*a+1)⟩
 | 0,_=>rfl
 | 1,_=>rfl
 | 2,_=>rfl
 | 3,_=>rfl
 | 4,_=>rfl
 | n+5,h=>by omega
def mA (o:Option (List IV × LI)):DH:=match o with
 | some lo=>some (.tup [.list true EV lo.2,.bool true],[])
 | none=>some (.tup [.list true EV [],.bool false],[])
theorem mC (N:Nat) (l:LI) (hl:l.length≤65536):∀ (d c i:Nat) (L:LI) (n:Nat) (out:LI) (most:Int) (st:Int × Int),i+d=l.length→d < c→n≤L.length→n≤i+1→out.length≤i→JR (l.drop i) (ic n,most)=some st →
  DT (VD N) (DE VS [1,1,1,1,0,1,0,0]) kG c (PF l L n out out.length (i:Int)) (dV N)=mA (IE (l.drop i) (L.take n,out))
 | d,0,_,_,_,_,_,_,_,h,_,_,_,_=>absurd h (by omega)
 | 0,c+1,i,L,n,out,most,st,hd,_,_,_,_,_=>by
  rw [D2,Cx,JC (by omega),DD,CN (by omega),Nq,BS];rfl
 | d+1,c+1,i,L,n,out,most,st,hd,hc,hn,hn2,ho,hdp=>by
  have hi:i < l.length:=by omega
  rw [A9 hi,JR] at hdp;rw [D2,Cx,IN hi,DC,I0,B1,DC,JB hi,A9 hi,IE];have ei:E7 ((i:Int)+1)=((i+1:Nat):Int):=HJ (by omega);rw [ei];generalize l[i]=x at hdp ⊢;cases h1:MI (ic n,most) x with
  | none=>rw [h1] at hdp; cases hdp
  | some s1=>
   rw [h1] at hdp;obtain ⟨hne,hr,hcase⟩:=jD h1;obtain ⟨j,rfl⟩:∃ j,n=j+1:=⟨n - 1,by simp only [ic] at hne; omega⟩;have hlen:(L.take (j+1)).length=j+1:=by rw [A8]; omega
   have htop:EN (L.take (j+1))=L.getD j default:=by
    unfold EN;rw [hlen,BO,BO,CI,BL (by omega)];rfl
   have hpop:FN (L.take (j+1))=L.take j:=by
    unfold FN;rw [hlen,List.take_take];congr 1;omega
   have ew:JS (j+1)=(j:Int):=by
    unfold JS;rw [show ic (j+1 - 0) - 1=(j:Int) by simp only [ic]; omega];exact EC (by omega) (by omega)
   have ej:0+(JS (j+1)).toNat=j:=by rw [ew]; omega
   have ex:pX L (j+1)=EN (L.take (j+1)):=by unfold pX; rw [ej,htop]
   have i2:(decide (0≤JS (j+1))&&decide (JS (j+1) < ic (j+1 - 0)))=true:=by rw [ew,AE (by omega),AE (by simp only [ic]; omega)]; rfl
   have i3:(decide (0≤JS (j+1))&&decide (JS (j+1)≤ic (j+1 - 0)))=true:=by rw [ew,AE (by omega),AE (by simp only [ic]; omega)]; rfl
   have et:DR (L.take (j+1))=DW (EN (L.take (j+1))):=rfl;rw [i2,DC,i3,DC,ej,ex];unfold MM;simp only [hpop,et];generalize EN (L.take (j+1))=y;rcases hcase with ⟨hs,rfl⟩ | ⟨hs,rfl⟩
   ·rw [hs,DC,DC,AE (show (out.length+1)*80≤D6 by unfold D6; omega),DC,BS]
    have:=mC N l hl d c (i+1) L j (out++[(DW y).I]) most st (by omega) (by omega) (by omega) (by omega) (by simp only [AW,AN,A7]; omega) (by rw [show ic j=ic (j+1) - 1 by simp only [ic]; omega]; exact hdp)
    rw [show (out++[(DW y).I]).length=out.length+1 by simp] at this;exact this
   ·have hpl:=mO hr hs;obtain ⟨a,ha⟩:∃ a:Nat,FA x=(a:Int):=⟨(FA x).toNat,by omega⟩;have ha5:a < 5:=by omega
    rw [hs,DD,DD,xX ha ha5,xX ha ha5];have eg:=Ke y ha5;rw [show (FA x).toNat=a by omega,eg];show cond (decide (FY x < cI y (2*a))) _ _=mA (match cond (decide (FY x < cI y (2*a))||decide (FY x≥cI y (2*a+1))) none _ with | some st'=>IE (l.drop (i+1)) st' | none=>none);cases decide (FY x < cI y (2*a)) with
    | true=>rw [DC,tY,Bool.true_or,DC]; rfl
    | false=>
     rw [DD,vaB];cases decide (FY x≥cI y (2*a+1)) with
     | true=>rw [DC,tY,DC]; rfl
     | false=>
      have hin:HG (FA x)=true:=by unfold HG; rw [AE hpl.1,AE (by omega)]; rfl
      rw [DD,DD,hin,DC,AE (show (j+2)*80≤D6 by unfold D6; omega),DC];have e2:∀ v1 v2:IV,(L.take j++[v1,v2]).take (j+2)=L.take j++[v1,v2]:=fun v1 v2=>CV (by simp only [AW,A8,AN,A7]; omega)
      have:=mC N l hl d c (i+1) (L.take j++[((DW y).cutH (FA x) (FY x)).I,((DW y).cutL (FA x) (FY x)).I]) (j+2) out (max most (ic (j+1)+1)) st (by omega) (by omega) (by simp only [AW,A8,AN,A7]; omega) (by omega) (by omega) (by rw [show ic (j+2)=ic (j+1)+1 by simp only [ic]; omega]; exact hdp)
      rw [e2] at this;exact this
theorem zcL:DQ PR B0 67 YT:=by
 refine D1 [(111,NK),(110,YS)] [(6,⟨[4,5,6,7,19,20,21],[500,501],[⟨.tmp 6,500,36,true,EV⟩,⟨.tmp 7,501,36,true,EV⟩]⟩)] YT [[.list true [.z,.z,.z,.z,.z,.z,.z,.z,.z,.z]],[.bool]] Tryz.func67 Sd ⟨fL,zcK,trivial⟩ ?_;intro vs r hwf h;unfold YT at h;split at h
 ·rename_i b l;replace h:=IS h;obtain ⟨b,rfl,h⟩:=h;rw [R.get_br] at h;refine ⟨l.length+1,(Yl (l.length+1) l b).trans ?_⟩;cases hd:decide (MH l > 0) with
  | false=>
   have e:LD b l=none:=by unfold LD; rw [hd,DD]
   rw [e] at h;rw [BB,DC];exact h
  | true=>
   obtain ⟨st,hst⟩:=tE (A1 hd);have hl:l.length≤65536:=by
    have:=A1 hd
    unfold MH at this;by_cases hc:ic l.length > 65536
    ·rw [AE hc,DC] at this; omega
    ·simp only [ic] at hc; omega
   have run:=mC (l.length+1) l hl l.length (l.length+1) 0 [b.I] 1 [] 1 st (by omega) (by omega) (AY _) (by omega) (AY _) hst;rw [B4] at run;have e:LD b l=(IE l ([b.I],[])).map (·.2):=by unfold LD; rw [hd,DC]
   rw [A2,DD];refine Eq.trans run ?_;show mA (IE l ([b.I],[]))=_;rw [e] at h;cases hp:IE l ([b.I],[]) with
   | none=>rw [hp] at h; exact h
   | some lo=>rw [hp] at h; exact h
 ·simp [R.get] at h
end Go.FM
