/-
  A small machine that reckons what a call comes to; the functions of the program, one by one. (WHAT span's, box's, couple's, leaves', bound's, grid's, quer, NORMAL FORMS: what the functions' runs come to (written by a, NORMAL FORMS: what the functions' runs come to (written by a, and so on.)
-/
import Derived.Test.YtihliihljmfhlaaGreatDoorRc
set_option linter.all false
set_option maxRecDepth 100000
open Array renaming getElem?_eq_some_iff→DI,getElem?_toList→vaC,getElem?_modify→vaN
open Bool renaming and_eq_true→AP,not_true→A9,true_and→BE,not_false→BG,false_and→BP,and_self→BX,not_eq_true'→CC,and_true→CJ,and_false→DB,or_eq_false_iff→vaa,eq_iff_iff→vac,false_or→vam,or_eq_true→vap,true→AC,false→AD
open ByteArray renaming size→AR,size_append→A7,empty→CQ,size_push→va6
open Decidable renaming decide→AE
open Go.Addr.mk renaming injEq→DG
open Go.IntKind renaming wrap→AI,i64→AJ
open Go.Lib renaming compactUpTo→vbq
open Go.ResultVar renaming tmp→B9,cell→vbm
open Go.Sort renaming ahead→vbF
open Go.Value renaming ownBlock→CO
open Go.Value.slice renaming injEq→CW
open Go.World renaming cell?→vaH
open Int renaming toNat→AM,toNat_natCast→BH,le_refl→DO
open List renaming length→AN,getD→AQ,take→AU,length_cons→AV,mem_cons→AY,mem_cons_self→AZ,length_append→A2,drop→A3,mem_append→A4,mem_cons_of_mem→A6,map_cons→A8,drop_eq_getElem_cons→BD,getElem?_eq_getElem→BF,length_take→BJ,getD_eq_getElem?_getD→BK,length_nil→BL,map→BQ,replicate→BU,take_length→BW,getElem?_eq_some_iff→B2,getElem?_eq_none→B4,mem_singleton→B7,length_map→B8,drop_zero→CA,getElem?_cons_zero→CB,getElem?_map→CK,map_nil→CN,mem_map→CV,all_eq_true→CZ,cons_append→C0,drop_of_length_le→C1,getElem?_take→C2,drop_length→C4,getElem?_cons_succ→C5,take_of_length_le→C9,getElem_mem→DC,length_singleton→DD,nil_append→DK,length_set→DP,mem_of_getElem?→vab,append_nil→vad,getElem?_append→vai,all_cons→van,flatMap_cons→var,mem_of_mem_take→vav,append_assoc→vax,range→vaA,mem_range→vaF,set→vaM,map_append→va5,range'→va8,filter_cons→vba,sum_cons→vbc,pairwise_cons→vbC
open List.Perm renaming refl→vbL
open Nat renaming le_of_ble_eq_true→AX,le_refl→A5,zero_add→BS,blt→BV,beq→BZ,ble→CF,zero_le→CG,ble_eq_true_of_le→CU,le_trans→DF,add_zero→DH,lt_or_ge→DN,min_eq_left→vau,sub_zero→vay,pow_le_pow_right→vaS,add_assoc→vaW,beq_refl→vbl
open Option renaming some→AA,none→AB
open Option.some renaming injEq→AK,inj→CI
open Prod.mk renaming injEq→A1
namespace Go.FM
open Go
def Nd.cs(x:Nd):List FM.V:=[.bool x.lf,.i x.v,.i x.f,.i x.a,.i x.l,.i x.r]
def Nd.V(x:Nd):FM.V:=.agg x.cs
def Md.cs(m:Md):List FM.V:=[.i m.d,.i m.c,.i m.b0,.i m.b1,.i m.b2,.list AC [.z,.list AD [.int .u64]] m.ts]
def Md.V(m:Md):FM.V:=.agg m.cs
def Qy.cs(q:Qy):List FM.V:=[.i q.k,.i q.c,.i q.a0,.i q.b0,.i q.a1,.i q.b1,.i q.a2,.i q.b2,.i q.a3,.i q.b3,.i q.a4,.i q.b4,.i q.lo,.i q.hi,.i q.ft,.bool q.fl,.i q.bu]
def Vd.cs(v:Vd):List FM.V:=[.i v.kind,.list AC [.bool,.z,.z] v.proof,.i v.w0,.i v.w1,.i v.w2,.i v.w3,.i v.twin,.i v.spent]
def Ak.cs(a:Ak):List FM.V:=[.i a.k,.i a.c,.i a.lo,.i a.size,.i a.ft,.i a.bu,.bool a.fl,.list AD [.z] a.sp]
def Ak.V(a:Ak):FM.V:=.agg a.cs
structure Sp where
 lo:Int
 hi:Int
def Sp.cs(s:Sp):List FM.V:=[.i s.lo,.i s.hi]
def Sp.V(s:Sp):FM.V:=.agg s.cs
structure Bx where
 s0:Sp
 s1:Sp
 s2:Sp
 s3:Sp
 s4:Sp
def Bx.g(b:Bx):Nat->Sp
 |0=>b.s0
 |1=>b.s1
 |2=>b.s2
 |3=>b.s3
 |_=>b.s4
def Bx.p(b:Bx)(s:Sp):Nat->Bx
 |0=>⟨s,b.s1,b.s2,b.s3,b.s4⟩
 |1=>⟨b.s0,s,b.s2,b.s3,b.s4⟩
 |2=>⟨b.s0,b.s1,s,b.s3,b.s4⟩
 |3=>⟨b.s0,b.s1,b.s2,s,b.s4⟩
 |_=>⟨b.s0,b.s1,b.s2,b.s3,s⟩
def Bx.cs(b:Bx):List FM.V:=[.i b.s0.lo,.i b.s0.hi,.i b.s1.lo,.i b.s1.hi,.i b.s2.lo,.i b.s2.hi,.i b.s3.lo,.i b.s3.hi,.i b.s4.lo,.i b.s4.hi]
def Bx.V(b:Bx):FM.V:=.agg b.cs
structure Pt where
 p0:Int
 p1:Int
 p2:Int
 p3:Int
def Pt.cs(p:Pt):List FM.V:=[.i p.p0,.i p.p1,.i p.p2,.i p.p3]
def Pt.V(p:Pt):FM.V:=.agg p.cs
def Pt.g(p:Pt):Nat->Int
 |0=>p.p0
 |1=>p.p1
 |2=>p.p2
 |_=>p.p3
def spOf?:List FM.V->Option Sp
 |[.i a,.i b]=>AA ⟨a,b⟩
 |_=>AB
def ptOf?:List FM.V->Option Pt
 |[.i a,.i b,.i c,.i d]=>AA ⟨a,b,c,d⟩
 |_=>AB
def bxOf?:List FM.V->Option Bx
 |[.i a0,.i b0,.i a1,.i b1,.i a2,.i b2,.i a3,.i b3,.i a4,.i b4]=>AA ⟨⟨a0,b0⟩,⟨a1,b1⟩,⟨a2,b2⟩,⟨a3,b3⟩,⟨a4,b4⟩⟩
 |_=>AB
def mdOf?:List FM.V->Option Md
 |[.i d,.i c,.i b0,.i b1,.i b2,.list AC [.z,.list AD [.int .u64]] ts]=>AA ⟨d,c,b0,b1,b2,ts⟩
 |_=>AB
def qyOf?:List FM.V->Option Qy
 |[.i k,.i c,.i a0,.i b0,.i a1,.i b1,.i a2,.i b2,.i a3,.i b3,.i a4,.i b4,.i lo,.i hi,.i ft,.bool fl,.i bu]=>
  AA ⟨k,c,a0,b0,a1,b1,a2,b2,a3,b3,a4,b4,lo,hi,ft,fl,bu⟩
 |_=>AB
def vdOf?:List FM.V->Option Vd
 |[.i k,.list AC [.bool,.z,.z] p,.i a,.i b,.i c,.i d,.i t,.i s]=>AA ⟨k,p,a,b,c,d,t,s⟩
 |_=>AB
def SH{α:Type}(of:List FM.V->Option α)(v:FM.V)(k:α->R):R:=
 match v with
 |.agg l=>match of l with|some x=>k x|none=>.no
 |_=>.no
abbrev bV(v:FM.V)(k:Sp->R):R:=SH spOf? v k
abbrev QD(v:FM.V)(k:Pt->R):R:=SH ptOf? v k
abbrev HY(v:FM.V)(k:Bx->R):R:=SH bxOf? v k
abbrev ID(v:FM.V)(k:Md->R):R:=SH mdOf? v k
abbrev IT(v:FM.V)(k:Qy->R):R:=SH qyOf? v k
abbrev Vs(v:FM.V)(k:Vd->R):R:=SH vdOf? v k
theorem VZ{α:Type}{of:List FM.V->Option α}{v:FM.V}{k:α->R}{z:FM.V×List (List FM.V)}(h:(SH of v k).get=AA z):∃l x,v=.agg l/\of l=AA x/\(k x).get=AA z:=by
 unfold SH at h;split at h
 .rename_i l;split at h
  .rename_i x hx;exact⟨l,x,rfl,hx,h⟩
  .simp[R.get]at h
 .simp[R.get]at h
theorem jZ{v:FM.V}{k:Sp->R}{z:FM.V×List (List FM.V)}(h:(bV v k).get=AA z):∃x:Sp,v=x.V/\(k x).get=AA z:=by
 obtain⟨l,x,rfl,hx,h⟩:=VZ h;unfold spOf? at hx;split at hx
 .simp only[AK]at hx;subst hx;exact⟨_,rfl,h⟩
 .cases hx
theorem Q7{v:FM.V}{k:Pt->R}{z:FM.V×List (List FM.V)}(h:(QD v k).get=AA z):∃x:Pt,v=x.V/\(k x).get=AA z:=by
 obtain⟨l,x,rfl,hx,h⟩:=VZ h;unfold ptOf? at hx;split at hx
 .simp only[AK]at hx;subst hx;exact⟨_,rfl,h⟩
 .cases hx
theorem H4{v:FM.V}{k:Bx->R}{z:FM.V×List (List FM.V)}(h:(HY v k).get=AA z):∃x:Bx,v=x.V/\(k x).get=AA z:=by
 obtain⟨l,x,rfl,hx,h⟩:=VZ h;unfold bxOf? at hx;split at hx
 .simp only[AK]at hx;subst hx;exact⟨_,rfl,h⟩
 .cases hx
theorem IH{v:FM.V}{k:Md->R}{z:FM.V×List (List FM.V)}(h:(ID v k).get=AA z):∃x:Md,v=x.V/\(k x).get=AA z:=by
 obtain⟨l,x,rfl,hx,h⟩:=VZ h;unfold mdOf? at hx;split at hx
 .simp only[AK]at hx;subst hx;exact⟨_,rfl,h⟩
 .cases hx
theorem I2{v:FM.V}{k:Qy->R}{z:FM.V×List (List FM.V)}(h:(IT v k).get=AA z):∃x:Qy,v=x.V/\(k x).get=AA z:=by
 obtain⟨l,x,rfl,hx,h⟩:=VZ h;unfold qyOf? at hx;split at hx
 .simp only[AK]at hx;subst hx;exact⟨_,rfl,h⟩
 .cases hx
theorem zfR{v:FM.V}{k:Vd->R}{z:FM.V×List (List FM.V)}(h:(Vs v k).get=AA z):∃x:Vd,v=x.V/\(k x).get=AA z:=by
 obtain⟨l,x,rfl,hx,h⟩:=VZ h;unfold vdOf? at hx;split at hx
 .simp only[AK]at hx;subst hx;exact⟨_,rfl,h⟩
 .cases hx
def Sp.emp(s:Sp):Bool:=AE (s.lo>s.hi)
def Sp.has(s:Sp)(n:Int):Bool:=AE (s.lo<=n)&&AE (n<=s.hi)
def LT(lo hi:Int):Sp:=cond (AE (lo>hi)) ⟨1,0⟩ ⟨lo,hi⟩
def Sp.meet(a b:Sp):Sp:=LT (max a.lo b.lo) (min a.hi b.hi)
def Sp.cutL(s:Sp)(a:Int):Sp:=LT s.lo (min s.hi a)
def Sp.cutH(s:Sp)(a:Int):Sp:=cond (AE (a>=s.hi)) ⟨1,0⟩ (LT (max s.lo (D6 (a+1))) s.hi)
def W5:D5
 |[]=>.ok (.agg [.i 1,.i 0]) []
 |_=>.no
def fH:D5
 |[.i lo,.i hi]=>.ok (LT lo hi).V []
 |_=>.no
def W3:D5
 |[s]=>bV s λs=>.ok (.bool (s.emp)) []
 |_=>.no
def W4:D5
 |[s,.i n]=>bV s λs=>.ok (.bool (s.has n)) []
 |_=>.no
def kC:D5
 |[s,.i n]=>bV s λs=>.ok (.tup [(s.cutL n).V,(s.cutH n).V]) []
 |_=>.no
def Bx.I(b:Bx):IV:=.agg [.int b.s0.lo,.int b.s0.hi,.int b.s1.lo,.int b.s1.hi,.int b.s2.lo,.int b.s2.hi,.int b.s3.lo,.int b.s3.hi,.int b.s4.lo,.int b.s4.hi]
abbrev cI(x:IV)(j:Nat):Int:=(x.cell j).toInt
def EC(x:IV):Bx:=⟨⟨cI x 0,cI x 1⟩,⟨cI x 2,cI x 3⟩,⟨cI x 4,cI x 5⟩,⟨cI x 6,cI x 7⟩,⟨cI x 8,cI x 9⟩⟩
abbrev E5:List Kd:=[.z,.z,.z,.z,.z,.z,.z,.z,.z,.z]
def Bx.emp(b:Bx):Bool:=b.s0.emp||(b.s1.emp||(b.s2.emp||(b.s3.emp||b.s4.emp)))
def QJ:Bx:=⟨⟨0,0⟩,⟨0,0⟩,⟨0,0⟩,⟨0,0⟩,⟨0,0⟩⟩
def GZ(i:Int):Bool:=AE (0<=i)&&AE (i<5)
def Bx.cutL(b:Bx)(i a:Int):Bx:=b.p ((b.g i.toNat).cutL a) i.toNat
def Bx.cutH(b:Bx)(i a:Int):Bx:=b.p ((b.g i.toNat).cutH a) i.toNat
def Bx.meet(a b:Bx):Bx:=⟨a.s0.meet b.s0,a.s1.meet b.s1,a.s2.meet b.s2,a.s3.meet b.s3,a.s4.meet b.s4⟩
def Pt.p(p:Pt)(x:Int):Nat->Pt
 |0=>⟨x,p.p1,p.p2,p.p3⟩
 |1=>⟨p.p0,x,p.p2,p.p3⟩
 |2=>⟨p.p0,p.p1,x,p.p3⟩
 |_=>⟨p.p0,p.p1,p.p2,x⟩
def Bx.low(b:Bx):Pt:=⟨b.s0.lo,b.s1.lo,b.s2.lo,b.s3.lo⟩
def Bx.has(b:Bx)(p:Pt)(t:Int):Bool:=b.s0.has p.p0&&(b.s1.has p.p1&&(b.s2.has p.p2&&(b.s3.has p.p3&&b.s4.has t)))
def LV:D5
 |[b]=>HY b λb=>.ok (.bool (b.emp)) []
 |_=>.no
def cT:D5
 |[b]=>HY b λb=>.ok b.low.V []
 |_=>.no
def cS:D5
 |[b,p,.i t]=>HY b λb=>QD p λp=>.ok (.bool (b.has p t)) []
 |_=>.no
def QG:D5
 |[b,.i i,.i a]=>HY b λb=>.br (GZ i) (.ok (.tup [(b.cutL i a).V,(b.cutH i a).V]) []) .no
 |_=>.no
def HA(l:LI)(p:Pt):Nat->Int->Int×Nd
 |0,_=>(-1,Nd.zero)
 |n+1,a=>
  cond (AE (a>=ic l.length)) (-1,Nd.zero)
   (cond (!(FJ (l.getD a.toNat default).toInt)) (-1,Nd.zero)
    (cond (DV (l.getD a.toNat default).toInt).lf (a,DV (l.getD a.toNat default).toInt)
     (cond (AE (p.g (DV (l.getD a.toNat default).toInt).f.toNat<=(DV (l.getD a.toNat default).toInt).a)) (HA l p n (DV (l.getD a.toNat default).toInt).l) (HA l p n (DV (l.getD a.toNat default).toInt).r))))
def XT(l:LI)(p:Pt):Int:=(HA l p 31 0).1
def gN(l:LI)(p:Pt):Nd:=(HA l p 31 0).2
def fM:D5
 |[.list AD [.int .u64] l,p]=>QD p λp=>.ok (.tup [.i (XT l p),(gN l p).V]) []
 |_=>.no
def G1(l:LI)(p:Pt):Int:=(gN l p).v
def fL:D5
 |[.list AD [.int .u64] l,p]=>QD p λp=>.ok (.i (G1 l p)) []
 |_=>.no
def KU(m:Md)(c:Int):Int:=cond (c==0) m.b0 (cond (c==1) m.b1 m.b2)
abbrev SE(t:IV):Int:=cI t 0
abbrev EU(t:IV):LI:=(t.cell 1).toList
def OU(c:Int)(p:Pt):LI->Int->Int
 |[],s=>s
 |t::r,s=>OU c p r (cond (SE t==c) (s+G1 (EU t) p) s)
def GR(m:Md)(c:Int):Bool:=AE (0<=c)&&AE (c<m.c)
def eG:D5
 |[m,.i k,p]=>ID m λm=>QD p λp=>.br (ET m&&GR m k) (.ok (.i (OU k p m.ts (KU m k))) []) .no
 |_=>.no
def D3(m:Md)(k:Int)(p:Pt):Int:=cond (ET m&&GR m k) (OU k p m.ts (KU m k)) 0
def eD:D5
 |[m,.i k,p]=>ID m λm=>QD p λp=>.ok (.i (D3 m k p)) []
 |_=>.no
def XX(x:Int):List Int->List Int
 |[]=>[x]
 |y::r=>cond (AE (x<=y)) (x::y::r) (y::XX x r)
def LR:List Int->List Int
 |[]=>[]
 |x::r=>XX x (LR r)
def KW:Int->List Int->List Int
 |_,[]=>[]
 |p,x::r=>cond (x==p) (KW x r) (x::KW x r)
def JU:List Int->List Int
 |[]=>[]
 |x::r=>x::KW x r
def JR(f:Int)(w:IV):List Int:=cond (!(DV w.toInt).lf&&(DV w.toInt).f==f) [(DV w.toInt).a] []
def JH(ts:LI)(f:Int):List Int:=ts.flatMap λt=>(EU t).flatMap (JR f)
def J1(ts:LI)(f:Int):List Int:=JU (LR (JH ts f))
def iZ(l:List Int):LI:=l.map IV.int
def eE:D5
 |[m,.i f]=>ID m λm=>.br (ET m) (.ok (.vec 3 AD [.z] (iZ (J1 m.ts f))) []) .no
 |_=>.no
def lS:Ip:=⟨3,AD,λrs l=>match rs with
 |[]=>AA (iZ (LR (l.map IV.toInt)))
 |_=>AB⟩
def lQ:Ip:=⟨3,AC,λrs l=>match rs with
 |[]=>AA (iZ (JU (l.map IV.toInt)))
 |_=>AB⟩
def LK(a b:Int)(l:List Int):List Int:=l.filter λt=>!(AE (t<a)||decide (t>=b))
def lR:Ip:=⟨3,AC,λrs l=>match rs with
 |[.clo f [.bor [.i a,.i b]]]=>cond (BZ f 152) (AA (iZ (LK a b (l.map IV.toInt)))) AB
 |_=>AB⟩
def Qy.bx(q:Qy):Bx:=⟨⟨q.a0,q.b0⟩,⟨q.a1,q.b1⟩,⟨q.a2,q.b2⟩,⟨q.a3,q.b3⟩,⟨q.a4,q.b4⟩⟩
def IB(d i:Int)(s:Sp):Bool:=!(AE (i>=d)&&!((s.lo==0)&&(s.hi==0)))&&(!s.emp&&(EV s.lo&&EV s.hi))
def QW(b:Bx)(d:Int):Bool:=IB d 0 b.s0&&(IB d 1 b.s1&&(IB d 2 b.s2&&(IB d 3 b.s3&&IB d 4 b.s4)))
def e9:D5
 |[b,.i d]=>HY b λb=>.ok (.bool (QW b d)) []
 |_=>.no
def MR(m:Md)(q:Qy):Bool:=
 cond (q.k==1) (AE (q.lo<=q.hi)&&((q.ft==0)&&!q.fl))
  (cond (q.k==2) (AE (m.c>=2)&&((q.lo==0)&&((q.hi==0)&&((q.ft==0)&&!q.fl))))
   (cond (q.k==3) (AE (q.ft>=0)&&(AE (q.ft<m.d)&&((q.lo==0)&&(q.hi==0)))) AD))
def E8(m:Md)(q:Qy):Bool:=ET m&&(AE (q.c>=0)&&(AE (q.c<m.c)&&(AE (q.bu>=0)&&(AE (q.bu<=65536)&&(QW q.bx m.d&&MR m q)))))
def F6(q:Qy):Bool:=(q.k==3)&&(AE (q.ft>=0)&&AE (q.ft<4))
def GG(q:Qy):Bx:=q.bx.p (cond (F6 q) (q.bx.g q.ft.toNat) ⟨0,0⟩) 4
def IA(q:Qy)(p:Pt)(t:Int):Pt:=cond (F6 q) (p.p t q.ft.toNat) p
def iQ(m:Md)(q:Qy)(p:Pt)(own:Int):Bool:=(vaA m.c.toNat).any λc=>!((c:Int)==q.c)&&AE (D3 m (c:Int) p>=own)
def HK(m:Md)(q:Qy)(p:Pt)(t:Int):Bool:=
 E8 m q&&
  cond (q.k==1) (!(Sp.has ⟨q.lo,q.hi⟩ (D3 m q.c p)))
   (cond (q.k==2) (iQ m q p (D3 m q.c p))
    (cond (AE (p.g q.ft.toNat>=t)) AD
     (cond q.fl (AE (D3 m q.c (IA q p t)>D3 m q.c p)) (AE (D3 m q.c (IA q p t)<D3 m q.c p)))))
def K0(n:Nd)(i:Nat)(own:LI):LI:=
 cond n.lf own ((own.set n.l.toNat ((EC (own.getD i default)).cutL n.f n.a).I).set n.r.toNat ((EC (own.getD i default)).cutH n.f n.a).I)
def YI(b:Bx)(v:Int):IV:=.agg [.int b.s0.lo,.int b.s0.hi,.int b.s1.lo,.int b.s1.hi,.int b.s2.lo,.int b.s2.hi,.int b.s3.lo,.int b.s3.hi,.int b.s4.lo,.int b.s4.hi,.int v]
abbrev FT(x:IV):Int:=cI x 10
abbrev I7:List Kd:=[.z,.z,.z,.z,.z,.z,.z,.z,.z,.z,.z]
def JW:LI->Nat->LI->LI->LI
 |[],_,_,out=>out
 |w::r,i,own,out=>JW r (i+1) (K0 (DV w.toInt) i own) (cond ((DV w.toInt).lf&&!(EC (own.getD i default)).emp) (out++[YI (EC (own.getD i default)) (DV w.toInt).v]) out)
def GS(l:LI)(b:Bx):LI:=cond (F5 l 4&&!b.emp) (JW l 0 ((BU l.length QJ.I).set 0 b.I) []) []
def eC:D5
 |[.list AD [.int .u64] l,b]=>HY b λb=>.ok (.list AC I7 (GS l b)) []
 |_=>.no
def MX:LI->Int->Int
 |[],a=>a
 |x::r,a=>MX r (min a (FT x))
def MV:LI->Int->Int
 |[],a=>a
 |x::r,a=>MV r (max a (FT x))
def TT(ps:LI):Int:=MX ps (FT (ps.getD 0 default))
def TS(ps:LI):Int:=MV ps (FT (ps.getD 0 default))
def P7(l:LI)(b:Bx):Bool:=!((GS l b).isEmpty)
def G8(l:LI)(b:Bx):Int:=cond (P7 l b) (TT (GS l b)) 0
def G7(l:LI)(b:Bx):Int:=cond (P7 l b) (TS (GS l b)) 0
def cR:D5
 |[.list AD [.int .u64] l,b]=>HY b λb=>.ok (.tup [.i (G8 l b),.i (G7 l b),.bool (P7 l b)]) []
 |_=>.no
def I1(h:LI->Int)(c:Int):LI->Int->Int
 |[],s=>s
 |t::r,s=>I1 h c r (cond (SE t==c) (s+h (EU t)) s)
def F9(m:Md)(c:Int)(b:Bx):Bool:=ET m&&(GR m c&&!b.emp)
def EK(m:Md)(c:Int)(b:Bx):Int:=cond (F9 m c b) (I1 (λl=>G8 l b) c m.ts (KU m c)) 0
def EE(m:Md)(c:Int)(b:Bx):Int:=cond (F9 m c b) (I1 (λl=>G7 l b) c m.ts (KU m c)) 0
def SS:D5
 |[m,.i k,b]=>ID m λm=>HY b λb=>.ok (.tup [.i (EK m k b),.i (EE m k b),.bool (F9 m k b)]) []
 |_=>.no
def NH(m:Md)(c lo:Int)(b:Bx):Nat->Int->Int->Bool->Int
 |0,_,a,_=>a
 |n+1,i,a,z=>cond (i==c) (NH m c lo b n (i+1) a z)
  (cond (!z||decide (lo-EE m i b<a)) (NH m c lo b n (i+1) (lo-EE m i b) AC) (NH m c lo b n (i+1) a z))
def MW(m:Md)(c:Int)(b:Bx):Bool:=F9 m c b&&AE (m.c>=2)
def TL(m:Md)(c:Int)(b:Bx):Int:=cond (MW m c b) (NH m c (EK m c b) b m.c.toNat 0 0 AD) 0
def cQ:D5
 |[m,.i k,b]=>ID m λm=>HY b λb=>.ok (.tup [.i (TL m k b),.bool (MW m k b)]) []
 |_=>.no
def JV(q:Qy)(b:Bx):Bx:=cond (F6 q) (b.p ⟨0,0⟩ 4) b
def J0(q:Qy)(b:Bx):Bx:=cond (F6 q) ((b.p b.s4 q.ft.toNat).p ⟨0,0⟩ 4) b
def P1(q:Qy)(b:Bx):Bool:=F6 q&&(!b.emp&&AE ((b.g q.ft.toNat).lo<b.s4.hi))
def KV(m:Md)(q:Qy)(b:Bx):Bool:=F6 q&&(F9 m q.c (JV q b)&&F9 m q.c (J0 q b))
def RN(m:Md)(q:Qy)(b:Bx):Int:=cond (KV m q b) (EK m q.c (J0 q b)-EE m q.c (JV q b)) 0
def RM(m:Md)(q:Qy)(b:Bx):Int:=cond (KV m q b) (EE m q.c (J0 q b)-EK m q.c (JV q b)) 0
def GB(m:Md)(q:Qy)(b:Bx):Bool:=
 E8 m q&&
  cond b.emp AC
   (cond (q.k==1) (F9 m q.c b&&(AE (q.lo<=EK m q.c b)&&AE (EE m q.c b<=q.hi)))
    (cond (q.k==2) (MW m q.c b&&AE (TL m q.c b>0))
     (cond (!(P1 q b)) AC
      (cond q.fl (KV m q b&&AE (RM m q b<=0)) (KV m q b&&AE (RN m q b>=0))))))
def IJ(q:Qy)(i:Int):Int:=cond (AE (i>=0)&&AE (i<4)) i (cond ((i==4)&&(q.k==3)) q.ft (-1))
def E1(m:Md)(q:Qy)(b:Bx)(i:Nat):List Int:=
 cond (AE (IJ q (i:Int)<0)) [] (LK (b.g i).lo (b.g i).hi (J1 m.ts (IJ q (i:Int))))
def KG(m:Md)(q:Qy)(b:Bx):Nat->Nat->Option (Int×Int)
 |0,_=>AB
 |n+1,i=>cond (AE ((E1 m q b i).length>0)) (AA ((i:Int),(E1 m q b i).getD (((E1 m q b i).length-1)/2) 0)) (KG m q b n (i+1))
def EQ(m:Md)(q:Qy)(b:Bx):Option (Int×Int):=KG m q b 5 0
def eZ:D5
 |[m,q]=>ID m λm=>IT q λq=>.ok (.bool (MR m q)) []
 |_=>.no
def OK:D5
 |[m,q]=>ID m λm=>IT q λq=>.ok (.bool (E8 m q)) []
 |_=>.no
def W2:D5
 |[q]=>IT q λq=>.ok (.bool (F6 q)) []
 |_=>.no
def QH:D5
 |[q]=>IT q λq=>.ok (.bool (F6 q)) []
 |_=>.no
def W1:D5
 |[q]=>IT q λq=>.ok (GG q).V []
 |_=>.no
def eY:D5
 |[q,p,.i t]=>IT q λq=>QD p λp=>.ok (IA q p t).V []
 |_=>.no
def W0:D5
 |[m,q,p,.i t]=>ID m λm=>IT q λq=>QD p λp=>.ok (.bool (HK m q p t)) []
 |_=>.no
def dU:D5
 |[q,b]=>IT q λq=>HY b λb=>.ok (JV q b).V []
 |_=>.no
def dW:D5
 |[q,b]=>IT q λq=>HY b λb=>.ok (J0 q b).V []
 |_=>.no
def dV:D5
 |[q,b]=>IT q λq=>HY b λb=>.ok (.bool (P1 q b)) []
 |_=>.no
def dT:D5
 |[m,q,b]=>ID m λm=>IT q λq=>HY b λb=>.ok (.tup [.i (RN m q b),.i (RM m q b),.bool (KV m q b)]) []
 |_=>.no
def dY:D5
 |[m,q,b]=>ID m λm=>IT q λq=>HY b λb=>.ok (.bool (GB m q b)) []
 |_=>.no
def dZ:D5
 |[b]=>HY b λb=>.ok (.tup [b.low.V,.i b.s4.hi]) []
 |_=>.no
def d8:D5
 |[q,.i i]=>IT q λq=>.ok (.i (IJ q i)) []
 |_=>.no
def d7:D5
 |[m,q,b,.i i]=>ID m λm=>IT q λq=>HY b λb=>.br (ET m&&GZ i) (.ok (.list AD [.z] (iZ (E1 m q b i.toNat))) []) .no
 |_=>.no
def HX(o:Option (Int×Int)):Int:=match o with|none=>0|some (i,_)=>i
def HD(o:Option (Int×Int)):Int:=match o with|none=>0|some (_,a)=>a
def d6:D5
 |[m,q,b]=>ID m λm=>IT q λq=>HY b λb=>.br (ET m) (.ok (.tup [.i (HX (EQ m q b)),.i (HD (EQ m q b)),.bool (EQ m q b).isSome]) []) .no
 |_=>.no
structure Sr where
 left:LI
 proof:LI
 v:Vd
 spent:Int
def JN(s:Bool)(p a:Int):IV:=.agg [.bool s,.int p,.int a]
def EA(l:LI):Bx:=EC (l.getD (l.length-1) default)
def FR(l:LI):LI:=l.take (l.length-1)
def FF(m:Md)(q:Qy)(s:Sr):Sr:=
 cond (GB m q (EA s.left)) ⟨FR s.left,s.proof++[JN AC 0 0],cond (ic (s.left.length-1)==0) ⟨1,s.proof++[JN AC 0 0],0,0,0,0,0,0⟩ s.v,s.spent+1⟩
  (cond (HK m q (EA s.left).low (EA s.left).s4.hi) ⟨FR s.left,s.proof,⟨2,[],(EA s.left).s0.lo,(EA s.left).s1.lo,(EA s.left).s2.lo,(EA s.left).s3.lo,(EA s.left).s4.hi,0⟩,s.spent+1⟩
   (cond (EQ m q (EA s.left)).isSome
    ⟨FR s.left++[((EA s.left).cutH (HX (EQ m q (EA s.left))) (HD (EQ m q (EA s.left)))).I,((EA s.left).cutL (HX (EQ m q (EA s.left))) (HD (EQ m q (EA s.left)))).I],
     s.proof++[JN AD (HX (EQ m q (EA s.left))) (HD (EQ m q (EA s.left)))],s.v,s.spent+1⟩
    ⟨FR s.left,s.proof,⟨3,[],0,0,0,0,0,0⟩,s.spent+1⟩))
def H8(q:Qy)(s:Sr):Bool:=!(s.v.kind==0)||decide (s.spent>=q.bu)
def I9(m:Md)(q:Qy):Nat->Sr->Sr
 |0,s=>s
 |n+1,s=>cond (H8 q s) s (I9 m q n (FF m q s))
def O2(m:Md)(q:Qy):Sr:=cond (E8 m q) ⟨[(GG q).I],[],Vd.none,0⟩ ⟨[],[],⟨4,[],0,0,0,0,0,0⟩,0⟩
def GH(s:Sr):Vd:=⟨cond (s.v.kind==0) 3 s.v.kind,s.v.proof,s.v.w0,s.v.w1,s.v.w2,s.v.w3,s.v.twin,s.spent⟩
def FP(m:Md)(q:Qy):Vd:=GH (I9 m q (q.bu.toNat+1) (O2 m q))
def GE(m:Md)(q:Qy)(r:List FM.V):List FM.V:=m.cs++(q.cs++r)
def seOf?(l:List FM.V):Option (Md×Qy×List FM.V):=
 match mdOf? (l.take 6),qyOf? ((l.drop 6).take 17)with
 |some m,AA q=>AA (m,q,(l.drop 6).drop 17)
 |_,_=>AB
abbrev sP(l:LI):FM.V:=.vec 37 AC E5 l
abbrev uk(l:LI):FM.V:=.vec 101 AC EX l
abbrev lI(l:LI):FM.V:=.list AC EX l
def bS(v:Vd)(vp:FM.V)(sp:Int):List FM.V:=[.i v.kind,vp,.i v.w0,.i v.w1,.i v.w2,.i v.w3,.i v.twin,.i v.spent,.i sp]
def P5(t:Nat)(m:Md)(q:Qy)(s:Sr):List FM.V:=
 GE m q (match t with
  |0=>sP s.left::uk s.proof::bS s.v .zs s.spent
  |1=>sP s.left::.zs::bS s.v .zs s.spent
  |2=>sP s.left::lI s.proof::bS s.v (lI s.v.proof) s.spent
  |_=>.zs::.zs::bS s.v .zs s.spent)
def srT?:List FM.V->Option (Nat×Sr)
 |[.vec 37 AC [.z,.z,.z,.z,.z,.z,.z,.z,.z,.z] l,.vec 101 AC [.bool,.z,.z] p,.i k,.zs,.i a,.i b,.i c,.i d,.i t,.i vs,.i sp]=>AA (0,⟨l,p,⟨k,[],a,b,c,d,t,vs⟩,sp⟩)
 |[.vec 37 AC [.z,.z,.z,.z,.z,.z,.z,.z,.z,.z] l,.zs,.i k,.zs,.i a,.i b,.i c,.i d,.i t,.i vs,.i sp]=>AA (1,⟨l,[],⟨k,[],a,b,c,d,t,vs⟩,sp⟩)
 |[.vec 37 AC [.z,.z,.z,.z,.z,.z,.z,.z,.z,.z] l,.list AC [.bool,.z,.z] p,.i k,.list AC [.bool,.z,.z] vp,.i a,.i b,.i c,.i d,.i t,.i vs,.i sp]=>AA (2,⟨l,p,⟨k,vp,a,b,c,d,t,vs⟩,sp⟩)
 |[.zs,.zs,.i k,.zs,.i a,.i b,.i c,.i d,.i t,.i vs,.i sp]=>AA (3,⟨[],[],⟨k,[],a,b,c,d,t,vs⟩,sp⟩)
 |_=>AB
def oP(v:FM.V)(k:Nat->Md->Qy->Sr->R):R:=
 match v with
 |.bor l=>match seOf? l with
  |some (m,q,r)=>match srT? r with
   |some (t,s)=>k t m q s
   |none=>.no
  |none=>.no
 |_=>.no
def oD(m:Md)(q:Qy)(t:Nat)(s:Sr):Nat:=
 cond (GB m q (EA s.left)) (cond (ic (s.left.length-1)==0) 2 0)
  (cond (HK m q (EA s.left).low (EA s.left).s4.hi) t (cond (EQ m q (EA s.left)).isSome 0 t))
def fA:D5
 |[m,q]=>ID m λm=>IT q λq=>.br (E8 m q) (.ok (.bor (P5 1 m q ⟨[(GG q).I],[],Vd.none,0⟩)) []) (.ok (.bor (P5 3 m q ⟨[],[],⟨4,[],0,0,0,0,0,0⟩,0⟩)) [])
 |_=>.no
def fC:D5
 |[x]=>oP x λt m q s=>
  .br (H8 q s) (.ok (.bool AD) [P5 t m q s])
   (.br (CF t 1&&(E8 m q&&(AE (0<=s.spent)&&(BV 0 s.left.length&&(CF s.left.length 100000&&CF s.proof.length 100000)))))
    (.br (GB m q (EA s.left)) (.br (ic (s.left.length-1)==0) (.ok (.bool AC) [P5 2 m q (FF m q s)]) (.ok (.bool AC) [P5 0 m q (FF m q s)]))
     (.br (HK m q (EA s.left).low (EA s.left).s4.hi) (.ok (.bool AC) [P5 t m q (FF m q s)])
      (.br (EQ m q (EA s.left)).isSome (.ok (.bool AC) [P5 0 m q (FF m q s)]) (.ok (.bool AC) [P5 t m q (FF m q s)])))) .no)
 |_=>.no
def fD:D5
 |[x]=>oP x λt m q s=>.br (CF s.v.proof.length 100000) (.ok (GH s).V [P5 t m q s]) .no
 |_=>.no
def fB:D5
 |[m,q]=>ID m λm=>IT q λq=>.ok (FP m q).V []
 |_=>.no
def kA:D5
 |[.list AC [.bool,.z,.z] l]=>.br (CF l.length 100000) (.ok (.vec 101 AC EX l) []) .no
 |_=>.no
open Go Go.Proofs
def Yr(N:Nat):Env:=EI [] [] 2 N
theorem zaI(N:Nat):EB (Yr N) Cj [.cell 0 35] [[.z,.z]] []=(AA (.agg [.i 1,.i 0],[])):=AF
def Ys(N:Nat):Env:=EI [(220,W5)] [] 12 N
theorem zaJ(N:Nat)(lo hi:Int):EB (Ys N) Ck [.cell 4 35] [[.z,.z]] [.i lo,.i hi]=(cond (AE (lo>hi)) (AA (.agg [.i 1,.i 0],[])) (AA (.agg [.i lo,.i hi],[]))):=AF
def Yp(N:Nat):Env:=EI [] [] 8 N
theorem zaG(N:Nat)(s:Sp):EB (Yp N) Ch [.tmp 2] [[.bool]] [(Sp.V s)]=(AA (.bool (AE (Sp.lo s>Sp.hi s)),[])):=AF
def Yq(N:Nat):Env:=EI [] [] 15 N
theorem zaH(N:Nat)(s:Sp)(n:Int):EB (Yq N) Ci [.tmp 4] [[.bool]] [(Sp.V s),.i n]=(cond (AE (Sp.lo s<=n)) (AA (.bool (AE (n<=Sp.hi s)),[])) (AA (.bool AD,[]))):=AF
def Yo(N:Nat):Env:=EI [(220,W5),(219,fH)] [] 29 N
theorem zaF(N:Nat)(s:Sp)(atv:Int):EB (Yo N) Cg [.cell 4 35,.cell 5 35] [[.z,.z],[.z,.z]] [(Sp.V s),.i atv]=(cond (AE (atv>=Sp.hi s)) (AA (.tup [(Sp.V (LT (Sp.lo s) (min (Sp.hi s) atv))),.agg [.i 1,.i 0]],[])) (AA (.tup [(Sp.V (LT (Sp.lo s) (min (Sp.hi s) atv))),(Sp.V (LT (max (Sp.lo s) (AI AJ (atv+1))) (Sp.hi s)))],[]))):=AF
def LB(N:Nat):Env:=EI [(51,M8)] [(3,⟨[0,3,4,5,6,9],[3,5],[]⟩)] 46 N
abbrev M6(p:Pt)(l0:LI)(x4 x6 x9:Int)(u00:Bool)(u01 u02 u03 u04 u05:Int):St:=⟨[(0,(.list AD [.int .u64] l0)),(3,(.ptr 3 0 0)),(4,(.i x4)),(5,(.ptr 5 0 0)),(6,(.i x6)),(9,(.i x9))],[(3,(AA (.box (Pt.cs p)))),(5,(AA (.box [.bool u00,.i u01,.i u02,.i u03,.i u04,.i u05])))]⟩
theorem zaV(N:Nat)(l:LI)(p:Pt):EB (LB N) OR [.tmp 4,.cell 5 108] [[.z],[.bool,.z,.z,.z,.z,.z]] [.list AD [.int .u64] l,(Pt.V p)]=(D7 (LB N) (DU OR [1,1,0,1,0,0]) ⟨[0,3,4,5,6,9],[3,5],[]⟩ N (M6 p l 0 0 0 AD 0 0 0 0 0) (DZ 0 (D1 (LB N) (DU OR [1,1,1]) (D4 (LB N) AB [.tmp 4,.cell 5 108] [[.z],[.bool,.z,.z,.z,.z,.z]])))):=AF
theorem Tp(N:Nat)(p:Pt)(l0:LI)(x4 x6 x9:Int)(u00:Bool)(u01 u02 u03 u04 u05:Int)(again:St->DW)(k:Out->St->DW):E3 (LB N) (DU OR [1,1,0,1,0,0]) (M6 p l0 x4 x6 x9 u00 u01 u02 u03 u04 u05) (ES again ⟨[0,3,4,5,6,9],[3,5],[]⟩ k)=(cond (AE (x9<31)) (cond (AE (x6>=ic (AN l0))) (k (.exit 0) (M6 p l0 x4 x6 x9 u00 u01 u02 u03 u04 u05)) (cond (AE (0<=x6)&&AE (x6<ic (AN l0))) (cond (!FJ (IV.toInt (AQ l0 (AM x6) default))) (k .ret (M6 p l0 (-1) x6 x9 AD 0 0 0 0 0)) (cond (Nd.lf (DV (IV.toInt (AQ l0 (AM x6) default)))) (k .ret ⟨[(0,(.list AD [.int .u64] l0)),(3,(.ptr 3 0 0)),(4,(.i x6)),(5,(.ptr 5 0 0)),(6,(.i x6)),(9,(.i x9))],[(3,(AA (.box (Pt.cs p)))),(5,(AA (.box (Nd.cs (DV (IV.toInt (AQ l0 (AM x6) default)))))))]⟩) (cond (AE (Nd.f (DV (IV.toInt (AQ l0 (AM x6) default)))=ic 0)) (cond (AE (Pt.p0 p<=Nd.a (DV (IV.toInt (AQ l0 (AM x6) default))))) (again (M6 p l0 x4 (Nd.l (DV (IV.toInt (AQ l0 (AM x6) default)))) (AI AJ (x9+1)) u00 u01 u02 u03 u04 u05)) (again (M6 p l0 x4 (Nd.r (DV (IV.toInt (AQ l0 (AM x6) default)))) (AI AJ (x9+1)) u00 u01 u02 u03 u04 u05))) (cond (AE (Nd.f (DV (IV.toInt (AQ l0 (AM x6) default)))=ic 1)) (cond (AE (Pt.p1 p<=Nd.a (DV (IV.toInt (AQ l0 (AM x6) default))))) (again (M6 p l0 x4 (Nd.l (DV (IV.toInt (AQ l0 (AM x6) default)))) (AI AJ (x9+1)) u00 u01 u02 u03 u04 u05)) (again (M6 p l0 x4 (Nd.r (DV (IV.toInt (AQ l0 (AM x6) default)))) (AI AJ (x9+1)) u00 u01 u02 u03 u04 u05))) (cond (AE (Nd.f (DV (IV.toInt (AQ l0 (AM x6) default)))=ic 2)) (cond (AE (Pt.p2 p<=Nd.a (DV (IV.toInt (AQ l0 (AM x6) default))))) (again (M6 p l0 x4 (Nd.l (DV (IV.toInt (AQ l0 (AM x6) default)))) (AI AJ (x9+1)) u00 u01 u02 u03 u04 u05)) (again (M6 p l0 x4 (Nd.r (DV (IV.toInt (AQ l0 (AM x6) default)))) (AI AJ (x9+1)) u00 u01 u02 u03 u04 u05))) (cond (AE (Nd.f (DV (IV.toInt (AQ l0 (AM x6) default)))=ic 3)) (cond (AE (Pt.p3 p<=Nd.a (DV (IV.toInt (AQ l0 (AM x6) default))))) (again (M6 p l0 x4 (Nd.l (DV (IV.toInt (AQ l0 (AM x6) default)))) (AI AJ (x9+1)) u00 u01 u02 u03 u04 u05)) (again (M6 p l0 x4 (Nd.r (DV (IV.toInt (AQ l0 (AM x6) default)))) (AI AJ (x9+1)) u00 u01 u02 u03 u04 u05))) AB)))))) AB)) (k (.exit 0) (M6 p l0 x4 x6 x9 u00 u01 u02 u03 u04 u05))):=AF
theorem Fc(N:Nat)(p:Pt)(l0:LI)(x4 x6 x9:Int)(u00:Bool)(u01 u02 u03 u04 u05:Int):(DZ 0 (D1 (LB N) (DU OR [1,1,1]) (D4 (LB N) AB [.tmp 4,.cell 5 108] [[.z],[.bool,.z,.z,.z,.z,.z]]))) (.exit 0) (M6 p l0 x4 x6 x9 u00 u01 u02 u03 u04 u05)=(AA (.tup [.i (-1),.agg [.bool AD,.i 0,.i 0,.i 0,.i 0,.i 0]],[])):=AF
theorem lm(N:Nat)(p:Pt)(l0:LI)(x4 x6 x9:Int)(u00:Bool)(u01 u02 u03 u04 u05:Int):(DZ 0 (D1 (LB N) (DU OR [1,1,1]) (D4 (LB N) AB [.tmp 4,.cell 5 108] [[.z],[.bool,.z,.z,.z,.z,.z]]))) .ret (M6 p l0 x4 x6 x9 u00 u01 u02 u03 u04 u05)=(AA (.tup [.i x4,.agg [.bool u00,.i u01,.i u02,.i u03,.i u04,.i u05]],[])):=AF
def Za(N:Nat):Env:=EI [(248,fM)] [] 15 N
theorem zaU(N:Nat)(l:LI)(p:Pt):EB (Za N) Cs [.tmp 4] [[.z]] [.list AD [.int .u64] l,(Pt.V p)]=(AA (.i (Nd.v (gN l p)),[])):=AF
def MF(N:Nat):Env:=EI [(221,fL)] [(3,⟨[1,5,6,7,15,16,17],[5],[]⟩)] 33 N
abbrev UB(p:Pt)(x1 x6 x7:Int)(l15:LI)(x16 x17:Int):St:=⟨[(1,(.i x1)),(5,(.ptr 5 0 0)),(6,(.i x6)),(7,(.i x7)),(15,(.list AC G3 l15)),(16,(.i x16)),(17,(.i x17))],[(5,(AA (.box (Pt.cs p))))]⟩
theorem zae(N:Nat)(m:Md)(u00:Int)(p:Pt):EB (MF N) PQ [.tmp 6] [[.z]] [(Md.V m),.i u00,(Pt.V p)]=(cond (AE (u00=ic 0)) (D7 (MF N) (DU PQ [1,1,0,1,0,0]) ⟨[1,5,6,7,15,16,17],[5],[]⟩ N (UB p u00 0 (Md.b0 m) (Md.ts m) (ic (AN (Md.ts m))) 0) (DZ 0 (D1 (MF N) (DU PQ [1,1,1]) (D4 (MF N) AB [.tmp 6] [[.z]])))) (cond (AE (u00=ic 1)) (D7 (MF N) (DU PQ [1,1,0,1,0,0]) ⟨[1,5,6,7,15,16,17],[5],[]⟩ N (UB p u00 0 (Md.b1 m) (Md.ts m) (ic (AN (Md.ts m))) 0) (DZ 0 (D1 (MF N) (DU PQ [1,1,1]) (D4 (MF N) AB [.tmp 6] [[.z]])))) (cond (AE (u00=ic 2)) (D7 (MF N) (DU PQ [1,1,0,1,0,0]) ⟨[1,5,6,7,15,16,17],[5],[]⟩ N (UB p u00 0 (Md.b2 m) (Md.ts m) (ic (AN (Md.ts m))) 0) (DZ 0 (D1 (MF N) (DU PQ [1,1,1]) (D4 (MF N) AB [.tmp 6] [[.z]])))) AB))):=AF
theorem Su(N:Nat)(p:Pt)(x1 x6 x7:Int)(l15:LI)(x16 x17:Int)(again:St->DW)(k:Out->St->DW):E3 (MF N) (DU PQ [1,1,0,1,0,0]) (UB p x1 x6 x7 l15 x16 x17) (ES again ⟨[1,5,6,7,15,16,17],[5],[]⟩ k)=(cond (AE (x17<x16)) (cond (AE (0<=x17)&&AE (x17<ic (AN l15))) (cond (IV.toInt (IV.cell (AQ l15 (AM x17) default) 0)==x1) (again (UB p x1 x6 (AI AJ (x7+G1 (IV.toList (IV.cell (AQ l15 (AM x17) default) 1)) p)) l15 x16 (AI AJ (x17+1)))) (again (UB p x1 x6 x7 l15 x16 (AI AJ (x17+1))))) AB) (k (.exit 0) (UB p x1 x6 x7 l15 x16 x17))):=AF
theorem jn(N:Nat)(p:Pt)(x1 x6 x7:Int)(l15:LI)(x16 x17:Int):(DZ 0 (D1 (MF N) (DU PQ [1,1,1]) (D4 (MF N) AB [.tmp 6] [[.z]]))) (.exit 0) (UB p x1 x6 x7 l15 x16 x17)=(AA (.i x7,[])):=AF
def Xx(N:Nat):Env:=EI [(49,M7),(182,eG)] [] 24 N
theorem zaa(N:Nat)(m:Md)(u00:Int)(p:Pt):EB (Xx N) Bn [.tmp 6] [[.z]] [(Md.V m),.i u00,(Pt.V p)]=(cond (!ET m) (AA (.i 0,[])) (cond (AE (u00<0)) (AA (.i 0,[])) (cond (AE (u00>=Md.c m)) (AA (.i 0,[])) (cond (ET m&&GR m u00) (AA (.i (OU u00 p (Md.ts m) (KU m u00)),[])) AB)))):=AF
def Wl(N:Nat):Env:=EI [(191,W3)] [(2,⟨[2,5,6],[],[]⟩)] 12 N
def Wn(N:Nat):Env:=EI [] [(3,⟨[1,2,3,5],[1,2,3],[]⟩)] 16 N
open Go Go.Proofs
def OH(N:Nat):Env:=mV [(49,M7),(51,M8)] [(195,lQ),(194,lS)] [(5,⟨[1,4,5,16,17,18],[500],[⟨.tmp 5,500,3,AD,[.z]⟩]⟩),(8,⟨[1,4,5,16,17,18,23,24,25],[500],[⟨.tmp 5,500,3,AD,[.z]⟩]⟩)] 54 N
abbrev cE(x1:Int)(n5:Nat)(l16:LI)(x17 x18:Int)(u00:LI):St:=⟨[(1,(.i x1)),(4,.zs),(5,(.row 500 0 n5)),(16,(.list AC G3 l16)),(17,(.i x17)),(18,(.i x18))],[(500,(AA (.row AC 3 AD [.z] u00)))]⟩
abbrev V8(x1:Int)(n5:Nat)(l16:LI)(x17 x18:Int)(l23:LI)(x24 x25:Int)(u00:LI):St:=⟨[(1,(.i x1)),(4,.zs),(5,(.row 500 0 n5)),(16,(.list AC G3 l16)),(17,(.i x17)),(18,(.i x18)),(23,(.list AD [.int .u64] l23)),(24,(.i x24)),(25,(.i x25))],[(500,(AA (.row AC 3 AD [.z] u00)))]⟩
theorem zad(N:Nat)(m:Md)(u00:Int):EB (OH N) PP [.tmp 4] [] [(Md.V m),.i u00]=(cond (!ET m) (AA (.any,[])) (D7 (OH N) (DU PP [1,1,1,0,1,0,0]) ⟨[1,4,5,16,17,18],[500],[⟨(.tmp 5),500,3,AD,[.z]⟩]⟩ N (cE u00 0 (Md.ts m) (ic (AN (Md.ts m))) 0 []) (DZ 0 (D1 (OH N) (DU PP [1,1,1,1]) (D4 (OH N) AB [.tmp 4] []))))):=AF
theorem Sq(N:Nat)(x1:Int)(n5:Nat)(l16:LI)(x17 x18:Int)(u00:LI)(again:St->DW)(k:Out->St->DW):E3 (OH N) (DU PP [1,1,1,0,1,0,0]) (cE x1 n5 l16 x17 x18 u00) (ES again ⟨[1,4,5,16,17,18],[500],[⟨(.tmp 5),500,3,AD,[.z]⟩]⟩ k)=(cond (AE (x18<x17)) (cond (AE (0<=x18)&&AE (x18<ic (AN l16))) (D7 (OH N) (DU PP [1,1,1,0,1,0,0,1,1,0,0,1,1,0,0]) ⟨[1,4,5,16,17,18,23,24,25],[500],[⟨(.tmp 5),500,3,AD,[.z]⟩]⟩ N (V8 x1 n5 l16 x17 x18 (IV.toList (IV.cell (AQ l16 (AM x18) default) 1)) (ic (AN (IV.toList (IV.cell (AQ l16 (AM x18) default) 1)))) 0 u00) (DZ 2 (DZ 1 (D1 (OH N) (DU PP [1,1,1,0,1,0,0,1,1,1]) (ES again ⟨[1,4,5,16,17,18],[500],[⟨(.tmp 5),500,3,AD,[.z]⟩]⟩ k))))) AB) (k (.exit 0) (cE x1 n5 l16 x17 x18 u00))):=AF
theorem Ss(N:Nat)(x1:Int)(n5:Nat)(l16:LI)(x17 x18:Int)(l23:LI)(x24 x25:Int)(u00:LI)(again:St->DW)(k:Out->St->DW):E3 (OH N) (DU PP [1,1,1,0,1,0,0,1,1,0,0,1,1,0,0]) (V8 x1 n5 l16 x17 x18 l23 x24 x25 u00) (ES again ⟨[1,4,5,16,17,18,23,24,25],[500],[⟨(.tmp 5),500,3,AD,[.z]⟩]⟩ k)=(cond (AE (x25<x24)) (cond (AE (0<=x25)&&AE (x25<ic (AN l23))) (cond (!Nd.lf (DV (IV.toInt (AQ l23 (AM x25) default)))) (cond (Nd.f (DV (IV.toInt (AQ l23 (AM x25) default)))==x1) (cond (AE ((n5+1)*8<=EM)) (again (V8 x1 (n5+1) l16 x17 x18 l23 x24 (AI AJ (x25+1)) (AU n5 u00++[IV.int (Nd.a (DV (IV.toInt (AQ l23 (AM x25) default))))]))) AB) (again (V8 x1 n5 l16 x17 x18 l23 x24 (AI AJ (x25+1)) u00))) (again (V8 x1 n5 l16 x17 x18 l23 x24 (AI AJ (x25+1)) u00))) AB) (k (.exit 2) (V8 x1 n5 l16 x17 x18 l23 x24 x25 u00))):=AF
theorem jl(N:Nat)(x1:Int)(n5:Nat)(l16:LI)(x17 x18:Int)(u00:LI):(DZ 0 (D1 (OH N) (DU PP [1,1,1,1]) (D4 (OH N) AB [.tmp 4] []))) (.exit 0) (cE x1 n5 l16 x17 x18 u00)=(cond (BZ n5 (AN u00)) (cond (BZ (AN (iZ (LR (BQ IV.toInt u00)))) (AN u00)) (cond (BZ n5 (AN (iZ (LR (BQ IV.toInt u00))))) (cond (CF (AN (iZ (JU (BQ IV.toInt (iZ (LR (BQ IV.toInt u00))))))) (AN (iZ (LR (BQ IV.toInt u00))))) (AA (.vec 3 AD [.z] (AU (AN (iZ (JU (BQ IV.toInt (iZ (LR (BQ IV.toInt u00))))))) (iZ (JU (BQ IV.toInt (iZ (LR (BQ IV.toInt u00))))))),[])) AB) AB) AB) AB):=AF
theorem jm(N:Nat)(again:St->DW)(k:Out->St->DW)(x1:Int)(n5:Nat)(l16:LI)(x17 x18:Int)(l23:LI)(x24 x25:Int)(u00:LI):(DZ 2 (DZ 1 (D1 (OH N) (DU PP [1,1,1,0,1,0,0,1,1,1]) (ES again ⟨[1,4,5,16,17,18],[500],[⟨(.tmp 5),500,3,AD,[.z]⟩]⟩ k)))) (.exit 2) (V8 x1 n5 l16 x17 x18 l23 x24 x25 u00)=(again (cE x1 n5 l16 x17 (AI AJ (x18+1)) u00)):=AF
def Xu(N:Nat):Env:=EI [] [] 23 N
theorem zu(N:Nat)(q:Qy)(u00:Int):EB (Xu N) Bk [.tmp 4] [[.z]] [(Qy.V q),.i u00]=(cond (AE (u00>=0)) (cond (AE (u00<4)) (AA (.i u00,[])) (cond (u00==4) (cond (Qy.k q==3) (AA (.i (Qy.ft q),[])) (AA (.i (-1),[]))) (AA (.i (-1),[])))) (cond (u00==4) (cond (Qy.k q==3) (AA (.i (Qy.ft q),[])) (AA (.i (-1),[]))) (AA (.i (-1),[])))):=AF
def yK(N:Nat):Env:=mV [(149,d8),(151,eE)] [(150,lR)] [] 24 N
def Yj(N:Nat):Env:=EI [] [] 71 N
theorem zas(N:Nat)(m:Md)(a1:Qy):EB (Yj N) Cb [.tmp 4] [[.bool]] [(Md.V m),(Qy.V a1)]=(cond (Qy.k a1==1) (cond (AE (Qy.lo a1<=Qy.hi a1)) (cond (Qy.ft a1==0) (AA (.bool (!Qy.fl a1),[])) (AA (.bool AD,[]))) (AA (.bool AD,[]))) (cond (Qy.k a1==2) (cond (AE (Md.c m>=2)) (cond (Qy.lo a1==0) (cond (Qy.hi a1==0) (cond (Qy.ft a1==0) (AA (.bool (!Qy.fl a1),[])) (AA (.bool AD,[]))) (AA (.bool AD,[]))) (AA (.bool AD,[]))) (AA (.bool AD,[]))) (cond (Qy.k a1==3) (cond (AE (Qy.ft a1>=0)) (cond (AE (Qy.ft a1<Md.d m)) (cond (Qy.lo a1==0) (AA (.bool (Qy.hi a1==0),[])) (AA (.bool AD,[]))) (AA (.bool AD,[]))) (AA (.bool AD,[]))) (AA (.bool AD,[]))))):=AF
def Yg(N:Nat):Env:=EI [(49,M7),(147,eZ),(146,e9)] [] 41 N
theorem zap(N:Nat)(m:Md)(q:Qy):EB (Yg N) Bw [.tmp 4] [[.bool]] [(Md.V m),(Qy.V q)]=(cond (ET m) (cond (AE (Qy.c q>=0)) (cond (AE (Qy.c q<Md.c m)) (cond (AE (Qy.bu q>=0)) (cond (AE (Qy.bu q<=65536)) (cond (QW {s0:={lo:=Qy.a0 q,hi:=Qy.b0 q},s1:={lo:=Qy.a1 q,hi:=Qy.b1 q},s2:={lo:=Qy.a2 q,hi:=Qy.b2 q},s3:={lo:=Qy.a3 q,hi:=Qy.b3 q},s4:={lo:=Qy.a4 q,hi:=Qy.b4 q}} (Md.d m)) (AA (.bool (MR m q),[])) (AA (.bool AD,[]))) (AA (.bool AD,[]))) (AA (.bool AD,[]))) (AA (.bool AD,[]))) (AA (.bool AD,[]))) (AA (.bool AD,[]))):=AF
def Yk(N:Nat):Env:=EI [] [] 16 N
theorem zat(N:Nat)(q:Qy):EB (Yk N) Cc [.tmp 2] [[.bool]] [(Qy.V q)]=(cond (Qy.k q==3) (cond (AE (Qy.ft q>=0)) (AA (.bool (AE (Qy.ft q<4)),[])) (AA (.bool AD,[]))) (AA (.bool AD,[]))):=AF
def Yi(N:Nat):Env:=EI [(97,W2)] [] 16 N
theorem zar(N:Nat)(q:Qy):EB (Yi N) Ca [.cell 2 37] [[.z,.z,.z,.z,.z,.z,.z,.z,.z,.z]] [(Qy.V q)]=(cond (F6 q) (cond (AE (Qy.ft q=ic 0)) (AA (.agg [.i (Qy.a0 q),.i (Qy.b0 q),.i (Qy.a1 q),.i (Qy.b1 q),.i (Qy.a2 q),.i (Qy.b2 q),.i (Qy.a3 q),.i (Qy.b3 q),.i (Qy.a0 q),.i (Qy.b0 q)],[])) (cond (AE (Qy.ft q=ic 1)) (AA (.agg [.i (Qy.a0 q),.i (Qy.b0 q),.i (Qy.a1 q),.i (Qy.b1 q),.i (Qy.a2 q),.i (Qy.b2 q),.i (Qy.a3 q),.i (Qy.b3 q),.i (Qy.a1 q),.i (Qy.b1 q)],[])) (cond (AE (Qy.ft q=ic 2)) (AA (.agg [.i (Qy.a0 q),.i (Qy.b0 q),.i (Qy.a1 q),.i (Qy.b1 q),.i (Qy.a2 q),.i (Qy.b2 q),.i (Qy.a3 q),.i (Qy.b3 q),.i (Qy.a2 q),.i (Qy.b2 q)],[])) (cond (AE (Qy.ft q=ic 3)) (AA (.agg [.i (Qy.a0 q),.i (Qy.b0 q),.i (Qy.a1 q),.i (Qy.b1 q),.i (Qy.a2 q),.i (Qy.b2 q),.i (Qy.a3 q),.i (Qy.b3 q),.i (Qy.a3 q),.i (Qy.b3 q)],[])) (cond (AE (Qy.ft q=ic 4)) (AA (.agg [.i (Qy.a0 q),.i (Qy.b0 q),.i (Qy.a1 q),.i (Qy.b1 q),.i (Qy.a2 q),.i (Qy.b2 q),.i (Qy.a3 q),.i (Qy.b3 q),.i 0,.i 0],[])) AB))))) (AA (.agg [.i (Qy.a0 q),.i (Qy.b0 q),.i (Qy.a1 q),.i (Qy.b1 q),.i (Qy.a2 q),.i (Qy.b2 q),.i (Qy.a3 q),.i (Qy.b3 q),.i 0,.i 0],[]))):=AF
def Yh(N:Nat):Env:=EI [(97,W2)] [] 14 N
theorem zaq(N:Nat)(q:Qy)(p:Pt)(twin:Int):EB (Yh N) Bz [.cell 6 48] [[.z,.z,.z,.z]] [(Qy.V q),(Pt.V p),.i twin]=(cond (F6 q) (cond (AE (Qy.ft q=ic 0)) (AA (.agg [.i twin,.i (Pt.p1 p),.i (Pt.p2 p),.i (Pt.p3 p)],[])) (cond (AE (Qy.ft q=ic 1)) (AA (.agg [.i (Pt.p0 p),.i twin,.i (Pt.p2 p),.i (Pt.p3 p)],[])) (cond (AE (Qy.ft q=ic 2)) (AA (.agg [.i (Pt.p0 p),.i (Pt.p1 p),.i twin,.i (Pt.p3 p)],[])) (cond (AE (Qy.ft q=ic 3)) (AA (.agg [.i (Pt.p0 p),.i (Pt.p1 p),.i (Pt.p2 p),.i twin],[])) AB)))) (AA ((Pt.V p),[]))):=AF
def MG(N:Nat):Env:=EI [(126,eD),(93,OK),(128,eY),(127,W4)] [(9,⟨[4,5,6,8,9,36,37],[4,5,6],[]⟩)] 75 N
abbrev UD(m:Md)(a1:Qy)(a2:Pt)(b8:Bool)(x9 x36 x37:Int):St:=⟨[(4,(.ptr 4 0 0)),(5,(.ptr 5 0 0)),(6,(.ptr 6 0 0)),(8,(.bool b8)),(9,(.i x9)),(36,(.i x36)),(37,(.i x37))],[(4,(AA (.box (Md.cs m)))),(5,(AA (.box (Qy.cs a1)))),(6,(AA (.box (Pt.cs a2))))]⟩
theorem zao(N:Nat)(m:Md)(a1:Qy)(a2:Pt)(a3:Int):EB (MG N) OQ [.tmp 8] [[.bool]] [(Md.V m),(Qy.V a1),(Pt.V a2),.i a3]=(cond (!E8 m a1) (AA (.bool AD,[])) (cond (Qy.k a1==1) (AA ((.bool (!Sp.has {lo:=Qy.lo a1,hi:=Qy.hi a1} (D3 m (Qy.c a1) a2))),[])) (cond (Qy.k a1==2) (D7 (MG N) (DU OQ [1,1,1,0,1,0,1,1,1,0,0,1,0,0]) ⟨[4,5,6,8,9,36,37],[4,5,6],[]⟩ N (UD m a1 a2 AD (D3 m (Qy.c a1) a2) (Md.c m) 0) (DZ 1 (D1 (MG N) (DU OQ [1,1,1,0,1,0,1,1,1,0,1]) (DZ 0 (D1 (MG N) (DU OQ [1,1,1,1]) (D4 (MG N) AB [.tmp 8] [[.bool]])))))) (cond (AE (Qy.ft a1=ic 0)) (cond (AE (Pt.p0 a2>=a3)) (AA (.bool AD,[])) (cond (Qy.fl a1) (AA (.bool (AE (D3 m (Qy.c a1) (IA a1 a2 a3)>D3 m (Qy.c a1) a2)),[])) (AA (.bool (AE (D3 m (Qy.c a1) (IA a1 a2 a3)<D3 m (Qy.c a1) a2)),[])))) (cond (AE (Qy.ft a1=ic 1)) (cond (AE (Pt.p1 a2>=a3)) (AA (.bool AD,[])) (cond (Qy.fl a1) (AA (.bool (AE (D3 m (Qy.c a1) (IA a1 a2 a3)>D3 m (Qy.c a1) a2)),[])) (AA (.bool (AE (D3 m (Qy.c a1) (IA a1 a2 a3)<D3 m (Qy.c a1) a2)),[])))) (cond (AE (Qy.ft a1=ic 2)) (cond (AE (Pt.p2 a2>=a3)) (AA (.bool AD,[])) (cond (Qy.fl a1) (AA (.bool (AE (D3 m (Qy.c a1) (IA a1 a2 a3)>D3 m (Qy.c a1) a2)),[])) (AA (.bool (AE (D3 m (Qy.c a1) (IA a1 a2 a3)<D3 m (Qy.c a1) a2)),[])))) (cond (AE (Qy.ft a1=ic 3)) (cond (AE (Pt.p3 a2>=a3)) (AA (.bool AD,[])) (cond (Qy.fl a1) (AA (.bool (AE (D3 m (Qy.c a1) (IA a1 a2 a3)>D3 m (Qy.c a1) a2)),[])) (AA (.bool (AE (D3 m (Qy.c a1) (IA a1 a2 a3)<D3 m (Qy.c a1) a2)),[])))) AB))))))):=AF
theorem Sx(N:Nat)(m:Md)(a1:Qy)(a2:Pt)(b8:Bool)(x9 x36 x37:Int)(again:St->DW)(k:Out->St->DW):E3 (MG N) (DU OQ [1,1,1,0,1,0,1,1,1,0,0,1,0,0]) (UD m a1 a2 b8 x9 x36 x37) (ES again ⟨[4,5,6,8,9,36,37],[4,5,6],[]⟩ k)=(cond (AE (x37<x36)) (cond (x37 !=Qy.c a1) (cond (AE (D3 m x37 a2>=x9)) (k .ret (UD m a1 a2 AC x9 x36 x37)) (again (UD m a1 a2 b8 x9 x36 (AI AJ (x37+1))))) (again (UD m a1 a2 b8 x9 x36 (AI AJ (x37+1))))) (k (.exit 1) (UD m a1 a2 b8 x9 x36 x37))):=AF
theorem js(N:Nat)(m:Md)(a1:Qy)(a2:Pt)(b8:Bool)(x9 x36 x37:Int):(DZ 1 (D1 (MG N) (DU OQ [1,1,1,0,1,0,1,1,1,0,1]) (DZ 0 (D1 (MG N) (DU OQ [1,1,1,1]) (D4 (MG N) AB [.tmp 8] [[.bool]]))))) (.exit 1) (UD m a1 a2 b8 x9 x36 x37)=(AA (.bool AD,[])):=AF
theorem jt(N:Nat)(m:Md)(a1:Qy)(a2:Pt)(b8:Bool)(x9 x36 x37:Int):(DZ 1 (D1 (MG N) (DU OQ [1,1,1,0,1,0,1,1,1,0,1]) (DZ 0 (D1 (MG N) (DU OQ [1,1,1,1]) (D4 (MG N) AB [.tmp 8] [[.bool]]))))) .ret (UD m a1 a2 b8 x9 x36 x37)=(AA (.bool b8,[])):=AF
def Yl(N:Nat):Env:=EI [(106,SQ),(191,W3)] [(2,⟨[1,4,7,8],[],[]⟩)] 35 N
open Go Go.Proofs
def RF(N:Nat):Env:=EI [(124,QG),(174,LV),(51,M8),(109,XB)] [(7,⟨[4,5,6,24,25,26],[20,500],[⟨.tmp 6,500,264,AC,[.z,.z,.z,.z,.z,.z,.z,.z,.z,.z,.z]⟩]⟩)] 79 N
abbrev V7(n5 n6:Nat)(l24:LI)(x25 x26:Int)(lo20 u00:LI):St:=⟨[(4,.zs),(5,(.row 20 0 n5)),(6,(.row 500 0 n6)),(24,(.list AD [.int .u64] l24)),(25,(.i x25)),(26,(.i x26))],[(20,(AA (.row AC 37 AC E5 lo20))),(500,(AA (.row AC 264 AC I7 u00)))]⟩
theorem zz(N:Nat)(l:LI)(a1:Bx):EB (RF N) U0 [.tmp 4] [[.list AC [.z,.z,.z,.z,.z,.z,.z,.z,.z,.z,.z]]] [.list AD [.int .u64] l,(Bx.V a1)]=(cond (!F5 l 4) (AA (.list AC I7 [],[])) (cond (Bx.emp a1) (AA (.list AC I7 [],[])) (cond (AC&&(AC&&AE (0<=ic (AN l)))&&(AE (ic (AN l)=ic (AN l))&&AE (ic (AN l)*ic 80<=ic EM))) (cond (AE (0<=0)&&AE (0<ic (AM (ic (AN l))-0))) (D7 (RF N) (DU U0 [1,1,1,1,1,0,1,0,0]) ⟨[4,5,6,24,25,26],[20,500],[⟨(.tmp 6),500,264,AC,I7⟩]⟩ N (V7 (AM (ic (AN l))) 0 l (ic (AN l)) 0 (vaM (BU (AM (ic (AN l))) (IV.agg [IV.int 0,IV.int 0,IV.int 0,IV.int 0,IV.int 0,IV.int 0,IV.int 0,IV.int 0,IV.int 0,IV.int 0])) 0 (Bx.I a1)) []) (DZ 0 (D1 (RF N) (DU U0 [1,1,1,1,1,1]) (D4 (RF N) AB [.tmp 4] [[.list AC I7]])))) AB) AB))):=AF
theorem Sn(N n5 n6:Nat)(l24:LI)(x25 x26:Int)(lo20 u00:LI)(again:St->DW)(k:Out->St->DW):E3 (RF N) (DU U0 [1,1,1,1,1,0,1,0,0]) (V7 n5 n6 l24 x25 x26 lo20 u00) (ES again ⟨[4,5,6,24,25,26],[20,500],[⟨(.tmp 6),500,264,AC,I7⟩]⟩ k)=(cond (AE (x26<x25)) (cond (AE (0<=x26)&&AE (x26<ic (AN l24))) (cond (!Nd.lf (DV (IV.toInt (AQ l24 (AM x26) default)))) (cond (AE (0<=x26)&&AE (x26<ic (n5-0))) (cond (GZ (Nd.f (DV (IV.toInt (AQ l24 (AM x26) default))))) (cond (AE (0<=Nd.l (DV (IV.toInt (AQ l24 (AM x26) default))))&&AE (Nd.l (DV (IV.toInt (AQ l24 (AM x26) default)))<ic (n5-0))) (cond (AE (0<=Nd.r (DV (IV.toInt (AQ l24 (AM x26) default))))&&AE (Nd.r (DV (IV.toInt (AQ l24 (AM x26) default)))<ic (n5-0))) (again (V7 n5 n6 l24 x25 (AI AJ (x26+1)) (vaM (vaM lo20 (0+AM (Nd.l (DV (IV.toInt (AQ l24 (AM x26) default))))) (Bx.I (Bx.cutL (EC (AQ lo20 (0+AM x26) default)) (Nd.f (DV (IV.toInt (AQ l24 (AM x26) default)))) (Nd.a (DV (IV.toInt (AQ l24 (AM x26) default))))))) (0+AM (Nd.r (DV (IV.toInt (AQ l24 (AM x26) default))))) (Bx.I (Bx.cutH (EC (AQ lo20 (0+AM x26) default)) (Nd.f (DV (IV.toInt (AQ l24 (AM x26) default)))) (Nd.a (DV (IV.toInt (AQ l24 (AM x26) default))))))) u00)) AB) AB) AB) AB) (cond (AE (0<=x26)&&AE (x26<ic (n5-0))) (cond (!Bx.emp (EC (AQ lo20 (0+AM x26) default))) (cond (AE (0<=x26)&&AE (x26<ic (n5-0))) (cond (AE ((n6+1)*88<=EM)) (again (V7 n5 (n6+1) l24 x25 (AI AJ (x26+1)) lo20 (AU n6 u00++[(YI (EC (AQ lo20 (0+AM x26) default)) (Nd.v (DV (IV.toInt (AQ l24 (AM x26) default)))))]))) AB) AB) (again (V7 n5 n6 l24 x25 (AI AJ (x26+1)) lo20 u00))) AB)) AB) (k (.exit 0) (V7 n5 n6 l24 x25 x26 lo20 u00))):=AF
theorem ji(N n5 n6:Nat)(l24:LI)(x25 x26:Int)(lo20 u00:LI):(DZ 0 (D1 (RF N) (DU U0 [1,1,1,1,1,1]) (D4 (RF N) AB [.tmp 4] [[.list AC I7]]))) (.exit 0) (V7 n5 n6 l24 x25 x26 lo20 u00)=(AA (.list AC I7 (A3 0 (AU n6 u00)),[])):=AF
def RB(N:Nat):Env:=EI [(264,eC)] [(6,⟨[4,5,6,8,9,26,27,28],[],[]⟩)] 43 N
abbrev cB(x4 x5:Int)(b6:Bool)(x8 x9:Int)(l26:LI)(x27 x28:Int):St:=⟨[(4,(.i x4)),(5,(.i x5)),(6,(.bool b6)),(8,(.i x8)),(9,(.i x9)),(26,(.list AC I7 l26)),(27,(.i x27)),(28,(.i x28))],[]⟩
theorem wy(N:Nat)(l:LI)(b:Bx):EB (RB N) UU [.tmp 4,.tmp 5,.tmp 6] [[.z],[.z],[.bool]] [.list AD [.int .u64] l,(Bx.V b)]=(cond (ic (AN (GS l b))==0) (AA (.tup [.i 0,.i 0,.bool AD],[])) (cond (AE (0<=0)&&AE (0<ic (AN (GS l b)))) (cond (AE (0<=0)&&AE (0<ic (AN (GS l b)))) (D7 (RB N) (DU UU [1,1,1,1,0,1,0,0]) ⟨[4,5,6,8,9,26,27,28],[],[]⟩ N (cB 0 0 AD (IV.toInt (IV.cell (AQ (GS l b) (AM 0) default) 10)) (IV.toInt (IV.cell (AQ (GS l b) (AM 0) default) 10)) (GS l b) (ic (AN (GS l b))) 0) (DZ 0 (D1 (RB N) (DU UU [1,1,1,1,1]) (D4 (RB N) AB [.tmp 4,.tmp 5,.tmp 6] [[.z],[.z],[.bool]])))) AB) AB)):=AF
theorem Rq(N:Nat)(x4 x5:Int)(b6:Bool)(x8 x9:Int)(l26:LI)(x27 x28:Int)(again:St->DW)(k:Out->St->DW):E3 (RB N) (DU UU [1,1,1,1,0,1,0,0]) (cB x4 x5 b6 x8 x9 l26 x27 x28) (ES again ⟨[4,5,6,8,9,26,27,28],[],[]⟩ k)=(cond (AE (x28<x27)) (cond (AE (0<=x28)&&AE (x28<ic (AN l26))) (again (cB x4 x5 b6 (min x8 (IV.toInt (IV.cell (AQ l26 (AM x28) default) 10))) (max x9 (IV.toInt (IV.cell (AQ l26 (AM x28) default) 10))) l26 x27 (AI AJ (x28+1)))) AB) (k (.exit 0) (cB x4 x5 b6 x8 x9 l26 x27 x28))):=AF
theorem gk(N:Nat)(x4 x5:Int)(b6:Bool)(x8 x9:Int)(l26:LI)(x27 x28:Int):(DZ 0 (D1 (RB N) (DU UU [1,1,1,1,1]) (D4 (RB N) AB [.tmp 4,.tmp 5,.tmp 6] [[.z],[.z],[.bool]]))) (.exit 0) (cB x4 x5 b6 x8 x9 l26 x27 x28)=(AA (.tup [.i x8,.i x9,.bool AC],[])):=AF
def HI(N:Nat):Env:=EI [(240,cR),(174,LV),(49,M7)] [(5,⟨[1,5,6,7,8,9,10,42,43,44],[5],[]⟩)] 69 N
abbrev NT(a2:Bx)(x1 x6 x7:Int)(b8:Bool)(x9 x10:Int)(l42:LI)(x43 x44:Int):St:=⟨[(1,(.i x1)),(5,(.ptr 5 0 0)),(6,(.i x6)),(7,(.i x7)),(8,(.bool b8)),(9,(.i x9)),(10,(.i x10)),(42,(.list AC G3 l42)),(43,(.i x43)),(44,(.i x44))],[(5,(AA (.box (Bx.cs a2))))]⟩
theorem wx(N:Nat)(m:Md)(a1:Int)(a2:Bx):EB (HI N) JJ [.tmp 6,.tmp 7,.tmp 8] [[.z],[.z],[.bool]] [(Md.V m),.i a1,(Bx.V a2)]=(cond (!ET m) (AA (.tup [.i 0,.i 0,.bool AD],[])) (cond (AE (a1<0)) (AA (.tup [.i 0,.i 0,.bool AD],[])) (cond (AE (a1>=Md.c m)) (AA (.tup [.i 0,.i 0,.bool AD],[])) (cond (Bx.emp a2) (AA (.tup [.i 0,.i 0,.bool AD],[])) (cond (AE (a1=ic 0)) (cond (AE (a1=ic 0)) (D7 (HI N) (DU JJ [1,1,1,0,1,0,0]) ⟨[1,5,6,7,8,9,10,42,43,44],[5],[]⟩ N (NT a2 a1 0 0 AD (Md.b0 m) (Md.b0 m) (Md.ts m) (ic (AN (Md.ts m))) 0) (DZ 0 (D1 (HI N) (DU JJ [1,1,1,1]) (D4 (HI N) AB [.tmp 6,.tmp 7,.tmp 8] [[.z],[.z],[.bool]])))) (cond (AE (a1=ic 1)) (D7 (HI N) (DU JJ [1,1,1,0,1,0,0]) ⟨[1,5,6,7,8,9,10,42,43,44],[5],[]⟩ N (NT a2 a1 0 0 AD (Md.b0 m) (Md.b1 m) (Md.ts m) (ic (AN (Md.ts m))) 0) (DZ 0 (D1 (HI N) (DU JJ [1,1,1,1]) (D4 (HI N) AB [.tmp 6,.tmp 7,.tmp 8] [[.z],[.z],[.bool]])))) (cond (AE (a1=ic 2)) (D7 (HI N) (DU JJ [1,1,1,0,1,0,0]) ⟨[1,5,6,7,8,9,10,42,43,44],[5],[]⟩ N (NT a2 a1 0 0 AD (Md.b0 m) (Md.b2 m) (Md.ts m) (ic (AN (Md.ts m))) 0) (DZ 0 (D1 (HI N) (DU JJ [1,1,1,1]) (D4 (HI N) AB [.tmp 6,.tmp 7,.tmp 8] [[.z],[.z],[.bool]])))) AB))) (cond (AE (a1=ic 1)) (cond (AE (a1=ic 0)) (D7 (HI N) (DU JJ [1,1,1,0,1,0,0]) ⟨[1,5,6,7,8,9,10,42,43,44],[5],[]⟩ N (NT a2 a1 0 0 AD (Md.b1 m) (Md.b0 m) (Md.ts m) (ic (AN (Md.ts m))) 0) (DZ 0 (D1 (HI N) (DU JJ [1,1,1,1]) (D4 (HI N) AB [.tmp 6,.tmp 7,.tmp 8] [[.z],[.z],[.bool]])))) (cond (AE (a1=ic 1)) (D7 (HI N) (DU JJ [1,1,1,0,1,0,0]) ⟨[1,5,6,7,8,9,10,42,43,44],[5],[]⟩ N (NT a2 a1 0 0 AD (Md.b1 m) (Md.b1 m) (Md.ts m) (ic (AN (Md.ts m))) 0) (DZ 0 (D1 (HI N) (DU JJ [1,1,1,1]) (D4 (HI N) AB [.tmp 6,.tmp 7,.tmp 8] [[.z],[.z],[.bool]])))) (cond (AE (a1=ic 2)) (D7 (HI N) (DU JJ [1,1,1,0,1,0,0]) ⟨[1,5,6,7,8,9,10,42,43,44],[5],[]⟩ N (NT a2 a1 0 0 AD (Md.b1 m) (Md.b2 m) (Md.ts m) (ic (AN (Md.ts m))) 0) (DZ 0 (D1 (HI N) (DU JJ [1,1,1,1]) (D4 (HI N) AB [.tmp 6,.tmp 7,.tmp 8] [[.z],[.z],[.bool]])))) AB))) (cond (AE (a1=ic 2)) (cond (AE (a1=ic 0)) (D7 (HI N) (DU JJ [1,1,1,0,1,0,0]) ⟨[1,5,6,7,8,9,10,42,43,44],[5],[]⟩ N (NT a2 a1 0 0 AD (Md.b2 m) (Md.b0 m) (Md.ts m) (ic (AN (Md.ts m))) 0) (DZ 0 (D1 (HI N) (DU JJ [1,1,1,1]) (D4 (HI N) AB [.tmp 6,.tmp 7,.tmp 8] [[.z],[.z],[.bool]])))) (cond (AE (a1=ic 1)) (D7 (HI N) (DU JJ [1,1,1,0,1,0,0]) ⟨[1,5,6,7,8,9,10,42,43,44],[5],[]⟩ N (NT a2 a1 0 0 AD (Md.b2 m) (Md.b1 m) (Md.ts m) (ic (AN (Md.ts m))) 0) (DZ 0 (D1 (HI N) (DU JJ [1,1,1,1]) (D4 (HI N) AB [.tmp 6,.tmp 7,.tmp 8] [[.z],[.z],[.bool]])))) (cond (AE (a1=ic 2)) (D7 (HI N) (DU JJ [1,1,1,0,1,0,0]) ⟨[1,5,6,7,8,9,10,42,43,44],[5],[]⟩ N (NT a2 a1 0 0 AD (Md.b2 m) (Md.b2 m) (Md.ts m) (ic (AN (Md.ts m))) 0) (DZ 0 (D1 (HI N) (DU JJ [1,1,1,1]) (D4 (HI N) AB [.tmp 6,.tmp 7,.tmp 8] [[.z],[.z],[.bool]])))) AB))) AB))))))):=AF
theorem Ro(N:Nat)(a2:Bx)(x1 x6 x7:Int)(b8:Bool)(x9 x10:Int)(l42:LI)(x43 x44:Int)(again:St->DW)(k:Out->St->DW):E3 (HI N) (DU JJ [1,1,1,0,1,0,0]) (NT a2 x1 x6 x7 b8 x9 x10 l42 x43 x44) (ES again ⟨[1,5,6,7,8,9,10,42,43,44],[5],[]⟩ k)=(cond (AE (x44<x43)) (cond (AE (0<=x44)&&AE (x44<ic (AN l42))) (cond (IV.toInt (IV.cell (AQ l42 (AM x44) default) 0)!=x1) (again (NT a2 x1 x6 x7 b8 x9 x10 l42 x43 (AI AJ (x44+1)))) (again (NT a2 x1 x6 x7 b8 (AI AJ (x9+G8 (IV.toList (IV.cell (AQ l42 (AM x44) default) 1)) a2)) (AI AJ (x10+G7 (IV.toList (IV.cell (AQ l42 (AM x44) default) 1)) a2)) l42 x43 (AI AJ (x44+1))))) AB) (k (.exit 0) (NT a2 x1 x6 x7 b8 x9 x10 l42 x43 x44))):=AF
theorem gj(N:Nat)(a2:Bx)(x1 x6 x7:Int)(b8:Bool)(x9 x10:Int)(l42:LI)(x43 x44:Int):(DZ 0 (D1 (HI N) (DU JJ [1,1,1,1]) (D4 (HI N) AB [.tmp 6,.tmp 7,.tmp 8] [[.z],[.z],[.bool]]))) (.exit 0) (NT a2 x1 x6 x7 b8 x9 x10 l42 x43 x44)=(AA (.tup [.i x9,.i x10,.bool AC],[])):=AF
def RA(N:Nat):Env:=EI [(207,SS)] [(6,⟨[1,3,5,6,7,8,11,12,33,34],[3,5],[]⟩)] 62 N
abbrev T8(m:Md)(b:Bx)(x1 x6:Int)(b7:Bool)(x8 x11:Int)(b12:Bool)(x33 x34:Int):St:=⟨[(1,(.i x1)),(3,(.ptr 3 0 0)),(5,(.ptr 5 0 0)),(6,(.i x6)),(7,(.bool b7)),(8,(.i x8)),(11,(.i x11)),(12,(.bool b12)),(33,(.i x33)),(34,(.i x34))],[(3,(AA (.box (Md.cs m)))),(5,(AA (.box (Bx.cs b))))]⟩
theorem ww(N:Nat)(m:Md)(u00:Int)(b:Bx):EB (RA N) UT [.tmp 6,.tmp 7] [[.z],[.bool]] [(Md.V m),.i u00,(Bx.V b)]=(cond (!F9 m u00 b) (AA (.tup [.i 0,.bool AD],[])) (cond (AE (Md.c m<2)) (AA (.tup [.i 0,.bool AD],[])) (D7 (RA N) (DU UT [1,1,1,1,0,1,0,0]) ⟨[1,3,5,6,7,8,11,12,33,34],[3,5],[]⟩ N (T8 m b u00 0 AD (EK m u00 b) 0 AD (Md.c m) 0) (DZ 0 (D1 (RA N) (DU UT [1,1,1,1,1]) (D4 (RA N) AB [.tmp 6,.tmp 7] [[.z],[.bool]])))))):=AF
theorem Rn(N:Nat)(m:Md)(b:Bx)(x1 x6:Int)(b7:Bool)(x8 x11:Int)(b12:Bool)(x33 x34:Int)(again:St->DW)(k:Out->St->DW):E3 (RA N) (DU UT [1,1,1,1,0,1,0,0]) (T8 m b x1 x6 b7 x8 x11 b12 x33 x34) (ES again ⟨[1,3,5,6,7,8,11,12,33,34],[3,5],[]⟩ k)=(cond (AE (x34<x33)) (cond (x34==x1) (again (T8 m b x1 x6 b7 x8 x11 b12 x33 (AI AJ (x34+1)))) (cond (!b12) (again (T8 m b x1 x6 b7 x8 (AI AJ (x8-EE m x34 b)) AC x33 (AI AJ (x34+1)))) (cond (AE (AI AJ (x8-EE m x34 b)<x11)) (again (T8 m b x1 x6 b7 x8 (AI AJ (x8-EE m x34 b)) AC x33 (AI AJ (x34+1)))) (again (T8 m b x1 x6 b7 x8 x11 b12 x33 (AI AJ (x34+1))))))) (k (.exit 0) (T8 m b x1 x6 b7 x8 x11 b12 x33 x34))):=AF
theorem gi(N:Nat)(m:Md)(b:Bx)(x1 x6:Int)(b7:Bool)(x8 x11:Int)(b12:Bool)(x33 x34:Int):(DZ 0 (D1 (RA N) (DU UT [1,1,1,1,1]) (D4 (RA N) AB [.tmp 6,.tmp 7] [[.z],[.bool]]))) (.exit 0) (T8 m b x1 x6 b7 x8 x11 b12 x33 x34)=(AA (.tup [.i x11,.bool AC],[])):=AF
def Xl(N:Nat):Env:=EI [] [] 16 N
theorem zd(N:Nat)(q:Qy):EB (Xl N) Bb [.tmp 2] [[.bool]] [(Qy.V q)]=(cond (Qy.k q==3) (cond (AE (Qy.ft q>=0)) (AA (.bool (AE (Qy.ft q<4)),[])) (AA (.bool AD,[]))) (AA (.bool AD,[]))):=AF
def Xi(N:Nat):Env:=EI [(241,QH)] [] 10 N
theorem yz(N:Nat)(q:Qy)(b:Bx):EB (Xi N) Ay [.cell 4 37] [[.z,.z,.z,.z,.z,.z,.z,.z,.z,.z]] [(Qy.V q),(Bx.V b)]=(cond (F6 q) (AA (.agg [.i (Sp.lo (Bx.s0 b)),.i (Sp.hi (Bx.s0 b)),.i (Sp.lo (Bx.s1 b)),.i (Sp.hi (Bx.s1 b)),.i (Sp.lo (Bx.s2 b)),.i (Sp.hi (Bx.s2 b)),.i (Sp.lo (Bx.s3 b)),.i (Sp.hi (Bx.s3 b)),.i 0,.i 0],[])) (AA ((Bx.V b),[]))):=AF
def Xk(N:Nat):Env:=EI [(241,QH)] [] 15 N
theorem zb(N:Nat)(q:Qy)(b:Bx):EB (Xk N) Ba [.cell 4 37] [[.z,.z,.z,.z,.z,.z,.z,.z,.z,.z]] [(Qy.V q),(Bx.V b)]=(cond (F6 q) (cond (AE (Qy.ft q=ic 0)) (AA (.agg [.i (Sp.lo (Bx.s4 b)),.i (Sp.hi (Bx.s4 b)),.i (Sp.lo (Bx.s1 b)),.i (Sp.hi (Bx.s1 b)),.i (Sp.lo (Bx.s2 b)),.i (Sp.hi (Bx.s2 b)),.i (Sp.lo (Bx.s3 b)),.i (Sp.hi (Bx.s3 b)),.i 0,.i 0],[])) (cond (AE (Qy.ft q=ic 1)) (AA (.agg [.i (Sp.lo (Bx.s0 b)),.i (Sp.hi (Bx.s0 b)),.i (Sp.lo (Bx.s4 b)),.i (Sp.hi (Bx.s4 b)),.i (Sp.lo (Bx.s2 b)),.i (Sp.hi (Bx.s2 b)),.i (Sp.lo (Bx.s3 b)),.i (Sp.hi (Bx.s3 b)),.i 0,.i 0],[])) (cond (AE (Qy.ft q=ic 2)) (AA (.agg [.i (Sp.lo (Bx.s0 b)),.i (Sp.hi (Bx.s0 b)),.i (Sp.lo (Bx.s1 b)),.i (Sp.hi (Bx.s1 b)),.i (Sp.lo (Bx.s4 b)),.i (Sp.hi (Bx.s4 b)),.i (Sp.lo (Bx.s3 b)),.i (Sp.hi (Bx.s3 b)),.i 0,.i 0],[])) (cond (AE (Qy.ft q=ic 3)) (AA (.agg [.i (Sp.lo (Bx.s0 b)),.i (Sp.hi (Bx.s0 b)),.i (Sp.lo (Bx.s1 b)),.i (Sp.hi (Bx.s1 b)),.i (Sp.lo (Bx.s2 b)),.i (Sp.hi (Bx.s2 b)),.i (Sp.lo (Bx.s4 b)),.i (Sp.hi (Bx.s4 b)),.i 0,.i 0],[])) (cond (AE (Qy.ft q=ic 4)) (AA (.agg [.i (Sp.lo (Bx.s0 b)),.i (Sp.hi (Bx.s0 b)),.i (Sp.lo (Bx.s1 b)),.i (Sp.hi (Bx.s1 b)),.i (Sp.lo (Bx.s2 b)),.i (Sp.hi (Bx.s2 b)),.i (Sp.lo (Bx.s3 b)),.i (Sp.hi (Bx.s3 b)),.i 0,.i 0],[])) AB))))) (AA ((Bx.V b),[]))):=AF
def Xj(N:Nat):Env:=EI [(174,LV),(241,QH)] [] 23 N
theorem za(N:Nat)(q:Qy)(b:Bx):EB (Xj N) Az [.tmp 4] [[.bool]] [(Qy.V q),(Bx.V b)]=(cond (F6 q) (cond (!Bx.emp b) (cond (AE (Qy.ft q=ic 0)) (AA (.bool (AE (Sp.lo (Bx.s0 b)<Sp.hi (Bx.s4 b))),[])) (cond (AE (Qy.ft q=ic 1)) (AA (.bool (AE (Sp.lo (Bx.s1 b)<Sp.hi (Bx.s4 b))),[])) (cond (AE (Qy.ft q=ic 2)) (AA (.bool (AE (Sp.lo (Bx.s2 b)<Sp.hi (Bx.s4 b))),[])) (cond (AE (Qy.ft q=ic 3)) (AA (.bool (AE (Sp.lo (Bx.s3 b)<Sp.hi (Bx.s4 b))),[])) (cond (AE (Qy.ft q=ic 4)) (AA (.bool (AE (Sp.lo (Bx.s4 b)<Sp.hi (Bx.s4 b))),[])) AB))))) (AA (.bool AD,[]))) (AA (.bool AD,[]))):=AF
def Xh(N:Nat):Env:=EI [(207,SS),(242,dU),(243,dW),(241,QH)] [] 54 N
theorem yy(N:Nat)(m:Md)(q:Qy)(b:Bx):EB (Xh N) Ax [.tmp 6,.tmp 7,.tmp 8] [[.z],[.z],[.bool]] [(Md.V m),(Qy.V q),(Bx.V b)]=(cond (!F6 q) (AA (.tup [.i 0,.i 0,.bool AD],[])) (cond (!F9 m (Qy.c q) (JV q b)) (AA (.tup [.i 0,.i 0,.bool AD],[])) (cond (!F9 m (Qy.c q) (J0 q b)) (AA (.tup [.i 0,.i 0,.bool AD],[])) (AA (.tup [.i (AI AJ (EK m (Qy.c q) (J0 q b)-EE m (Qy.c q) (JV q b))),.i (AI AJ (EE m (Qy.c q) (J0 q b)-EK m (Qy.c q) (JV q b))),.bool AC],[]))))):=AF
def Xs(N:Nat):Env:=EI [(208,cQ),(207,SS),(174,LV),(210,dT),(209,dV),(93,OK)] [] 86 N
theorem zo(N:Nat)(m:Md)(a1:Qy)(a2:Bx):EB (Xs N) Bi [.tmp 6] [[.bool]] [(Md.V m),(Qy.V a1),(Bx.V a2)]=(cond (!E8 m a1) (AA (.bool AD,[])) (cond (Bx.emp a2) (AA (.bool AC,[])) (cond (Qy.k a1==1) (cond (F9 m (Qy.c a1) a2) (cond (AE (Qy.lo a1<=EK m (Qy.c a1) a2)) (AA (.bool (AE (EE m (Qy.c a1) a2<=Qy.hi a1)),[])) (AA (.bool AD,[]))) (AA (.bool AD,[]))) (cond (Qy.k a1==2) (cond (MW m (Qy.c a1) a2) (AA (.bool (AE (TL m (Qy.c a1) a2>0)),[])) (AA (.bool AD,[]))) (cond (!P1 a1 a2) (AA (.bool AC,[])) (cond (Qy.fl a1) (cond (KV m a1 a2) (AA (.bool (AE (RM m a1 a2<=0)),[])) (AA (.bool AD,[]))) (cond (KV m a1 a2) (AA (.bool (AE (RN m a1 a2>=0)),[])) (AA (.bool AD,[]))))))))):=AF
def Xt(N:Nat):Env:=EI [(63,cT)] [] 9 N
theorem zq(N:Nat)(b:Bx):EB (Xt N) Bj [.cell 2 48,.tmp 3] [[.z,.z,.z,.z],[.z]] [(Bx.V b)]=(AA (.tup [(Pt.V (Bx.low b)),.i (Sp.hi (Bx.s4 b))],[])):=AF
def PK(N:Nat):Env:=EI [(96,d7)] [(2,⟨[3,4,5,6,7,8,11],[3,4,5],[]⟩)] 31 N
abbrev V6(m:Md)(q:Qy)(b:Bx)(x6 x7:Int)(b8:Bool)(x11:Int):St:=⟨[(3,(.ptr 3 0 0)),(4,(.ptr 4 0 0)),(5,(.ptr 5 0 0)),(6,(.i x6)),(7,(.i x7)),(8,(.bool b8)),(11,(.i x11))],[(3,(AA (.box (Md.cs m)))),(4,(AA (.box (Qy.cs q)))),(5,(AA (.box (Bx.cs b))))]⟩
theorem zt(N:Nat)(m:Md)(q:Qy)(b:Bx):EB (PK N) S6 [.tmp 6,.tmp 7,.tmp 8] [[.z],[.z],[.bool]] [(Md.V m),(Qy.V q),(Bx.V b)]=(D7 (PK N) (DU S6 [1,0,1,0,0]) ⟨[3,4,5,6,7,8,11],[3,4,5],[]⟩ N (V6 m q b 0 0 AD 0) (DZ 0 (D1 (PK N) (DU S6 [1,1]) (D4 (PK N) AB [.tmp 6,.tmp 7,.tmp 8] [[.z],[.z],[.bool]])))):=AF
theorem Sm(N:Nat)(m:Md)(q:Qy)(b:Bx)(x6 x7:Int)(b8:Bool)(x11:Int)(again:St->DW)(k:Out->St->DW):E3 (PK N) (DU S6 [1,0,1,0,0]) (V6 m q b x6 x7 b8 x11) (ES again ⟨[3,4,5,6,7,8,11],[3,4,5],[]⟩ k)=(cond (AE (x11<5)) (cond (ET m&&GZ x11) (cond (AE (ic (AN (iZ (E1 m q b (AM x11))))>0)) (cond (AE (0<=AI AJ (Int.tdiv (AI AJ (ic (AN (iZ (E1 m q b (AM x11))))-1)) 2))&&AE (AI AJ (Int.tdiv (AI AJ (ic (AN (iZ (E1 m q b (AM x11))))-1)) 2)<ic (AN (iZ (E1 m q b (AM x11)))))) (k .ret (V6 m q b x11 (IV.toInt (AQ (iZ (E1 m q b (AM x11))) (AM (AI AJ (Int.tdiv (AI AJ (ic (AN (iZ (E1 m q b (AM x11))))-1)) 2))) default)) AC x11)) AB) (again (V6 m q b x6 x7 b8 (AI AJ (x11+1))))) AB) (k (.exit 0) (V6 m q b x6 x7 b8 x11))):=AF
theorem jg(N:Nat)(m:Md)(q:Qy)(b:Bx)(x6 x7:Int)(b8:Bool)(x11:Int):(DZ 0 (D1 (PK N) (DU S6 [1,1]) (D4 (PK N) AB [.tmp 6,.tmp 7,.tmp 8] [[.z],[.z],[.bool]]))) (.exit 0) (V6 m q b x6 x7 b8 x11)=(AA (.tup [.i 0,.i 0,.bool AD],[])):=AF
theorem jh(N:Nat)(m:Md)(q:Qy)(b:Bx)(x6 x7:Int)(b8:Bool)(x11:Int):(DZ 0 (D1 (PK N) (DU S6 [1,1]) (D4 (PK N) AB [.tmp 6,.tmp 7,.tmp 8] [[.z],[.z],[.bool]]))) .ret (V6 m q b x6 x7 b8 x11)=(AA (.tup [.i x6,.i x7,.bool b8],[])):=AF
open Go Go.Proofs
set_option maxRecDepth 100000
theorem Gm{i:Int}(h:GZ i=AC):i=0\/i=1\/i=2\/i=3\/i=4:=by
 unfold GZ at h;simp only[AP,AW]at h;omega
theorem Qf:D9 PR B0 220 W5:=by
 refine EJ [] [] W5 [[.z,.z]] Tryz.func220 sk trivial ?_;intro vs r hwf h;unfold W5 at h;split at h
 .rw[R.get_ok]at h;exact⟨0,(zaI 0).trans h⟩
 .simp[R.get]at h
theorem zeJ:D9 PR B0 219 fH:=by
 refine EJ [(220,W5)] [] fH [[.z,.z]] Tryz.func219 sm ⟨Qf,trivial⟩ ?_;intro vs r hwf h;unfold fH at h;split at h
 .rename_i lo hi;rw[R.get_ok]at h;refine⟨0,?_⟩;rw[<-h];refine(zaJ 0 lo hi).trans ?_;unfold LT;cases AE (lo>hi)<;>rfl
 .simp[R.get]at h
theorem Qd:D9 PR B0 191 W3:=by
 refine EJ [] [] W3 [[.bool]] Tryz.func191 si trivial ?_;intro vs r hwf h;unfold W3 at h;split at h
 .rename_i s;replace h:=jZ h;obtain⟨s,rfl,h⟩:=h;rw[R.get_ok]at h;exact⟨0,(zaG 0 s).trans h⟩
 .simp[R.get]at h
theorem Qe:D9 PR B0 127 W4:=by
 refine EJ [] [] W4 [[.bool]] Tryz.func127 sj trivial ?_;intro vs r hwf h;unfold W4 at h;split at h
 .rename_i s n;replace h:=jZ h;obtain⟨s,rfl,h⟩:=h;rw[R.get_ok]at h;refine⟨0,?_⟩;rw[<-h];refine(zaH 0 s n).trans ?_;unfold Sp.has;cases AE (s.lo<=n)<;>rfl
 .simp[R.get]at h
theorem zeI:D9 PR B0 181 kC:=by
 refine EJ [(220,W5),(219,fH)] [] kC [[.z,.z],[.z,.z]] Tryz.func181 sf ⟨Qf,zeJ,trivial⟩ ?_;intro vs r hwf h;unfold kC at h;split at h
 .rename_i s n;replace h:=jZ h;obtain⟨s,rfl,h⟩:=h;rw[R.get_ok]at h;refine⟨0,?_⟩;rw[<-h];refine(zaF 0 s n).trans ?_;unfold Sp.cutH;cases AE (n>=s.hi)<;>rfl
 .simp[R.get]at h
theorem zcZ(b:Bx):EB (Wl 6) z9 [.tmp 2] [[.bool]] [b.V]=
 cond b.s0.emp (AA (.bool AC,[])) (cond b.s1.emp (AA (.bool AC,[])) (cond b.s2.emp (AA (.bool AC,[])) (cond b.s3.emp (AA (.bool AC,[])) (cond b.s4.emp (AA (.bool AC,[])) (AA (.bool AD,[])))))):=AF
theorem YP:D9 PR B0 174 LV:=by
 refine EJ [(191,W3)] [(2,⟨[2,5,6],[],[]⟩)] LV [[.bool]] Tryz.func174 nh ⟨Qd,trivial⟩ ?_;intro vs r hwf h;unfold LV at h;split at h
 .rename_i b;replace h:=H4 h;obtain⟨b,rfl,h⟩:=h;rw[R.get_ok]at h;refine⟨6,?_⟩;rw[<-h];refine(zcZ b).trans ?_;unfold Bx.emp;cases b.s0.emp<;>cases b.s1.emp<;>cases b.s2.emp<;>cases b.s3.emp<;>cases b.s4.emp<;>rfl
 .simp[R.get]at h
theorem zc0(b:Bx):EB (Wn 5) Ab [.cell 2 48] [[.z,.z,.z,.z]] [b.V]=AA (b.low.V,[]):=AF
theorem zdz:D9 PR B0 63 cT:=by
 refine EJ [] [(3,⟨[1,2,3,5],[1,2,3],[]⟩)] cT [[.z,.z,.z,.z]] Tryz.func63 nk trivial ?_;intro vs r hwf h;unfold cT at h;split at h
 .rename_i b;replace h:=H4 h;obtain⟨b,rfl,h⟩:=h;rw[R.get_ok]at h;exact⟨5,(zc0 b).trans h⟩
 .simp[R.get]at h
theorem nT:D9 PR B0 124 QG:=by
 refine EJ [(181,kC)] [] QG [[.z,.z,.z,.z,.z,.z,.z,.z,.z,.z],[.z,.z,.z,.z,.z,.z,.z,.z,.z,.z]] Tryz.func124 nf ⟨zeI,trivial⟩ ?_;intro vs r hwf h;unfold QG at h;split at h
 .rename_i b i a;replace h:=H4 h;obtain⟨b,rfl,h⟩:=h;cases hg:(GZ i)with
  |false=>rw[hg]at h;simp[R.get]at h
  |true=>
  rw[hg,R.get_br,DS,R.get_ok]at h;refine⟨0,?_⟩;rw[<-h];rcases Gm hg with rfl|rfl|rfl|rfl|rfl<;>kernel_rfl
 .simp[R.get]at h
theorem Qc:D9 PR B0 97 W2:=by
 refine EJ [] [] W2 [[.bool]] Tryz.func97 rv trivial ?_;intro vs r hwf h;unfold W2 at h;split at h
 .rename_i q;replace h:=I2 h;obtain⟨q,rfl,h⟩:=h;rw[R.get_ok]at h;refine⟨0,?_⟩;rw[<-h];refine(zat 0 q).trans ?_;unfold F6;cases(q.k==3)<;>cases AE (q.ft>=0)<;>rfl
 .simp[R.get]at h
theorem nU:D9 PR B0 241 QH:=by
 refine EJ [] [] QH [[.bool]] Tryz.func241 qg trivial ?_;intro vs r hwf h;unfold QH at h;split at h
 .rename_i q;replace h:=I2 h;obtain⟨q,rfl,h⟩:=h;rw[R.get_ok]at h;refine⟨0,?_⟩;rw[<-h];refine(zd 0 q).trans ?_;unfold F6;cases(q.k==3)<;>cases AE (q.ft>=0)<;>rfl
 .simp[R.get]at h
theorem QU{q:Qy}(h:F6 q=AC):q.ft=0\/q.ft=1\/q.ft=2\/q.ft=3:=by
 unfold F6 at h;simp only[AP,AW]at h;omega
theorem zd7:D9 PR B0 242 dU:=by
 refine EJ [(241,QH)] [] dU [[.z,.z,.z,.z,.z,.z,.z,.z,.z,.z]] Tryz.func242 qd ⟨nU,trivial⟩ ?_;intro vs r hwf h;unfold dU at h;split at h
 .rename_i q b;replace h:=I2 h;obtain⟨q,rfl,h⟩:=h;replace h:=H4 h;obtain⟨b,rfl,h⟩:=h;rw[R.get_ok]at h;refine⟨0,?_⟩;rw[<-h];refine(yz 0 q b).trans ?_;unfold JV;cases F6 q<;>rfl
 .simp[R.get]at h
theorem zd9:D9 PR B0 243 dW:=by
 refine EJ [(241,QH)] [] dW [[.z,.z,.z,.z,.z,.z,.z,.z,.z,.z]] Tryz.func243 qf ⟨nU,trivial⟩ ?_;intro vs r hwf h;unfold dW at h;split at h
 .rename_i q b;replace h:=I2 h;obtain⟨q,rfl,h⟩:=h;replace h:=H4 h;obtain⟨b,rfl,h⟩:=h;rw[R.get_ok]at h;refine⟨0,?_⟩;rw[<-h];refine(zb 0 q b).trans ?_;unfold J0;cases hp:F6 q with
  |false=>rfl
  |true=>rcases QU hp with e|e|e|e<;>rw[e]<;>rfl
 .simp[R.get]at h
theorem zd8:D9 PR B0 209 dV:=by
 refine EJ [(174,LV),(241,QH)] [] dV [[.bool]] Tryz.func209 qe ⟨YP,nU,trivial⟩ ?_;intro vs r hwf h;unfold dV at h;split at h
 .rename_i q b;replace h:=I2 h;obtain⟨q,rfl,h⟩:=h;replace h:=H4 h;obtain⟨b,rfl,h⟩:=h;rw[R.get_ok]at h;refine⟨0,?_⟩;rw[<-h];refine(za 0 q b).trans ?_;unfold P1;cases hp:F6 q with
  |false=>rfl
  |true=>cases b.emp<;>rcases QU hp with e|e|e|e<;>rw[e]<;>rfl
 .simp[R.get]at h
theorem Qb:D9 PR B0 38 W1:=by
 refine EJ [(97,W2)] [] W1 [[.z,.z,.z,.z,.z,.z,.z,.z,.z,.z]] Tryz.func38 rt ⟨Qc,trivial⟩ ?_;intro vs r hwf h;unfold W1 at h;split at h
 .rename_i q;replace h:=I2 h;obtain⟨q,rfl,h⟩:=h;rw[R.get_ok]at h;refine⟨0,?_⟩;rw[<-h];refine(zar 0 q).trans ?_;unfold GG;cases hp:F6 q with
  |false=>rfl
  |true=>rcases QU hp with e|e|e|e<;>rw[e]<;>rfl
 .simp[R.get]at h
theorem zew:D9 PR B0 128 eY:=by
 refine EJ [(97,W2)] [] eY [[.z,.z,.z,.z]] Tryz.func128 rr ⟨Qc,trivial⟩ ?_;intro vs r hwf h;unfold eY at h;split at h
 .rename_i q p t;replace h:=I2 h;obtain⟨q,rfl,h⟩:=h;replace h:=Q7 h;obtain⟨p,rfl,h⟩:=h;rw[R.get_ok]at h;refine⟨0,?_⟩;rw[<-h];refine(zaq 0 q p t).trans ?_;unfold IA;cases hp:F6 q with
  |false=>rfl
  |true=>rcases QU hp with e|e|e|e<;>rw[e]<;>rfl
 .simp[R.get]at h
def YL(d i:Int)(s:Sp)(rest:DW):DW:=
 cond (AE (i>=d)) (cond (!((s.lo==0)&&((s.hi==0)&&AC))) (AA (.bool AD,[])) (cond s.emp (AA (.bool AD,[])) (cond (!(EV s.lo)) (AA (.bool AD,[])) (cond (!(EV s.hi)) (AA (.bool AD,[])) rest))))
  (cond s.emp (AA (.bool AD,[])) (cond (!(EV s.lo)) (AA (.bool AD,[])) (cond (!(EV s.hi)) (AA (.bool AD,[])) rest)))
theorem i6(d i:Int)(s:Sp)(rest:DW):YL d i s rest=cond (IB d i s) rest (AA (.bool AD,[])):=by
 unfold YL IB;rw[CJ];cases AE (i>=d)<;>cases((s.lo==0)&&(s.hi==0))<;>cases s.emp<;>cases EV s.lo<;>cases EV s.hi<;>rfl
theorem zc3(b:Bx)(d:Int):EB (Yl 6) Cd [.tmp 4] [[.bool]] [b.V,.i d]=YL d 0 b.s0 (YL d 1 b.s1 (YL d 2 b.s2 (YL d 3 b.s3 (YL d 4 b.s4 (AA (.bool AC,[])))))):=AF
theorem zey:D9 PR B0 146 e9:=by
 refine EJ [(106,SQ),(191,W3)] [(2,⟨[1,4,7,8],[],[]⟩)] e9 [[.bool]] Tryz.func146 rx ⟨wA,Qd,trivial⟩ ?_;intro vs r hwf h;unfold e9 at h;split at h
 .rename_i b d;replace h:=H4 h;obtain⟨b,rfl,h⟩:=h;rw[R.get_ok]at h;refine⟨6,?_⟩;rw[<-h];refine(zc3 b d).trans ?_;rw[i6,i6,i6,i6,i6];unfold QW;cases IB d 0 b.s0<;>cases IB d 1 b.s1<;>cases IB d 2 b.s2<;>cases IB d 3 b.s3<;>cases IB d 4 b.s4<;>rfl
 .simp[R.get]at h
theorem zex:D9 PR B0 147 eZ:=by
 refine EJ [] [] eZ [[.bool]] Tryz.func147 ru trivial ?_;intro vs r hwf h;unfold eZ at h;split at h
 .rename_i m q;replace h:=IH h;obtain⟨m,rfl,h⟩:=h;replace h:=I2 h;obtain⟨q,rfl,h⟩:=h;rw[R.get_ok]at h;refine⟨0,?_⟩;rw[<-h];refine(zas 0 m q).trans ?_;unfold MR;cases(q.k==1)<;>cases(q.k==2)<;>cases(q.k==3)<;>cases AE (q.lo<=q.hi)<;>cases(q.ft==0)<;>cases AE (m.c>=2)<;>cases(q.lo==0)<;>cases(q.hi==0)<;>cases AE (q.ft>=0)<;>cases AE (q.ft<m.d)<;>rfl
 .simp[R.get]at h
theorem jH:D9 PR B0 93 OK:=by
 refine EJ [(49,M7),(147,eZ),(146,e9)] [] OK [[.bool]] Tryz.func93 rp ⟨bJ,zex,zey,trivial⟩ ?_;intro vs r hwf h;unfold OK at h;split at h
 .rename_i m q;replace h:=IH h;obtain⟨m,rfl,h⟩:=h;replace h:=I2 h;obtain⟨q,rfl,h⟩:=h;rw[R.get_ok]at h;refine⟨0,?_⟩;rw[<-h];refine(zap 0 m q).trans ?_;unfold E8 Qy.bx;generalize QW _ _=rg;cases ET m<;>cases AE (q.c>=0)<;>cases AE (q.c<m.c)<;>cases AE (q.bu>=0)<;>cases AE (q.bu<=65536)<;>cases rg<;>rfl
 .simp[R.get]at h
theorem VD{w:Int}(hb:FJ w=AC)(hl:(DV w).lf=AD):(0<=(DV w).f/\(DV w).f<4)/\(1<=(DV w).l/\(DV w).l<31)/\(1<=(DV w).r/\(DV w).r<31)/\EV (DV w).a=AC:=by
 have h:=(iM hb).2;unfold IQ at h;rw[hl,DT]at h;unfold NY at h;simp only[AP,AW]at h;exact⟨⟨h.2.1,h.2.2.1⟩,h.2.2.2.2.1,h.2.2.2.2.2,h.2.2.2.1⟩
theorem Jt(w:Int):EV (DV w).v=AC:=by
 cases hb:FJ w with
 |false=>
  have e:DV w=Nd.zero:=by unfold DV;rw[hb];rfl
  rw[e];rfl
 |true=>
  have h:=(iM hb).2;unfold IQ at h;cases hl:(DV w).lf with
  |true=>
   rw[hl,DS,AP]at h;exact h.2
  |false=>
   rw[hl,DT,AP,CE]at h;rw[h.1];rfl
abbrev yC(l:LI)(p:Pt)(a j:Int):St:=
 ⟨[(0,(.list AD [(.int .u64)] l)),(3,(.ptr 3 0 0)),(4,(.i 0)),(5,(.ptr 5 0 0)),(6,(.i a)),(9,(.i j))],[(3,(AA (.box (Pt.cs p)))),(5,(AA (.box [(.bool AD),(.i 0),(.i 0),(.i 0),(.i 0),(.i 0)])))]⟩
theorem qQ(N:Nat)(l:LI)(p:Pt):∀(m j n:Nat) (a:Int),0<=a->j+m=31->m<n->
  D7 (LB N) (DU OR [1,1,0,1,0,0]) ⟨[0,3,4,5,6,9],[3,5],[]⟩ n (yC l p a (j:Int)) (DZ 0 (D1 (LB N) (DU OR [1,1,1]) (D4 (LB N) AB [(B9 4),(vbm 5 108)] [[.z],[.bool,.z,.z,.z,.z,.z]])))=
   AA (.tup [.i (HA l p m a).1,(HA l p m a).2.V],[])
 |m,j,0,a,_,_,h=>absurd h AG
 |0,j,n+1,a,ha,hd,_=>by
  have hj:j=31:=by omega
  subst hj;rw[ED,Tp,AS (show¬((31:Nat):Int)<31 by omega),DT];exact Fc N p l _ _ _ _ _ _ _ _ _
 |m+1,j,n+1,a,ha,hd,hn=>by
  have ej:AI AJ ((j:Int)+1)=((j+1:Nat):Int):=GQ AG;rw[ED,Tp,AL (show(j:Int)<31 by omega),DS,HA,ej];cases hge:AE (a>=ic l.length)with
  |true=>
   rw[DS,DS];exact Fc N p l _ _ _ _ _ _ _ _ _
  |false=>
   have hge:=BM hge;rw[DT,DT,AL ha,AL (show a<ic l.length by omega),BX,DS];generalize(l.getD a.toNat default).toInt=w;cases hb:FJ w with
   |false=>
    rw[BG,DS,DS];exact lm N p l _ _ _ _ _ _ _ _ _
   |true=>
    rw[A9,DT,DT];cases hl:(DV w).lf with
    |true=>
     rw[DS,DS];rfl
    |false=>
     obtain⟨⟨f0,f4⟩,⟨l1,l31⟩,⟨r1,r31⟩,_⟩:=VD hb hl;rw[DT,DT];have step:∀c:Bool,(cond c (D7 (LB N) (DU OR [1,1,0,1,0,0]) ⟨[0,3,4,5,6,9],[3,5],[]⟩ n (yC l p (DV w).l ((j+1:Nat):Int)) (DZ 0 (D1 (LB N) (DU OR [1,1,1]) (D4 (LB N) AB [(B9 4),(vbm 5 108)] [[.z],[.bool,.z,.z,.z,.z,.z]]))))
       (D7 (LB N) (DU OR [1,1,0,1,0,0]) ⟨[0,3,4,5,6,9],[3,5],[]⟩ n (yC l p (DV w).r ((j+1:Nat):Int)) (DZ 0 (D1 (LB N) (DU OR [1,1,1]) (D4 (LB N) AB [(B9 4),(vbm 5 108)] [[.z],[.bool,.z,.z,.z,.z,.z]])))))=
       AA (.tup [.i (cond c (HA l p m (DV w).l) (HA l p m (DV w).r)).1,(cond c (HA l p m (DV w).l) (HA l p m (DV w).r)).2.V],[]):=λc=>by
      cases c with
      |true=>exact qQ N l p m (j+1) n (DV w).l AG AG AG
      |false=>exact qQ N l p m (j+1) n (DV w).r AG AG AG
     obtain e|e|e|e:(DV w).f=0\/(DV w).f=1\/(DV w).f=2\/(DV w).f=3:=by omega
     all_goals
      rw[e];exact step _
theorem zeS:D9 PR B0 248 fM:=by
 refine EJ [(51,M8)] [(3,⟨[0,3,4,5,6,9],[3,5],[]⟩)] fM [[.z],[.bool,.z,.z,.z,.z,.z]] Tryz.func248 td ⟨bK,trivial⟩ ?_;intro vs r hwf h;unfold fM at h;split at h
 .rename_i l p;replace h:=Q7 h;obtain⟨p,rfl,h⟩:=h;rw[R.get_ok]at h;refine⟨32,?_⟩;rw[<-h];exact(zaV 32 l p).trans (qQ 32 l p 31 0 32 0 AG rfl AG)
 .simp[R.get]at h
theorem zeR:D9 PR B0 221 fL:=by
 refine EJ [(248,fM)] [] fL [[.z]] Tryz.func221 tc ⟨zeS,trivial⟩ ?_;intro vs r hwf h;unfold fL at h;split at h
 .rename_i l p;replace h:=Q7 h;obtain⟨p,rfl,h⟩:=h;rw[R.get_ok]at h;exact⟨0,(zaU 0 l p).trans h⟩
 .simp[R.get]at h
theorem LX{n:Int}(h:EV n=AC): -2147483648<=n/\n<=2147483647:=by
 unfold EV at h;simpa only[AP,AW]using h
theorem qO(l:LI)(p:Pt):∀(n:Nat) (a:Int),EV (HA l p n a).2.v=AC
 |0,_=>rfl
 |n+1,a=>by
  rw[HA];cases AE (a>=ic l.length)with
  |true=>rfl
  |false=>
   rw[DT];generalize(l.getD a.toNat default).toInt=w;cases FJ w with
   |false=>rfl
   |true=>
    rw[A9,DT];cases(DV w).lf with
    |true=>exact Jt w
    |false=>
     rw[DT];cases AE (p.g (DV w).f.toNat<=(DV w).a)with
     |true=>exact qO l p n _
     |false=>exact qO l p n _
theorem Ve(l:LI)(p:Pt): -2147483648<=G1 l p/\G1 l p<=2147483647:=LX (qO l p 31 0)
theorem JL{m:Md}(h:ET m=AC):(1<=m.d/\m.d<=4)/\(1<=m.c/\m.c<=3)/\m.ts.length<=8/\(EV m.b0=AC/\EV m.b1=AC/\EV m.b2=AC)/\m.ts.all (HN m.d m.c)=AC:=by
 unfold ET GU at h;simp only[AP,CC,B6]at h;obtain⟨⟨h1,h2,h3,h4,h5⟩,⟨h6,h7,h8⟩,h9⟩:=h;exact⟨⟨by omega,by omega⟩,⟨by omega,by omega⟩,AX h5,⟨h6.1,h7.1,h8.1⟩,h9⟩
theorem Dd{m:Md}{k:Int}(h:GR m k=AC):0<=k/\k<m.c:=by
 unfold GR at h;simpa only[AP,AW]using h
theorem gG{m:Md}{k:Int}(hm:ET m=AC)(h:GR m k=AC):k=0\/k=1\/k=2:=by
 have:=Dd h
 have:=(JL hm).2.1
 omega
theorem ZS{m:Md}(hm:ET m=AC)(k:Int): -2147483648<=KU m k/\KU m k<=2147483647:=by
 obtain⟨h0,h1,h2⟩:=(JL hm).2.2.2.1;unfold KU;cases(k==0)with
 |true=>exact LX h0
 |false=>
  cases(k==1)with
  |true=>exact LX h1
  |false=>exact LX h2
abbrev zgg(ts:LI)(p:Pt)(k s i:Int):St:=
 ⟨[(1,(.i k)),(5,(.ptr 5 0 0)),(6,(.i 0)),(7,(.i s)),(15,(.list AC [.z,(.list AD [(.int .u64)])] ts)),(16,(.i (ic (AN ts)))),(17,(.i i))],[(5,(AA (.box (Pt.cs p))))]⟩
theorem qX(N:Nat)(ts:LI)(p:Pt)(k:Int)(hts:ts.length<=8):∀(m i n:Nat) (s:Int),i+m=ts.length->m<n-> -2147483648*(i+1)<=s/\s<=2147483648*(i+1)->
  D7 (MF N) (DU PQ [1,1,0,1,0,0]) ⟨[1,5,6,7,15,16,17],[5],[]⟩ n (zgg ts p k s (i:Int)) (DZ 0 (D1 (MF N) (DU PQ [1,1,1]) (D4 (MF N) AB [(B9 6)] [[.z]])))=
   AA (.i (OU k p (ts.drop i) s),[])
 |m,i,0,s,_,h,_=>absurd h AG
 |0,i,n+1,s,hd,_,_=>by
  have hi:i=ts.length:=by omega
  subst hi;rw[ED,Su,I6 (A5 _),DT,C4];exact jn N p _ _ _ _ _ _
 |m+1,i,n+1,s,hd,hn,hs=>by
  have hi:i<ts.length:=by omega
  have ei:AI AJ ((i:Int)+1)=((i+1:Nat):Int):=GQ AG;rw[ED,Su,ei,H0 hi,DS,IG,BX,DS,IK hi,BD hi,OU];have hv:=Ve (EU ts[i]) p;cases hc:((ts[i].cell 0).toInt==k)with
  |true=>
   rw[DS,DS];have ew:AI AJ (s+G1 (EU ts[i]) p)=s+G1 (EU ts[i]) p:=ER AG AG;have ih:=qX N ts p k hts m (i+1) n (s+G1 (EU ts[i]) p) AG AG AG;rw[<-ew]at ih;refine Eq.trans ih ?_;rw[ew]
  |false=>
   rw[DT,DT];exact qX N ts p k hts m (i+1) n s AG AG AG
theorem zeo:D9 PR B0 182 eG:=by
 refine EJ [(221,fL)] [(3,⟨[1,5,6,7,15,16,17],[5],[]⟩)] eG [[.z]] Tryz.func182 rb ⟨zeR,trivial⟩ ?_;intro vs r hwf h;unfold eG at h;split at h
 .rename_i m k p;replace h:=IH h;obtain⟨m,rfl,h⟩:=h;replace h:=Q7 h;obtain⟨p,rfl,h⟩:=h;cases hg:(ET m&&GR m k)with
  |false=>rw[hg]at h;simp[R.get]at h
  |true=>
  rw[hg,R.get_br,DS,R.get_ok]at h;rw[AP]at hg;have hb:=ZS hg.1 k;have run:=qX 10 m.ts p k (JL hg.1).2.2.1 m.ts.length 0 10 (KU m k) AG (by have:=(JL hg.1).2.2.1;omega) AG;refine⟨10,?_⟩;rw[<-h];refine(zae 10 m k p).trans ?_;rcases gG hg.1 hg.2 with rfl|rfl|rfl<;>exact run
 .simp[R.get]at h
theorem zem:D9 PR B0 126 eD:=by
 refine EJ [(49,M7),(182,eG)] [] eD [[.z]] Tryz.func126 qx ⟨bJ,zeo,trivial⟩ ?_;intro vs r hwf h;unfold eD at h;split at h
 .rename_i m k p;replace h:=IH h;obtain⟨m,rfl,h⟩:=h;replace h:=Q7 h;obtain⟨p,rfl,h⟩:=h;rw[R.get_ok]at h;refine⟨0,?_⟩;rw[<-h];refine(zaa 0 m k p).trans ?_;unfold D3 GR;cases ET m with
  |false=>rfl
  |true=>
   cases h0:AE (k<0)with
   |true=>rw[AS (show¬ 0<=k by have:=BB h0;omega)];rfl
   |false=>
    rw[AL (show 0<=k by have:=BM h0;omega)];cases h1:AE (k>=m.c)with
    |true=>rw[AS (show¬k<m.c by have:=BB h1;omega)];rfl
    |false=>rw[AL (show k<m.c by have:=BM h1;omega)];rfl
 .simp[R.get]at h
abbrev zf5(m:Md)(q:Qy)(p:Pt)(own i:Int):St:=
 ⟨[(4,(.ptr 4 0 0)),(5,(.ptr 5 0 0)),(6,(.ptr 6 0 0)),(8,(.bool AD)),(9,(.i own)),(36,(.i (Md.c m))),(37,(.i i))],[(4,(AA (.box (Md.cs m)))),(5,(AA (.box (Qy.cs q)))),(6,(AA (.box (Pt.cs p))))]⟩
def XC(m:Md)(q:Qy)(p:Pt)(own:Int):Nat->Nat->Bool
 |0,_=>AD
 |d+1,i=>(!((i:Int)==q.c)&&AE (D3 m (i:Int) p>=own))||XC m q p own d (i+1)
theorem o5(m:Md)(q:Qy)(p:Pt)(own:Int):∀d i,XC m q p own d i=(va8 i d).any λc=>!((c:Int)==q.c)&&AE (D3 m (c:Int) p>=own)
 |0,_=>rfl
 |d+1,i=>by rw[XC,o5 m q p own d (i+1),List.range'_succ,List.any_cons]
theorem zQ(N:Nat)(m:Md)(q:Qy)(p:Pt)(own:Int)(hc:0<=m.c/\m.c<=3):∀(d i n:Nat),((i+d:Nat):Int)=m.c->d<n->
  D7 (MG N) (DU OQ [1,1,1,0,1,0,1,1,1,0,0,1,0,0]) ⟨[4,5,6,8,9,36,37],[4,5,6],[]⟩ n (zf5 m q p own (i:Int)) (DZ 1 (D1 (MG N) (DU OQ [1,1,1,0,1,0,1,1,1,0,1]) (DZ 0 (D1 (MG N) (DU OQ [1,1,1,1]) (D4 (MG N) AB [(B9 8)] [[.bool]])))))=
   AA (.bool (XC m q p own d i),[])
 |d,i,0,_,h=>absurd h AG
 |0,i,n+1,hd,_=>by
  rw[ED,Sx,AS (show¬(i:Int)<m.c by omega),DT];exact js N m q p _ _ _ _
 |d+1,i,n+1,hd,hn=>by
  have ei:AI AJ ((i:Int)+1)=((i+1:Nat):Int):=GQ AG;rw[ED,Sx,ei,AL (show(i:Int)<m.c by omega),DS,XC];have ih:=zQ N m q p own hc d (i+1) n AG AG;have en:((i:Int)!=q.c)=!((i:Int)==q.c):=rfl;rw[en];cases((i:Int)==q.c)with
  |true=>exact ih
  |false=>
   rw[BG,DS,BE];cases AE (D3 m (i:Int) p>=own)with
   |true=>exact jt N m q p _ _ _ _
   |false=>exact ih
theorem O6{m:Md}{q:Qy}(h:E8 m q=AC):ET m=AC/\(0<=q.c/\q.c<m.c)/\(0<=q.bu/\q.bu<=65536)/\QW q.bx m.d=AC/\MR m q=AC:=by
 unfold E8 at h;simp only[AP,AW]at h;exact⟨h.1,⟨h.2.1,h.2.2.1⟩,⟨h.2.2.2.1,h.2.2.2.2.1⟩,h.2.2.2.2.2.1,h.2.2.2.2.2.2⟩
theorem aM{m:Md}{q:Qy}(h:MR m q=AC):(q.k=1/\q.lo<=q.hi/\q.ft=0/\q.fl=AD)\/(q.k=2/\2<=m.c/\q.lo=0/\q.hi=0/\q.ft=0/\q.fl=AD)\/(q.k=3/\(0<=q.ft/\q.ft<m.d)/\q.lo=0/\q.hi=0):=by
 unfold MR at h;cases h1:(q.k==1)with
 |true=>
  rw[h1,DS]at h;simp only[AP,AW,CE,CC]at h;exact .inl ⟨CE.1 h1,h⟩
 |false=>
  rw[h1,DT]at h;cases h2:(q.k==2)with
  |true=>
   rw[h2,DS]at h;simp only[AP,AW,CE,CC,ge_iff_le]at h;exact .inr (.inl ⟨CE.1 h2,h⟩)
  |false=>
   rw[h2,DT]at h;cases h3:(q.k==3)with
   |true=>
    rw[h3,DS]at h;simp only[AP,AW,CE,ge_iff_le]at h;exact .inr (.inr ⟨CE.1 h3,⟨h.1,h.2.1⟩,h.2.2⟩)
   |false=>rw[h3,DT]at h;cases h
theorem Qa:D9 PR B0 62 W0:=by
 refine EJ [(126,eD),(93,OK),(128,eY),(127,W4)] [(9,⟨[4,5,6,8,9,36,37],[4,5,6],[]⟩)] W0 [[.bool]] Tryz.func62 ro ⟨zem,jH,zew,Qe,trivial⟩ ?_;intro vs r hwf h;unfold W0 at h;split at h
 .rename_i m q p t;replace h:=IH h;obtain⟨m,rfl,h⟩:=h;replace h:=I2 h;obtain⟨q,rfl,h⟩:=h;replace h:=Q7 h;obtain⟨p,rfl,h⟩:=h;rw[R.get_ok]at h;refine⟨10,?_⟩;rw[<-h];refine(zao 10 m q p t).trans ?_;unfold HK;cases hr:E8 m q with
  |false=>rfl
  |true=>
   obtain⟨hm,_,_,_,hk⟩:=O6 hr;have hmp:=JL hm;rw[A9,DT,BE];cases h1:(q.k==1)with
   |true=>rfl
   |false=>
    rw[DT,DT];cases h2:(q.k==2)with
    |true=>
     rw[DS,DS];refine(zQ 10 m q p _ AG m.c.toNat 0 10 AG AG).trans ?_;rw[o5,<-List.range_eq_range'];rfl
    |false=>
     rw[DT,DT];rcases aM hk with⟨e,_⟩|⟨e,_⟩|⟨_,⟨f0,fd⟩,_⟩
     .rw[e]at h1;cases h1
     .rw[e]at h2;cases h2
     .have step:∀x:Int,cond (AE (x>=t)) (AA (V.bool AD,[])) (cond q.fl (AA (V.bool (AE (D3 m q.c (IA q p t)>D3 m q.c p)),[])) (AA (V.bool (AE (D3 m q.c (IA q p t)<D3 m q.c p)),[])))=
        AA (V.bool (cond (AE (x>=t)) AD (cond q.fl (AE (D3 m q.c (IA q p t)>D3 m q.c p)) (AE (D3 m q.c (IA q p t)<D3 m q.c p)))),([]:List (List V))):=λx=>by
       cases AE (x>=t)with
       |true=>rfl
       |false=>cases q.fl<;>rfl
      obtain e|e|e|e:q.ft=0\/q.ft=1\/q.ft=2\/q.ft=3:=by omega
      all_goals
       rw[e];exact step _
 .simp[R.get]at h
open Go Go.Proofs Go.RowKit Go.Sort
theorem rR(x:Int):∀l,(XX x l).Perm (x::l)
 |[]=>vbL _
 |y::r=>by
  rw[XX];cases AE (x<=y)with
  |true=>exact vbL _
  |false=>exact((rR x r).cons y).trans (List.Perm.swap x y r)
theorem TY:∀l,(LR l).Perm l
 |[]=>vbL _
 |x::r=>(rR x (LR r)).trans ((TY r).cons x)
theorem Gs(x:Int):∀{l:List Int},l.Pairwise (·<=·)->(XX x l).Pairwise (·<=·)
 |[],_=>by simp[XX]
 |y::r,h=>by
  rw[XX];cases hd:AE (x<=y)with
  |true=>
   have hd:=BB hd;rw[DS];rw[vbC]at h ⊢;refine⟨λz hz=>?_,by rw[vbC];exact h⟩;rcases AY.1 hz with rfl|hz
   .exact hd
   .exact Int.le_trans hd (h.1 z hz)
  |false=>
   have hd:=BM hd;rw[DT];rw[vbC]at h ⊢;refine⟨λz hz=>?_,Gs x h.2⟩;rcases AY.1 ((rR x r).mem_iff.1 hz)with rfl|hz
   .omega
   .exact h.1 z hz
theorem wP:∀l,(LR l).Pairwise (·<=·)
 |[]=>List.Pairwise.nil
 |x::r=>Gs x (wP r)
theorem vq(l:List Int):(l.mergeSort λx y=>AE (x<=y))=LR l:=by
 refine List.Perm.eq_of_pairwise (le:=(·<=·)) (λa b _ _ h1 h2=>Int.le_antisymm h1 h2) ?_ (wP l) ((List.mergeSort_perm l _).trans (TY l).symm)
 have:=List.pairwise_mergeSort (le:=λ(x y:Int)=>AE (x<=y)) (λa b c h1 h2=>AL (Int.le_trans (BB h1) (BB h2))) (λa b=>by
  rcases Int.le_total a b with h|h
  .rw[AL h];rfl
  .rw[AL h,Bool.or_true]) l
 exact this.imp λh=>by simpa using h
theorem Dg(x:Int):∀(l:List Int) (p:Int),KW p (l++[x])=KW p l++cond ((l.getLast?.getD p)==x) [] [x]
 |[],p=>by
  show cond (x==p) (KW x []) (x::KW x [])=_;rw[show((([]:List Int).getLast?.getD p)==x)=(x==p) by show(p==x)=(x==p);rw[vac,CE,CE];exact eq_comm];cases(x==p)<;>rfl
 |y::r,p=>by
  rw[C0,KW,KW,Dg x r y];have e:((y::r).getLast?.getD p)=r.getLast?.getD y:=by
   cases r with
   |nil=>rfl
   |cons z r=>rw[List.getLast?_cons_cons,List.getLast?_eq_some_getLast (List.cons_ne_nil z r)];rfl
  rw[e];cases(y==p)<;>rfl
theorem cy(x:Int)(l:List Int):JU (l++[x])=JU l++cond (l.getLast?==AA x) [] [x]:=by
 cases l with
 |nil=>rfl
 |cons y r=>
  rw[C0,JU,JU,Dg,C0];congr 2
  have:((y::r).getLast?==AA x)=(r.getLast?.getD y==x):=by
   cases r with
   |nil=>show(AA y==AA x)=(y==x);rw[vac];simp
   |cons z r=>rw[List.getLast?_cons_cons,List.getLast?_eq_some_getLast (List.cons_ne_nil z r)];rw[vac];simp
  rw[this]
theorem dc(l:List Int):Lib.compact l=JU l:=by
 have key:∀m,m<=l.length->vbq l.toArray m=JU (l.take m):=by
  intro m
  induction m with
  |zero=>intro _;rfl
  |succ m ih=>
   intro hm;have e1:vbq l.toArray (m+1)=vbq l.toArray m++cond (Lib.keeps l.toArray m) [l.toArray[m]!] []:=by
    unfold vbq;rw[List.range_succ,List.filter_append,va5];congr 1;cases hk:Lib.keeps l.toArray m<;>simp[hk]
   have hml:m<l.length:=by omega
   have e2:l.toArray[m]! =l[m]:=by simp[hml]
   rw[e1,ih AG,List.take_succ_eq_append_getElem hml,cy,e2];congr 1;cases m with
   |zero=>simp[Lib.keeps]
   |succ k=>
    have hk:k<l.length:=by omega
    have e3:(l.take (k+1)).getLast?=AA l[k]:=by rw[List.getLast?_take];simp[hk]
    rw[e3];have e4:l.toArray[k]! =l[k]:=by simp[hk]
    cases hq:Lib.keeps l.toArray (k+1)with
    |true=>
     have:¬(l[k+1]=l[k]):=λhe=>by
      rw[Lib.keeps_neg (Nat.succ_pos k) (by show l.toArray[k+1]! =l.toArray[k]!;rw[e2,e4];exact he)]at hq;cases hq
     rw[DS];rw[show(AA l[k]==AA l[k+1])=AD by simp;exact λh=>this h.symm];rfl
    |false=>
     have:l[k+1]=l[k]:=by
      by_cases he:l[k+1]=l[k]
      .exact he
      .rw[Lib.keeps_pos (by show l.toArray[k+1]!≠l.toArray[k]!;rw[e2,e4];exact he)]at hq;cases hq
     rw[DT,this];rw[show(AA l[k]==AA l[k])=AC by simp];rfl
 unfold Lib.compact;rw[key _ (A5 _),BW]
theorem De:∀(l:List Int) (p:Int),(KW p l).length<=l.length
 |[],_=>A5 _
 |x::r,p=>by
  have:=De r x
  rw[KW];cases(x==p)
  .rw[DT,AV,AV];omega
  .rw[DS,AV];omega
theorem kX(l:List Int):(JU l).length<=l.length:=by
 cases l with
 |nil=>exact A5 _
 |cons x r=>rw[JU,AV,AV];have:=De r x;omega
theorem pZ{p x:Int}:∀{l:List Int},x∈KW p l->x∈l
 |[],h=>by cases h
 |y::r,h=>by
  rw[KW]at h;cases hb:(y==p)
  .rw[hb,DT]at h;rcases AY.1 h with h|h
   .exact h▸AZ ..
   .exact A6 _ (pZ h)
  .rw[hb,DS]at h;exact A6 _ (pZ h)
theorem Dh{x:Int}{l:List Int}(h:x∈JU l):x∈l:=by
 cases l with
 |nil=>cases h
 |cons y r=>
  rcases AY.1 h with h|h
  .exact h▸AZ ..
  .exact A6 _ (pZ h)
theorem MP(l:List Int):(iZ l).length=l.length:=B8 ..
theorem rL(l:List Int):(iZ l).map IV.toInt=l:=by
 unfold iZ;rw[List.map_map];exact List.map_id l
theorem pS(l:List Int):NE (iZ l)=l.map (Value.int .i64):=by
 unfold NE iZ;rw[List.map_map];rfl
theorem cj(l:LI):NE l=(l.map IV.toInt).map (Value.int .i64):=by
 unfold NE;rw[List.map_map];rfl
abbrev KC:Int->Value:=Value.int .i64
theorem nB{w:World}{e g n cap:Nat}{zs:List Int}(h:w.ownsRow 0 e 1 (.slice (AA ⟨g,0,AB⟩) n cap) zs.length (zs.map KC)):n=zs.length/\n<=cap/\cap<=maxLen/\g<w.heap.size/\Holds KC w g 0 zs.toArray:=by
 rcases h.2 with⟨h1,_⟩|⟨g',cap',cur,h1,_,h2,h3,h4,h5,h6⟩
 .cases h1
 .simp only[CW,AK,DG,CH]at h1;obtain⟨rfl,rfl,rfl⟩:=h1;refine⟨rfl,h3,h4,(DI.1 h2).1,λj hj=>?_⟩;have hj':j<zs.length:=by simpa using hj
  rw[BS];constructor
  .have hc:cur[j]?=AA (KC zs[j]):=by
    have:(cur.toList.take (zs.length*1))[j]?=AA (KC zs[j]):=by rw[h6];simp[hj']
    rw[C2,B3 AG]at this;simpa using this
   simp only[vaH,h2];simp[hc,hj']
  .simp[World.frozen?,h2]
theorem tq{w:World}{g:Nat}{cur:Array Value}{e:TypeId}{fr:Nat×Nat}(h:w.heap[g]?=AA (.cells cur e fr))(q:Nat)(os:Array Obj)(zs:List Int):
  (grow (putRow KC (vbF w q) g 0 zs.toArray) os).heap[g]?=AA (.cells (putCells KC 0 zs.toArray cur) e fr):=by
 have hg:g<w.heap.size:=(DI.1 h).1;have h0:(putRow KC (vbF w q) g 0 zs.toArray).heap[g]?=AA (.cells (putCells KC 0 zs.toArray cur) e fr):=by
  unfold putRow mapBlock;simp[vaN,onCells,h]
 unfold grow;simp only;rw[Array.getElem?_append_left (by rw[size_putRow];exact hg)];exact h0
theorem zck{cur:Array Value}{zs:List Int}(h:zs.length<=cur.size):(putCells KC 0 zs.toArray cur).size=cur.size/\(putCells KC 0 zs.toArray cur).toList.take zs.length=zs.map KC:=by
 refine⟨by simp[putCells],?_⟩;apply List.ext_getElem?;intro k;rw[C2];by_cases hk:k<zs.length
 .rw[B3 hk];have hc:k<cur.size:=by omega
  simp[putCells,hk,hc]
 .rw[BO hk];simp[hk]
theorem uD{w:World}{e g n cap:Nat}{zs:List Int}(h:w.ownsRow 0 e 1 (.slice (AA ⟨g,0,AB⟩) n cap) zs.length (zs.map KC))(q:Nat)(os:Array Obj)(ys rest:List Int)(hl:(ys++rest).length=zs.length):
  w.grownBy (grow (putRow KC (vbF w q) g 0 (ys++rest).toArray) os) (AA g)/\
   (grow (putRow KC (vbF w q) g 0 (ys++rest).toArray) os).ownsRow 0 e 1 (.slice (AA ⟨g,0,AB⟩) ys.length cap) ys.length (ys.map KC):=by
 have hh:=nB h;rcases h.2 with⟨h1,_⟩|⟨g',cap',cur,h1,_,h2,h3,h4,h5,h6⟩
 .cases h1
 .simp only[CW,AK,DG,CH]at h1;obtain⟨rfl,rfl,rfl⟩:=h1;rw[A2]at hl;have hcur:(ys++rest).length<=cur.size:=by rw[A2];omega
  obtain⟨p1,p2⟩:=zck (zs:=ys++rest) hcur;refine⟨⟨rfl,rfl,rfl,?_,λk hk hne=>?_⟩,by simp,.inr ⟨g,cap,_,rfl,CG _,tq h2 q os _,by omega,h4,by rw[p1,h5],?_⟩⟩
  .show w.heap.size<=((putRow KC (vbF w q) g 0 (ys++rest).toArray).heap++os).size;rw[Array.size_append,size_putRow];exact Nat.le_add_right _ _
  .have hne':g≠k:=λe=>hne (by rw[e])
   unfold grow;simp only;rw[Array.getElem?_append_left (by rw[size_putRow];exact hk)];unfold putRow mapBlock;simp[vaN,hne']
  .rw[Nat.mul_one]
   have:=congrArg (AU ys.length) p2
   rw[List.take_take,vau (by rw[A2];omega),va5,List.take_left' (by simp)]at this;exact this
theorem Ge(w:World)(r:Option Nat):w.grownBy w r:=⟨rfl,rfl,rfl,A5 _,λ_ _ _=>rfl⟩
theorem vO{l:LI}(h:∀x∈l,AJ.min<=x.toInt/\x.toInt<=AJ.max){ys:List Int}(hs:∀y∈ys,y∈l.map IV.toInt):∀x∈iZ ys,AJ.min<=x.toInt/\x.toInt<=AJ.max:=by
 intro x hx;obtain⟨y,hy,rfl⟩:=CV.1 hx;obtain⟨z,hz,hzy⟩:=CV.1 (hs y hy);show AJ.min<=y/\y<=AJ.max;rw[<-hzy];exact h z hz
theorem uB{w:World}{e:Nat}{v:Value}{l:LI}(h:w.ownsRow 0 e 1 v l.length (NE l)):(v=.slice AB 0 0/\l=[])\/∃g cap,v=.slice (AA ⟨g,0,AB⟩) (l.map IV.toInt).length cap/\w.ownsRow 0 e 1 (.slice (AA ⟨g,0,AB⟩) (l.map IV.toInt).length cap) (l.map IV.toInt).length ((l.map IV.toInt).map KC):=by
 rcases h.2 with⟨h1,h2⟩|⟨g,cap,cur,h1,_⟩
 .exact .inl ⟨h1,List.length_eq_zero_iff.1 h2⟩
 .rw[h1]at h;refine .inr ⟨g,cap,by rw[h1,B8],?_⟩;rw[B8,<-cj];exact h
theorem zek:SP PR 194 lS:=by
 intro w v l l' rs ys hown hrng hlen hr hg;unfold lS at hg;simp only at hg;split at hg
 .simp only[AK]at hg;subst hg;obtain rfl:ys=[]:=by
   cases ys with
   |nil=>rfl
   |cons y ys=>simp[VN]at hr
  refine Does.of_calls Tryz.func194 AF AF ?_;have hmem:∀y∈LR (l.map IV.toInt),y∈l.map IV.toInt:=λy hy=>(TY _).mem_iff.1 hy
  rcases uB hown with⟨rfl,rfl⟩|⟨g,cap,rfl,ho⟩
  .refine(Tryz.slices_Sort_int_none AB 0 w).mono ?_;rintro e w' ⟨rfl,rfl⟩;exact⟨_,rfl,Ge _ _,λx hx=>(by cases hx),λh=>(by cases h),λ_=>hown⟩
  .obtain⟨_,_,hcm,hgs,hH⟩:=nB ho;refine(Tryz.slices_Sort_int g 0 cap (l.map IV.toInt) w hH hgs (by rw[B8];unfold strMax at hlen;omega)).mono ?_;rintro e w' ⟨rfl,q,os,rfl⟩;rw[vq];have hl:(LR (l.map IV.toInt)++[]).length=(l.map IV.toInt).length:=by rw[vad];exact(TY _).length_eq
   have hp:=uD ho q os (LR (l.map IV.toInt)) [] hl;rw[vad]at hp hl;refine⟨_,rfl,hp.1,vO hrng hmem,λh=>(by cases h),λ_=>?_⟩;rw[pS,MP,<-hl];exact hp.2
 .cases hg
theorem zei:SP PR 195 lQ:=by
 intro w v l l' rs ys hown hrng hlen hr hg;unfold lQ at hg;simp only at hg;split at hg
 .simp only[AK]at hg;subst hg;obtain rfl:ys=[]:=by
   cases ys with
   |nil=>rfl
   |cons y ys=>simp[VN]at hr
  refine Does.of_calls Tryz.func195 AF AF ?_;rcases uB hown with⟨rfl,rfl⟩|⟨g,cap,rfl,ho⟩
  .refine(Tryz.slices_Compact_int_empty AB 0 w).mono ?_;rintro e w' ⟨rfl,rfl⟩;exact⟨_,rfl,Ge _ _,λx hx=>(by cases hx),λ_=>⟨hown,λb hb=>(by simp[CO]at hb)⟩,λh=>by cases h⟩
  .obtain⟨_,hnc,hcm,hgs,hH⟩:=nB ho;refine(Tryz.slices_Compact_int g 0 cap (l.map IV.toInt) w hH (by rw[B8];unfold strMax at hlen;omega) hnc).mono ?_;rintro e w' ⟨rfl,q,rfl⟩;rw[dc];have hlc:=kX (l.map IV.toInt);have hp:=uD ho q #[] (JU (l.map IV.toInt)) (BU ((l.map IV.toInt).length-(JU (l.map IV.toInt)).length) 0) (by rw[A2,List.length_replicate];omega);rw[grow_empty]at hp;refine⟨_,rfl,hp.1,vO hrng λy hy=>Dh hy,λ_=>⟨?_,λb hb=>.inl hb⟩,λh=>by cases h⟩;rw[pS,MP];exact hp.2
 .cases hg
set_option maxHeartbeats 1000000 in
theorem Du (a b x:Int) (B:Nat) (W:World) (ha:W.cell? ⟨B,0,none⟩=some (.int .i64 a)) (hb:W.cell? ⟨B,1,none⟩=some (.int .i64 b)) :
  FnGives Tryz.prog 152 #[.pointer (some ⟨B,0,none⟩)] #[.int .i64 x] (.bool (decide (x < a)||decide (x≥b))) W:=by
 show Calls Tryz.prog 152 #[.int .i64 x,.pointer (some ⟨B,0,none⟩)] W _
 go_enter Tryz.func152,Tryz.ntmps152
 go_wp2
 all_goals (go_ret; exact ⟨by simp_all,0,rfl⟩)
set_option maxHeartbeats 1000000 in
theorem fb (fv:Value) (w:World):Calls Tryz.prog 150 #[.slice none 0 0,fv] w fun e w'=>e = .returned (.slice none 0 0)∧∃ q,w'=w.drewN q:=by
 go_enter Tryz.func150,Tryz.ntmps150
 go_wp2_with (go_at_call 193; refine (Tryz.slices_IndexFunc_empty (α:=Int) none 0 fv _).mono ?_; rintro e w' ⟨rfl,rfl⟩)
 go_ret
 exact ⟨rfl,0,rfl⟩
theorem zb0{w:World}{v:Value}{f:Nat}{a b:Int}{ys:List Value}(h:VN w v [.clo f [.bor [.int .i64 a,.int .i64 b]]] ys):∃B,ys=[.func (.func f) #[] #[.pointer (AA ⟨B,0,AB⟩)]]/\B<w.heap.size/\w.cell? ⟨B,0,AB⟩=AA (.int .i64 a)/\w.cell? ⟨B,1,AB⟩=AA (.int .i64 b)/\v.ownBlock≠AA B:=by
 cases ys with
 |nil=>simp[VN]at h
 |cons y r=>
  cases r with
  |cons _ _=>simp[VN]at h
  |nil=>
   simp only[VN]at h;obtain⟨B,c,T,rfl,hh,hc,hne⟩:=h;refine⟨B,rfl,(DI.1 hh).1,?_,?_,hne⟩
   .simp only[vaH,hh];rw[<-vaC,hc];rfl
   .simp only[vaH,hh];rw[<-vaC,hc];rfl
theorem zej:SP PR 150 lR:=by
 intro w v l l' rs ys hown hrng hlen hr hg;unfold lR at hg;simp only at hg;split at hg
 .rename_i f a b;cases hf:BZ f 152 with
  |false=>rw[hf,DT]at hg;cases hg
  |true=>
   rw[hf,DS,AK]at hg;subst hg;obtain rfl:=F1.1 hf;obtain⟨B,rfl,hBs,ha,hb,hne⟩:=zb0 hr;have pe:LK a b (l.map IV.toInt)=(l.map IV.toInt).filter λx=>!(AE (x<a)||decide (x>=b)):=rfl
   have eg:∀args w,(callFunc 152 args).run Tryz.prog w=.ok (.enter 152 args) w:=enters_of Tryz.func152 AF rfl;have hp:PredAt Tryz.prog 152 #[.pointer (AA ⟨B,0,AB⟩)] KC (λx=>AE (x<a)||decide (x>=b)) w:=
    λW x hbw=>Du a b x B W ((hbw.cell (p:=⟨B,0,AB⟩) hBs).trans ha) ((hbw.cell (p:=⟨B,1,AB⟩) hBs).trans hb)
   rcases uB hown with⟨rfl,rfl⟩|⟨g,cap,rfl,ho⟩
   .refine Does.of_calls Tryz.func150 AF AF ((fb _ w).mono ?_);rintro e w' ⟨rfl,q,rfl⟩;exact⟨_,rfl,⟨rfl,rfl,rfl,A5 _,λ_ _ _=>rfl⟩,λx hx=>(by cases hx),λ_=>⟨World.ownsRow_nil _ 0 _ _,λb hb=>(by simp[CO]at hb)⟩,λh=>by cases h⟩
   .obtain⟨_,hnc,hcm,hgs,hH⟩:=nB ho;have hBg:B≠g:=λe=>hne (by rw[e];rfl)
    have hpo:PredOver Tryz.prog 152 #[.pointer (AA ⟨B,0,AB⟩)] KC (λx=>AE (x<a)||decide (x>=b)) g 0 (l.map IV.toInt).toArray.size w:=
     λn os dk x _=>by
      have hcell:∀o u,w.cell? ⟨B,o,AB⟩=AA u->(sortWorld KC w g 0 n dk os).cell? ⟨B,o,AB⟩=AA u:=λo u hu=>by
       unfold sortWorld;rw[cell?_grow _ _ _ (by show B<(putRow _ _ _ _ _).heap.size;rw[size_putRow];exact hBs),cell?_putRow_other _ _ g 0 _ _ (Or.inl hBg)];exact hu
      exact Du a b x B _ (hcell 0 _ ha) (hcell 1 _ hb)
    refine Does.of_calls Tryz.func150 AF AF ?_;have hcall:=Tryz.slices_DeleteFunc KC (λ_=>rfl) (λx=>AE (x<a)||decide (x>=b)) 152 #[.pointer (AA ⟨B,0,AB⟩)] eg 0 Tryz.zeroValue3 g 0 cap (l.map IV.toInt).toArray w hp hpo hH (by simp;unfold strMax at hlen;omega) (by simp;rw[B8]at hnc;exact hnc);have es:(l.map IV.toInt).toArray.size=(l.map IV.toInt).length:=by simp
    rw[es]at hcall;refine hcall.mono ?_;rintro e w' ⟨rfl,q,rfl⟩;have ef:(l.map IV.toInt).toArray.toList.filter (λx=>!(AE (x<a)||decide (x>=b)))=LK a b (l.map IV.toInt):=rfl;rw[ef];have hlc:(LK a b (l.map IV.toInt)).length<=(l.map IV.toInt).length:=List.length_filter_le ..
    have hp2:=uD ho q #[] (LK a b (l.map IV.toInt)) (BU ((l.map IV.toInt).length-(LK a b (l.map IV.toInt)).length) 0) (by rw[A2,List.length_replicate];omega);rw[grow_empty]at hp2;refine⟨_,rfl,hp2.1,vO hrng λy hy=>(List.mem_filter.1 hy).1,λ_=>⟨?_,λb hb=>.inl hb⟩,λh=>by cases h⟩;rw[pS,MP];exact hp2.2
 .cases hg
open Go Go.Proofs
set_option maxRecDepth 100000
theorem Ju{dim n:Int}:∀{l:LI} {i k:Nat} (hk:k<l.length),IY dim n i l=AC->FJ (l[k]).toInt=AC/\N2 dim n (i+k) (DV (l[k]).toInt)=AC
 |[],i,k,hk,_=>absurd hk (Nat.not_lt_zero k)
 |w::r,i,0,hk,h=>by
  rw[IY]at h;simp only[AP]at h;exact h.1
 |w::r,i,k+1,hk,h=>by
  rw[IY,AP]at h
  have:=Ju (k:=k) (by simpa using hk) h.2
  rw[show i+1+k=i+(k+1) by omega]at this;exact this
theorem bO{l:LI}{dim:Int}(h:F5 l dim=AC):(1<=l.length/\l.length<=31)/\(∀k (hk:k<l.length),FJ (l[k]).toInt=AC/\N2 dim (ic l.length) k (DV (l[k]).toInt)=AC)/\VH l=AC:=by
 unfold F5 at h;simp only[AP]at h;refine⟨⟨AX h.1.1,AX h.1.2⟩,λk hk=>?_,h.2.2⟩
 have:=Ju hk h.2.1
 rwa [BS]at this
theorem Fv{dim n:Int}{i:Nat}{x:Nd}(h:N2 dim n i x=AC)(hl:x.lf=AD):x.f<dim/\x.l≠x.r/\((i:Int)<x.l/\(i:Int)<x.r)/\(x.l<n/\x.r<n):=by
 unfold N2 at h;rw[hl,DT]at h;simp only[AP,CC,B6,BI]at h;obtain⟨h1,h2,h3,h4⟩:=h;exact⟨by omega,h2,by omega,by omega⟩
theorem zfw{l:LI}{d e:Int}(h:F5 l d=AC)(hde:d<=e):F5 l e=AC:=by
 have key:∀(l:LI) (n:Int) (i:Nat),IY d n i l=AC->IY e n i l=AC:=by
  intro l n
  induction l with
  |nil=>intro _ _;rfl
  |cons w r ih=>
   intro i h;rw[IY]at h ⊢;simp only[AP]at h ⊢;refine⟨⟨h.1.1,?_⟩,ih _ h.2⟩;have h2:=h.1.2;unfold N2 at h2 ⊢;cases hl:(DV w.toInt).lf with
   |true=>rfl
   |false=>
    rw[hl,DT]at h2;rw[DT];simp only[AP,CC,B6]at h2 ⊢;exact⟨by omega,h2.2⟩
 unfold F5 at h ⊢;simp only[AP]at h ⊢;exact⟨h.1,key _ _ _ h.2.1,h.2.2⟩
abbrev uj:KP:=⟨[4,5,6,24,25,26],[20,500],[⟨(.tmp 6),500,264,AC,I7⟩]⟩
abbrev Vv(l:LI)(i:Int)(own out:LI):St:=
 ⟨[(4,.zs),(5,(.row 20 0 l.length)),(6,(.row 500 0 out.length)),(24,(.list AD [(.int .u64)] l)),(25,(.i (ic (AN l)))),(26,(.i i))],[(20,(AA (.row AC 37 AC E5 own))),(500,(AA (.row AC 264 AC I7 out)))]⟩
theorem mJ(N:Nat)(l:LI)(ht:F5 l 4=AC):∀(m i n:Nat) (own out:LI),i+m=l.length->m<n->own.length=l.length->out.length<=i->
  D7 (RF N) (DU U0 [1,1,1,1,1,0,1,0,0]) uj n (Vv l (i:Int) own out) (DZ 0 (D1 (RF N) (DU U0 [1,1,1,1,1,1]) (D4 (RF N) AB [(B9 4)] [[(.list AC I7)]])))=
   AA (.list AC I7 (JW (l.drop i) i own out),[])
 |m,i,0,_,_,_,h,_,_=>absurd h AG
 |0,i,n+1,own,out,hd,_,_,_=>by
  have hi:i=l.length:=by omega
  subst hi;rw[ED,Sn,I6 (A5 _),DT,ji,C4,JW,CA,BW]
 |m+1,i,n+1,own,out,hd,hn,ho,hu=>by
  obtain⟨⟨l1,l31⟩,hat,_⟩:=bO ht;have hi:i<l.length:=by omega
  have ei:AI AJ ((i:Int)+1)=((i+1:Nat):Int):=GQ AG;obtain⟨hb,hf⟩:=hat i hi;have io:AE ((i:Int)<ic (l.length-0))=AC:=H0 hi;rw[ED,Sn,ei,H0 hi,DS,IG,BX,DS,IK hi,io,BX,BH,BD hi,JW];simp only[BS];cases hl:(DV (l[i]).toInt).lf with
  |true=>
   rw[A9,DT,DS,DS,BE];have e1:K0 (DV (l[i]).toInt) i own=own:=by unfold K0;rw[hl,DS]
   rw[e1];cases(EC (own.getD i default)).emp with
   |true=>exact mJ N l ht m (i+1) n own out AG AG ho AG
   |false=>
    have ih:=mJ N l ht m (i+1) n own (out++[YI (EC (own.getD i default)) (DV (l[i]).toInt).v]) AG AG ho (by rw[A2];simp;omega);unfold Vv at ih;rw[A2,DD]at ih;rw[BG,DS,DS,AL (show(out.length+1)*88<=EM by unfold EM;omega),DS,BW];exact ih
  |false=>
   obtain⟨f4,_,_,⟨ln,rn⟩⟩:=Fv hf hl;obtain⟨⟨f0,_⟩,⟨a1,_⟩,⟨b1,_⟩,_⟩:=VD hb hl;have hp:GZ (DV (l[i]).toInt).f=AC:=by unfold GZ;rw[AL f0,AL AG];rfl
   have el:(AE (0<=(DV (l[i]).toInt).l)&&AE ((DV (l[i]).toInt).l<ic (l.length-0)))=AC:=by rw[AL AG,AL (show(DV (l[i]).toInt).l<ic (l.length-0)from ln)];rfl
   have er:(AE (0<=(DV (l[i]).toInt).r)&&AE ((DV (l[i]).toInt).r<ic (l.length-0)))=AC:=by rw[AL AG,AL (show(DV (l[i]).toInt).r<ic (l.length-0)from rn)];rfl
   rw[BG,DS,DS,hp,DS,el,DS,er,DS,BP,DT];have e1:K0 (DV (l[i]).toInt) i own=(own.set (DV (l[i]).toInt).l.toNat ((EC (own.getD i default)).cutL (DV (l[i]).toInt).f (DV (l[i]).toInt).a).I).set (DV (l[i]).toInt).r.toNat ((EC (own.getD i default)).cutH (DV (l[i]).toInt).f (DV (l[i]).toInt).a).I:=by unfold K0;rw[hl,DT]
   rw[e1];exact mJ N l ht m (i+1) n _ out AG AG (by rw[DP,DP];exact ho) AG
theorem zel:D9 PR B0 264 eC:=by
 refine EJ [(124,QG),(174,LV),(51,M8),(109,XB)] [(7,⟨[4,5,6,24,25,26],[20,500],[⟨.tmp 6,500,264,AC,[.z,.z,.z,.z,.z,.z,.z,.z,.z,.z,.z]⟩]⟩)] eC [[.list AC [.z,.z,.z,.z,.z,.z,.z,.z,.z,.z,.z]]] Tryz.func264 qw ⟨nT,YP,bK,Qq,trivial⟩ ?_;intro vs r hwf h;unfold eC at h;split at h
 .rename_i l b;replace h:=H4 h;obtain⟨b,rfl,h⟩:=h;rw[R.get_ok]at h;refine⟨40,?_⟩;rw[<-h];refine(zz 40 l b).trans ?_;unfold GS;cases ht:F5 l 4 with
  |false=>rfl
  |true=>
   rw[A9,DT,BE];cases b.emp with
   |true=>rfl
   |false=>
    obtain⟨⟨l1,l31⟩,_,_⟩:=bO ht;have run:=mJ 40 l ht l.length 0 40 ((BU l.length QJ.I).set 0 b.I) [] AG AG (by simp) (CG _);rw[DT,AL (show(0:Int)<=ic l.length by simp only[ic];omega),AL (show ic l.length=ic l.length from rfl),AL (show ic l.length*ic 80<=ic EM by unfold EM;simp only[ic];omega),BX,BX,DS,
     AL (show 0<=0 from A5 0),AL (show(0:Int)<ic (AM (ic l.length)-0) by simp only[ic];omega),BX,DS]
    exact run
 .simp[R.get]at h
abbrev zge(l:LI)(lo hi i:Int):St:=⟨[(4,(.i 0)),(5,(.i 0)),(6,(.bool AD)),(8,(.i lo)),(9,(.i hi)),(26,(.list AC I7 l)),(27,(.i (ic (AN l)))),(28,(.i i))],[]⟩
theorem zP(N:Nat)(l:LI)(hl:l.length<=strMax):∀(m i n:Nat) (lo hi:Int),i+m=l.length->m<n->
  D7 (RB N) (DU UU [1,1,1,1,0,1,0,0]) ⟨[4,5,6,8,9,26,27,28],[],[]⟩ n (zge l lo hi (i:Int)) (DZ 0 (D1 (RB N) (DU UU [1,1,1,1,1]) (D4 (RB N) AB [(B9 4),(B9 5),(B9 6)] [[.z],[.z],[.bool]])))=
   AA (.tup [.i (MX (l.drop i) lo),.i (MV (l.drop i) hi),.bool AC],[])
 |m,i,0,_,_,_,h=>absurd h AG
 |0,i,n+1,lo,hi,hd,_=>by
  have hi:i=l.length:=by omega
  subst hi;rw[ED,Rq,I6 (A5 _),DT,C4];exact gk N _ _ _ _ _ l _ _
 |m+1,i,n+1,lo,hi,hd,hn=>by
  have hi:i<l.length:=by omega
  have mx:strMax=140737488355327:=rfl;have ei:AI AJ ((i:Int)+1)=((i+1:Nat):Int):=GQ AG;rw[ED,Rq,ei,H0 hi,DS,IG,BX,DS,IK hi,BD hi,MX,MV];exact zP N l hl m (i+1) n _ _ AG AG
theorem Il:∀(l:LI) (i:Nat) (own out:LI),(JW l i own out).length<=out.length+l.length
 |[],_,_,out=>A5 _
 |w::r,i,own,out=>by
  rw[JW]
  have:=Il r (i+1) (K0 (DV w.toInt) i own) (cond ((DV w.toInt).lf&&!(EC (own.getD i default)).emp) (out++[YI (EC (own.getD i default)) (DV w.toInt).v]) out)
  refine DF this ?_;cases((DV w.toInt).lf&&!(EC (own.getD i default)).emp)with
  |true=>rw[DS,A2,DD,AV];omega
  |false=>rw[DT,AV];omega
theorem Hw(l:LI)(b:Bx):(GS l b).length<=31:=by
 unfold GS;cases ht:F5 l 4 with
 |false=>exact CG _
 |true=>
  cases b.emp with
  |true=>exact CG _
  |false=>
   have:=Il l 0 ((BU l.length QJ.I).set 0 b.I) []
   have h2:=(bO ht).1.2;simp only[BL,BS]at this;exact DF this h2
theorem zdx:D9 PR B0 240 cR:=by
 refine EJ [(264,eC)] [(6,⟨[4,5,6,8,9,26,27,28],[],[]⟩)] cR [[.z],[.z],[.bool]] Tryz.func240 nc ⟨zel,trivial⟩ ?_;intro vs r hwf h;unfold cR at h;split at h
 .rename_i l b;replace h:=H4 h;obtain⟨b,rfl,h⟩:=h;rw[R.get_ok]at h;refine⟨40,?_⟩;rw[<-h];refine(wy 40 l b).trans ?_;have h31:=Hw l b;unfold G8 G7 P7 TT TS;generalize GS l b=ps at h31 ⊢;cases ps with
  |nil=>rfl
  |cons x r=>
   have run:=zP 40 (x::r) (DF h31 (by decide)) (x::r).length 0 40 (FT x) (FT x) AG AG;have e0:(ic (x::r).length==0)=AD:=by
    simp only[ic,AV,BI];omega
   have e1:(AE (0<=0)&&AE (0<ic (x::r).length))=AC:=by
    rw[AL (show 0<=0 from A5 0),AL (show 0<ic (x::r).length by simp only[ic,AV];omega)];rfl
   rw[e0,DT,e1,DS,DS];exact run
 .simp[R.get]at h
theorem vr{l:LI}:∀{a:Int},EV a=AC->(∀x∈l,EV (FT x)=AC)->EV (MX l a)=AC:=by
 induction l with
 |nil=>intro a h _;exact h
 |cons x r ih=>
  intro a h hx;rw[MX];refine ih ?_ λy hy=>hx y (A6 _ hy)
  have:=LX h
  have:=LX (hx x (AZ ..))
  unfold EV;rw[AL AG,AL AG];rfl
theorem vm{l:LI}:∀{a:Int},EV a=AC->(∀x∈l,EV (FT x)=AC)->EV (MV l a)=AC:=by
 induction l with
 |nil=>intro a h _;exact h
 |cons x r ih=>
  intro a h hx;rw[MV];refine ih ?_ λy hy=>hx y (A6 _ hy)
  have:=LX h
  have:=LX (hx x (AZ ..))
  unfold EV;rw[AL AG,AL AG];rfl
theorem Ik:∀(l:LI) (i:Nat) (own out:LI),(∀x∈out,EV (FT x)=AC)->∀x∈JW l i own out,EV (FT x)=AC
 |[],_,_,_,h=>h
 |w::r,i,own,out,h=>by
  rw[JW];refine Ik r (i+1) _ _ ?_;cases((DV w.toInt).lf&&!(EC (own.getD i default)).emp)with
  |true=>
   intro x hx;rcases A4.1 hx with hx|hx
   .exact h x hx
   .obtain rfl:=B7.1 hx;exact Jt _
  |false=>exact h
theorem uo(l:LI)(b:Bx):∀x∈GS l b,EV (FT x)=AC:=by
 unfold GS;cases(F5 l 4&&!b.emp)with
 |true=>exact Ik _ _ _ _ (λx hx=>by cases hx)
 |false=>intro x hx;cases hx
theorem jM(l:LI)(b:Bx):EV (G8 l b)=AC/\EV (G7 l b)=AC:=by
 unfold G8 G7 P7;have hf:=uo l b;generalize GS l b=ps at hf ⊢;cases ps with
 |nil=>exact⟨rfl,rfl⟩
 |cons x r=>exact⟨vr (hf x (AZ ..)) hf,vm (hf x (AZ ..)) hf⟩
abbrev zgd(ts:LI)(b:Bx)(k lo hi i:Int):St:=⟨[(1,(.i k)),(5,(.ptr 5 0 0)),(6,(.i 0)),(7,(.i 0)),(8,(.bool AD)),(9,(.i lo)),(10,(.i hi)),(42,(.list AC G3 ts)),(43,(.i (ic (AN ts)))),(44,(.i i))],[(5,(AA (.box (Bx.cs b))))]⟩
theorem xA(N:Nat)(ts:LI)(b:Bx)(k:Int)(hts:ts.length<=8):∀(m i n:Nat) (lo hi:Int),i+m=ts.length->m<n->(-2147483648*(i+1)<=lo/\lo<=2147483648*(i+1))->(-2147483648*(i+1)<=hi/\hi<=2147483648*(i+1))->
  D7 (HI N) (DU JJ [1,1,1,0,1,0,0]) ⟨[1,5,6,7,8,9,10,42,43,44],[5],[]⟩ n (zgd ts b k lo hi (i:Int)) (DZ 0 (D1 (HI N) (DU JJ [1,1,1,1]) (D4 (HI N) AB [(B9 6),(B9 7),(B9 8)] [[.z],[.z],[.bool]])))=
   AA (.tup [.i (I1 (λl=>G8 l b) k (ts.drop i) lo),.i (I1 (λl=>G7 l b) k (ts.drop i) hi),.bool AC],[])
 |m,i,0,_,_,_,h,_,_=>absurd h AG
 |0,i,n+1,lo,hi,hd,_,_,_=>by
  have hlt:i=ts.length:=by omega
  subst hlt;rw[ED,Ro,I6 (A5 _),DT,C4];exact gj N b _ _ _ _ _ _ _ _ _
 |m+1,i,n+1,lo,hi,hd,hn,h1,h2=>by
  have hlt:i<ts.length:=by omega
  have ei:AI AJ ((i:Int)+1)=((i+1:Nat):Int):=GQ AG;rw[ED,Ro,ei,H0 hlt,DS,IG,BX,DS,IK hlt,BD hlt,I1,I1];obtain⟨q1,q2⟩:=jM (EU ts[i]) b;have q1:=LX q1;have q2:=LX q2;have en:((ts[i].cell 0).toInt !=k)=!((ts[i].cell 0).toInt==k):=rfl;rw[en];cases((ts[i].cell 0).toInt==k)with
  |true=>
   rw[A9,DT,DS,DS];have ew:AI AJ (lo+G8 (EU ts[i]) b)=lo+G8 (EU ts[i]) b:=ER AG AG;have ew2:AI AJ (hi+G7 (EU ts[i]) b)=hi+G7 (EU ts[i]) b:=ER AG AG;have ih:=xA N ts b k hts m (i+1) n (lo+G8 (EU ts[i]) b) (hi+G7 (EU ts[i]) b) AG AG AG AG;rw[<-ew,<-ew2]at ih;refine Eq.trans ih ?_;rw[ew,ew2]
  |false=>
   rw[BG,DS,DT,DT];exact xA N ts b k hts m (i+1) n lo hi AG AG AG AG
theorem wD:D9 PR B0 207 SS:=by
 refine EJ [(240,cR),(174,LV),(49,M7)] [(5,⟨[1,5,6,7,8,9,10,42,43,44],[5],[]⟩)] SS [[.z],[.z],[.bool]] Tryz.func207 nb ⟨zdx,YP,bJ,trivial⟩ ?_;intro vs r hwf h;unfold SS at h;split at h
 .rename_i m k b;replace h:=IH h;obtain⟨m,rfl,h⟩:=h;replace h:=H4 h;obtain⟨b,rfl,h⟩:=h;rw[R.get_ok]at h;refine⟨10,?_⟩;rw[<-h];refine(wx 10 m k b).trans ?_;unfold EK EE F9;cases hm:ET m with
  |false=>rfl
  |true=>
   rw[A9,DT];cases h0:AE (k<0)with
   |true=>
    have:GR m k=AD:=by unfold GR;rw[AS (show¬ 0<=k by have:=BB h0;omega)];rfl
    rw[this];rfl
   |false=>
    rw[DT];cases h1:AE (k>=m.c)with
    |true=>
     have:GR m k=AD:=by unfold GR;rw[AS (show¬k<m.c by have:=BB h1;omega),DB]
     rw[this];rfl
    |false=>
     have hc:GR m k=AC:=by unfold GR;rw[AL (show 0<=k by have:=BM h0;omega),AL (show k<m.c by have:=BM h1;omega)];rfl
     rw[DT,hc];cases b.emp with
     |true=>rfl
     |false=>
      have hb:=ZS hm k;have run:=xA 10 m.ts b k (JL hm).2.2.1 m.ts.length 0 10 (KU m k) (KU m k) AG (by have:=(JL hm).2.2.1;omega) AG AG;rw[DT];rcases gG hm hc with rfl|rfl|rfl<;>exact run
 .simp[R.get]at h
theorem w8(g:LI->Int)(hg:∀l,-2147483648<=g l/\g l<=2147483648)(k:Int):∀(ts:LI) (s:Int) (n:Nat),(-2147483648*(n:Int)<=s/\s<=2147483648*(n:Int))-> -2147483648*((n+ts.length:Nat):Int)<=I1 g k ts s/\I1 g k ts s<=2147483648*((n+ts.length:Nat):Int)
 |[],s,n,h=>by
  rw[I1];simpa using h
 |t::r,s,n,h=>by
  rw[I1];have h1:=hg (EU t)
  have:=w8 g hg k r (cond (SE t==k) (s+g (EU t)) s) (n+1) (by cases(SE t==k)<;>simp only[BN,BC]<;>omega)
  rw[AV];rw[show n+1+r.length=n+(r.length+1) by omega]at this;exact this
theorem nN{m:Md}(k:Int)(b:Bx):(-34359738368<=EK m k b/\EK m k b<=34359738368)/\(-34359738368<=EE m k b/\EE m k b<=34359738368):=by
 unfold EK EE;cases hs:F9 m k b with
 |false=>simp only[BC];omega
 |true=>
  unfold F9 at hs;simp only[AP]at hs;have hb:=ZS hs.1 k;have h8:=(JL hs.1).2.2.1;have h1:=w8 (λl=>G8 l b) (λl=>by have:=LX (jM l b).1;omega) k m.ts (KU m k) 1 AG;have h2:=w8 (λl=>G7 l b) (λl=>by have:=LX (jM l b).2;omega) k m.ts (KU m k) 1 AG;rw[DS,DS];omega
abbrev zf7(m:Md)(b:Bx)(k lo a:Int)(z:Bool)(i:Int):St:=⟨[(1,(.i k)),(3,(.ptr 3 0 0)),(5,(.ptr 5 0 0)),(6,(.i 0)),(7,(.bool AD)),(8,(.i lo)),(11,(.i a)),(12,(.bool z)),(33,(.i (Md.c m))),(34,(.i i))],[(3,(AA (.box (Md.cs m)))),(5,(AA (.box (Bx.cs b))))]⟩
theorem Iy(N:Nat)(m:Md)(b:Bx)(k:Int)(hc:0<=m.c/\m.c<=3)(lo:Int)(hlo: -34359738368<=lo/\lo<=34359738368):∀(d i n:Nat) (a:Int) (z:Bool),((i+d:Nat):Int)=m.c->d<n->
  D7 (RA N) (DU UT [1,1,1,1,0,1,0,0]) ⟨[1,3,5,6,7,8,11,12,33,34],[3,5],[]⟩ n (zf7 m b k lo a z (i:Int)) (DZ 0 (D1 (RA N) (DU UT [1,1,1,1,1]) (D4 (RA N) AB [(B9 6),(B9 7)] [[.z],[.bool]])))=
   AA (.tup [.i (NH m k lo b d (i:Int) a z),.bool AC],[])
 |d,i,0,_,_,_,h=>absurd h AG
 |0,i,n+1,a,z,hd,_=>by
  rw[ED,Rn,AS (show¬(i:Int)<m.c by omega),DT];exact gi N m b _ _ _ _ _ _ _ _
 |d+1,i,n+1,a,z,hd,hn=>by
  have ei:AI AJ ((i:Int)+1)=((i+1:Nat):Int):=GQ AG;have hs:=(nN (m:=m) (i:Int) b).2;have ew:AI AJ (lo-EE m (i:Int) b)=lo-EE m (i:Int) b:=ER AG AG;have ec:(i:Int)+1=((i+1:Nat):Int):=by omega
  rw[ED,Rn,ei,ew,AL (show(i:Int)<m.c by omega),DS,NH,ec];have ih:=λa z=>Iy N m b k hc lo hlo d (i+1) n a z AG AG
  cases((i:Int)==k)with
  |true=>exact ih a z
  |false=>
   rw[DT,DT];cases z with
   |false=>exact ih _ AC
   |true=>
    rw[A9,DT,vam];cases AE (lo-EE m (i:Int) b<a)with
    |true=>exact ih _ AC
    |false=>exact ih a AC
theorem zdw:D9 PR B0 208 cQ:=by
 refine EJ [(207,SS)] [(6,⟨[1,3,5,6,7,8,11,12,33,34],[3,5],[]⟩)] cQ [[.z],[.bool]] Tryz.func208 na ⟨wD,trivial⟩ ?_;intro vs r hwf h;unfold cQ at h;split at h
 .rename_i m k b;replace h:=IH h;obtain⟨m,rfl,h⟩:=h;replace h:=H4 h;obtain⟨b,rfl,h⟩:=h;rw[R.get_ok]at h;refine⟨10,?_⟩;rw[<-h];refine(ww 10 m k b).trans ?_;unfold TL MW;cases hs:F9 m k b with
  |false=>rfl
  |true=>
   have hm:ET m=AC:=by unfold F9 at hs;simp only[AP]at hs;exact hs.1
   have hc:=(JL hm).2.1;rw[A9,DT];cases h2:AE (m.c<2)with
   |true=>rw[AS (show¬m.c>=2 by have:=BB h2;omega)];rfl
   |false=>
    rw[AL (show m.c>=2 by have:=BM h2;omega),DT];exact Iy 10 m b k AG (EK m k b) (nN k b).1 m.c.toNat 0 10 0 AD AG AG
 .simp[R.get]at h
theorem zd6:D9 PR B0 210 dT:=by
 refine EJ [(207,SS),(242,dU),(243,dW),(241,QH)] [] dT [[.z],[.z],[.bool]] Tryz.func210 qc ⟨wD,zd7,zd9,nU,trivial⟩ ?_;intro vs r hwf h;unfold dT at h;split at h
 .rename_i m q b;replace h:=IH h;obtain⟨m,rfl,h⟩:=h;replace h:=I2 h;obtain⟨q,rfl,h⟩:=h;replace h:=H4 h;obtain⟨b,rfl,h⟩:=h;rw[R.get_ok]at h;refine⟨0,?_⟩;rw[<-h];refine(yy 0 m q b).trans ?_;have h1:=nN (m:=m) q.c (JV q b);have h2:=nN (m:=m) q.c (J0 q b);rw[ER (n:=EK m q.c (J0 q b)-EE m q.c (JV q b)) AG AG,ER (n:=EE m q.c (J0 q b)-EK m q.c (JV q b)) AG AG];unfold RN RM KV;cases F6 q<;>cases F9 m q.c (JV q b)<;>cases F9 m q.c (J0 q b)<;>rfl
 .simp[R.get]at h
theorem zeb:D9 PR B0 169 dY:=by
 refine EJ [(208,cQ),(207,SS),(174,LV),(210,dT),(209,dV),(93,OK)] [] dY [[.bool]] Tryz.func169 qo ⟨zdw,wD,YP,zd6,zd8,jH,trivial⟩ ?_;intro vs r hwf h;unfold dY at h;split at h
 .rename_i m q b;replace h:=IH h;obtain⟨m,rfl,h⟩:=h;replace h:=I2 h;obtain⟨q,rfl,h⟩:=h;replace h:=H4 h;obtain⟨b,rfl,h⟩:=h;rw[R.get_ok]at h;refine⟨0,?_⟩;rw[<-h];refine(zo 0 m q b).trans ?_;unfold GB;cases E8 m q<;>cases b.emp<;>cases(q.k==1)<;>cases(q.k==2)<;>cases F9 m q.c b<;>cases AE (q.lo<=EK m q.c b)<;>cases MW m q.c b<;>cases P1 q b<;>cases q.fl<;>cases KV m q b<;>rfl
 .simp[R.get]at h
theorem zec:D9 PR B0 170 dZ:=by
 refine EJ [(63,cT)] [] dZ [[.z,.z,.z,.z],[.z]] Tryz.func170 qp ⟨zdz,trivial⟩ ?_;intro vs r hwf h;unfold dZ at h;split at h
 .rename_i b;replace h:=H4 h;obtain⟨b,rfl,h⟩:=h;rw[R.get_ok]at h;exact⟨0,(zq 0 b).trans h⟩
 .simp[R.get]at h
theorem zef:D9 PR B0 149 d8:=by
 refine EJ [] [] d8 [[.z]] Tryz.func149 qt trivial ?_;intro vs r hwf h;unfold d8 at h;split at h
 .rename_i q i;replace h:=I2 h;obtain⟨q,rfl,h⟩:=h;rw[R.get_ok]at h;refine⟨0,?_⟩;rw[<-h];refine(zu 0 q i).trans ?_;unfold IJ;cases AE (i>=0)<;>cases AE (i<4)<;>cases(i==4)<;>cases(q.k==3)<;>rfl
 .simp[R.get]at h
def qD(m:Md)(f:Int)(s:Sp):DW:=
 cond (AE (f<0)) (AA (.list AD [.z] [],[]))
  (cond (ET m)
   (cond (BZ (iZ (J1 m.ts f)).length (iZ (J1 m.ts f)).length)
    (cond (CF (iZ (LK s.lo s.hi ((iZ (J1 m.ts f)).map IV.toInt))).length (iZ (J1 m.ts f)).length)
     (AA (.list AD [.z] (A3 0 (AU (iZ (LK s.lo s.hi ((iZ (J1 m.ts f)).map IV.toInt))).length (iZ (LK s.lo s.hi ((iZ (J1 m.ts f)).map IV.toInt))))),[])) AB) AB) AB)
theorem dl{m:Md}(hm:ET m=AC)(f:Int)(s:Sp):qD m f s=AA (.list AD [.z] (iZ (cond (AE (f<0)) [] (LK s.lo s.hi (J1 m.ts f)))),[]):=by
 unfold qD;cases AE (f<0)with
 |true=>rfl
 |false=>
  rw[DT,hm,DS,vbl,DS,rL,DT];have hle:(iZ (LK s.lo s.hi (J1 m.ts f))).length<=(iZ (J1 m.ts f)).length:=by
   rw[MP,MP];exact List.length_filter_le ..
  rw[CU hle,DS,CA,BW]
theorem zc1(m:Md)(q:Qy)(b:Bx):∀i:Nat,i<5->EB (yK 0) pN [.tmp 8] [[.list AD [.z]]] [m.V,q.V,b.V,.i (i:Int)]=qD m (IJ q (i:Int)) (b.g i)
 |0,_=>by kernel_rfl
 |1,_=>by kernel_rfl
 |2,_=>by kernel_rfl
 |3,_=>by kernel_rfl
 |4,_=>by kernel_rfl
 |i+5,h=>absurd h AG
abbrev Hn:KP:=⟨[1,4,5,16,17,18],[500],[⟨(.tmp 5),500,3,AD,[.z]⟩]⟩
abbrev Ho:KP:=⟨[1,4,5,16,17,18,23,24,25],[500],[⟨(.tmp 5),500,3,AD,[.z]⟩]⟩
abbrev oT(f:Int)(ts:LI)(i:Int)(W:LI)(j:Int)(O:LI):St:=
 ⟨[(1,(.i f)),(4,.zs),(5,(.row 500 0 O.length)),(16,(.list AC G3 ts)),(17,(.i (ic ts.length))),(18,(.i i)),(23,(.list AD [(.int .u64)] W)),(24,(.i (ic W.length))),(25,(.i j))],[(500,(AA (.row AC 3 AD [.z] O)))]⟩
theorem oG(N:Nat)(f:Int)(ts:LI)(i:Int)(W:LI)(hW:W.length<=31)(K:Out->St->DW):∀(m j n:Nat) (O:LI),j+m=W.length->m<n->O.length+m<=1000->
  D7 (OH N) (DU PP [1,1,1,0,1,0,0,1,1,0,0,1,1,0,0]) Ho n (oT f ts i W (j:Int) O) K=K (.exit 2) (oT f ts i W (ic W.length) (O++iZ ((W.drop j).flatMap (JR f))))
 |m,j,0,_,_,h,_=>absurd h AG
 |0,j,n+1,O,hd,_,_=>by
  have hj:j=W.length:=by omega
  subst hj;rw[ED,Ss,I6 (A5 _),DT,C4];show K (.exit 2) _=K (.exit 2) (oT f ts i W (ic W.length) (O++[]));rw[vad]
 |m+1,j,n+1,O,hd,hn,hO=>by
  have hj:j<W.length:=by omega
  have ej:AI AJ ((j:Int)+1)=((j+1:Nat):Int):=GQ AG;rw[ED,Ss,ej,H0 hj,DS,IG,BX,DS,IK hj,BD hj,var];unfold JR;cases(DV (W[j]).toInt).lf with
  |true=>
   rw[A9,DT,BP,DT,DK];exact oG N f ts i W hW K m (j+1) n O AG AG AG
  |false=>
   rw[BG,DS,BE];cases((DV (W[j]).toInt).f==f)with
   |false=>
    rw[DT,DT,DK];exact oG N f ts i W hW K m (j+1) n O AG AG AG
   |true=>
    rw[DS,DS,AL (show(O.length+1)*8<=EM by unfold EM;omega),DS,BW];have ih:=oG N f ts i W hW K m (j+1) n (O++[IV.int (DV (W[j]).toInt).a]) AG AG (by rw[A2,DD];omega);rw[vax]at ih;unfold oT at ih ⊢;rw[A2,DD]at ih;exact ih
abbrev yE(f:Int)(ts:LI)(i:Int)(O:LI):St:=
 ⟨[(1,(.i f)),(4,.zs),(5,(.row 500 0 O.length)),(16,(.list AC G3 ts)),(17,(.i (ic ts.length))),(18,(.i i))],[(500,(AA (.row AC 3 AD [.z] O)))]⟩
theorem xF(f:Int):∀W:LI,(W.flatMap (JR f)).length<=W.length
 |[]=>A5 _
 |w::r=>by
  rw[var,A2,AV]
  have:=xF f r
  unfold JR at this ⊢;cases(!(DV w.toInt).lf&&(DV w.toInt).f==f)<;>simp only[BN,BC,BL,DD]<;>omega
theorem Ul{d c:Int}{t:IV}(h:HN d c t=AC):(0<=SE t/\SE t<c)/\F5 (EU t) d=AC:=by
 unfold HN at h;simp only[AP,CC,B6]at h;exact⟨⟨by show 0<=(t.cell 0).toInt;omega,by show(t.cell 0).toInt<c;omega⟩,h.2.2⟩
theorem Uo{d c:Int}{ts:LI}(h:ts.all (HN d c)=AC){t:IV}(ht:t∈ts):(EU t).length<=31:=by
 have:=(Ul (CZ.1 h t ht)).2
 exact(bO this).1.2
theorem Uf(N:Nat)(hN:40<=N)(f:Int)(ts:LI)(hts:ts.length<=8)(hW:∀t∈ts,(EU t).length<=31)(K:Out->St->DW):∀(m i n:Nat) (O:LI),i+m=ts.length->m<n->O.length<=31*i->
  D7 (OH N) (DU PP [1,1,1,0,1,0,0]) Hn n (yE f ts (i:Int) O) K=K (.exit 0) (yE f ts (ic ts.length) (O++iZ (JH (ts.drop i) f)))
 |m,i,0,_,_,h,_=>absurd h AG
 |0,i,n+1,O,hd,_,_=>by
  have hi:i=ts.length:=by omega
  subst hi;rw[ED,Sq,I6 (A5 _),DT,C4];show K (.exit 0) _=K (.exit 0) (yE f ts (ic ts.length) (O++[]));rw[vad]
 |m+1,i,n+1,O,hd,hn,hO=>by
  have hi:i<ts.length:=by omega
  have ei:AI AJ ((i:Int)+1)=((i+1:Nat):Int):=GQ AG;have hw:=hW ts[i] (DC hi);have hl:=xF f (EU ts[i]);rw[ED,Sq,H0 hi,DS,IG,BX,DS,IK hi,BD hi];refine(oG N f ts (i:Int) (EU ts[i]) hw _ (EU ts[i]).length 0 N O AG AG AG).trans ?_;rw[jm,ei,CA];have ih:=Uf N hN f ts hts hW K m (i+1) n (O++iZ ((EU ts[i]).flatMap (JR f))) AG AG (by rw[A2,MP];omega);have e:JH (ts[i]::ts.drop (i+1)) f=(EU ts[i]).flatMap (JR f)++JH (ts.drop (i+1)) f:=by unfold JH;rw[var]
  rw[e];have e2:iZ ((EU ts[i]).flatMap (JR f)++JH (ts.drop (i+1)) f)=iZ ((EU ts[i]).flatMap (JR f))++iZ (JH (ts.drop (i+1)) f):=by unfold iZ;rw[va5]
  rw[e2,<-vax];exact ih
theorem zen:D9 PR B0 151 eE:=by
 refine Px [(49,M7),(51,M8)] [(195,lQ),(194,lS)] [(5,Hn),(8,Ho)] eE [] Tryz.func151 ra ⟨bJ,bK,trivial⟩ ⟨zei,zek,trivial⟩ ?_;intro vs r hwf h;unfold eE at h;split at h
 .rename_i m f;replace h:=IH h;obtain⟨m,rfl,h⟩:=h;cases hm:ET m with
  |false=>rw[hm]at h;simp[R.get]at h
  |true=>
   rw[hm,R.get_br,DS,R.get_ok]at h;refine⟨40,?_⟩;rw[<-h];refine(zad 40 m f).trans ?_;have hmp:=JL hm;rw[hm,A9,DT];refine(Uf 40 AG f m.ts hmp.2.2.1 (λt ht=>Uo hmp.2.2.2.2 ht) _ m.ts.length 0 40 [] AG (by have:=hmp.2.2.1;omega) (CG _)).trans ?_;rw[CA,DK,jl,vbl,DS,rL];have e1:(iZ (LR (JH m.ts f))).length=(iZ (JH m.ts f)).length:=by rw[MP,MP];exact(TY _).length_eq
   have e2:(iZ (JU (LR (JH m.ts f)))).length<=(iZ (JH m.ts f)).length:=by rw[<-e1,MP,MP];exact kX _
   rw[e1,vbl,DS,DS,rL,CU e2,DS,BW];rfl
 .simp[R.get]at h
theorem zee:D9 PR B0 96 d7:=by
 refine Px [(149,d8),(151,eE)] [(150,lR)] [] d7 [[.list AD [.z]]] Tryz.func96 qs ⟨zef,zen,trivial⟩ ⟨zej,trivial⟩ ?_;intro vs r hwf h;unfold d7 at h;split at h
 .rename_i m q b i;replace h:=IH h;obtain⟨m,rfl,h⟩:=h;replace h:=I2 h;obtain⟨q,rfl,h⟩:=h;replace h:=H4 h;obtain⟨b,rfl,h⟩:=h;cases hg:(ET m&&GZ i)with
  |false=>rw[hg]at h;simp[R.get]at h
  |true=>
  rw[hg,R.get_br,DS,R.get_ok]at h;rw[AP]at hg;refine⟨0,?_⟩;rw[<-h];have key:∀k:Nat,k<5->EB (yK 0) pN [.tmp 8] [[.list AD [.z]]] [m.V,q.V,b.V,.i (k:Int)]=AA (.list AD [.z] (iZ (E1 m q b k)),[]):=λk hk=>by
   rw[zc1 m q b k hk,dl hg.1];rfl
  rcases Gm hg.2 with rfl|rfl|rfl|rfl|rfl
  .exact key 0 AG
  .exact key 1 AG
  .exact key 2 AG
  .exact key 3 AG
  .exact key 4 AG
 .simp[R.get]at h
abbrev zf8(m:Md)(q:Qy)(b:Bx)(i:Int):St:=⟨[(3,(.ptr 3 0 0)),(4,(.ptr 4 0 0)),(5,(.ptr 5 0 0)),(6,(.i 0)),(7,(.i 0)),(8,(.bool AD)),(11,(.i i))],[(3,(AA (.box (Md.cs m)))),(4,(AA (.box (Qy.cs q)))),(5,(AA (.box (Bx.cs b))))]⟩
theorem Dv{m:Md}(hm:ET m=AC)(q:Qy)(b:Bx)(i:Nat):(E1 m q b i).length<=248:=by
 have key:∀(ts:LI) (f:Int),(∀t∈ts,(EU t).length<=31)->(JH ts f).length<=31*ts.length:=by
  intro ts f
  induction ts with
  |nil=>intro _;exact A5 _
  |cons t r ih=>
   intro ht;have h1:=ih λu hu=>ht u (A6 _ hu)
   have h2:=xF f (EU t);have h3:=ht t (AZ ..);unfold JH at h1 ⊢;rw[var,A2,AV];omega
 have hmp:=JL hm;have h1:=key m.ts (IJ q (i:Int)) λt ht=>Uo hmp.2.2.2.2 ht
 unfold E1;cases AE (IJ q (i:Int)<0)with
 |true=>exact CG _
 |false=>
  rw[DT];have h2:(LK (b.g i).lo (b.g i).hi (J1 m.ts (IJ q (i:Int)))).length<=(J1 m.ts (IJ q (i:Int))).length:=List.length_filter_le ..
  have h3:(J1 m.ts (IJ q (i:Int))).length<=(JH m.ts (IJ q (i:Int))).length:=by
   unfold J1;exact DF (kX _) (Nat.le_of_eq (TY _).length_eq)
  have:=hmp.2.2.1
  omega
theorem Rh(N:Nat)(m:Md)(hm:ET m=AC)(q:Qy)(b:Bx):∀(d i n:Nat),i+d=5->d<n->
  D7 (PK N) (DU S6 [1,0,1,0,0]) ⟨[3,4,5,6,7,8,11],[3,4,5],[]⟩ n (zf8 m q b (i:Int)) (DZ 0 (D1 (PK N) (DU S6 [1,1]) (D4 (PK N) AB [(B9 6),(B9 7),(B9 8)] [[.z],[.z],[.bool]])))=
   AA (.tup [.i (HX (KG m q b d i)),.i (HD (KG m q b d i)),.bool (KG m q b d i).isSome],[])
 |d,i,0,_,h=>absurd h AG
 |0,i,n+1,hd,_=>by
  have hi:i=5:=by omega
  subst hi;rw[ED,Sm,AS (show¬((5:Nat):Int)<5 by omega),DT];exact jg N m q b _ _ _ _
 |d+1,i,n+1,hd,hn=>by
  have hp:GZ (i:Int)=AC:=by unfold GZ;rw[AL (show(0:Int)<=(i:Int) by omega),AL (show(i:Int)<5 by omega)];rfl
  have ei:AI AJ ((i:Int)+1)=((i+1:Nat):Int):=GQ AG;have hc:=Dv hm q b i;rw[ED,Sm,ei,AL (show(i:Int)<5 by omega),DS,hm,hp,BX,DS,BH,KG,MP];generalize E1 m q b i=cs at hc ⊢;have ed:AE (ic cs.length>0)=AE (cs.length>0):=by rw[vac];simp
  rw[ed];cases hpos:AE (cs.length>0)with
  |true=>
   have hpos:=BB hpos;have ew:AI AJ (Int.tdiv (AI AJ (ic cs.length-1)) 2)=(((cs.length-1)/2:Nat):Int):=by
    have e1:AI AJ (ic cs.length-1)=((cs.length-1:Nat):Int):=by rw[ER (by simp only[ic];omega) (by simp only[ic];omega)];simp only[ic];omega
    have e2:Int.tdiv ((cs.length-1:Nat):Int) 2=(((cs.length-1)/2:Nat):Int):=by
     rw[Int.tdiv_eq_ediv_of_nonneg AG];omega
    rw[e1,e2,ER AG AG]
   have hlt:(cs.length-1)/2<cs.length:=by omega
   rw[DS,ew,IG,AL (show(((cs.length-1)/2:Nat):Int)<ic cs.length by simp only[ic];omega),BX,DS,DS,BH];have eg:IV.toInt (AQ (iZ cs) ((cs.length-1)/2) default)=cs.getD ((cs.length-1)/2) 0:=by
    unfold iZ;rw[BK,BK,CK,BF hlt];rfl
   rw[eg];exact jh N m q b _ _ _ _
  |false=>
   rw[DT,DT];exact Rh N m hm q b d (i+1) n AG AG
theorem zed:D9 PR B0 171 d6:=by
 refine EJ [(96,d7)] [(2,⟨[3,4,5,6,7,8,11],[3,4,5],[]⟩)] d6 [[.z],[.z],[.bool]] Tryz.func171 qr ⟨zee,trivial⟩ ?_;intro vs r hwf h;unfold d6 at h;split at h
 .rename_i m q b;replace h:=IH h;obtain⟨m,rfl,h⟩:=h;replace h:=I2 h;obtain⟨q,rfl,h⟩:=h;replace h:=H4 h;obtain⟨b,rfl,h⟩:=h;cases hg:(ET m)with
  |false=>rw[hg]at h;simp[R.get]at h
  |true=>
  rw[hg,R.get_br,DS,R.get_ok]at h;refine⟨10,?_⟩;rw[<-h];exact(zt 10 m q b).trans (Rh 10 m hg q b 5 0 10 rfl AG)
 .simp[R.get]at h
open Go Go.Proofs
def Ym(N:Nat):Env:=EI [(93,OK),(38,W1)] [] 26 N
theorem zau(N:Nat)(m:Md)(q:Qy):EB (Ym N) Ce [.tmp 4] [[.list AD []]] [(Md.V m),(Qy.V q)]=(cond (!E8 m q) (AA (.bor (GE m q [.zs,.zs,.i 4,.zs,.i 0,.i 0,.i 0,.i 0,.i 0,.i 0,.i 0]),[])) (AA (.bor (GE m q [.vec 37 AC E5 [(Bx.I (GG q))],.zs,.i 0,.zs,.i 0,.i 0,.i 0,.i 0,.i 0,.i 0,.i 0]),[]))):=AF
def j6(N:Nat):Env:=EI [(172,kA)] [] 22 N
theorem zay(N:Nat)(m:Md)(q:Qy)(left u00:LI)(k w0 w1 w2 w3 tw vs sp:Int):EB (j6 N) gC [.cell 2 50] [[.z,.list AC [.bool,.z,.z],.z,.z,.z,.z,.z,.z]] [.bor (GE m q [.vec 37 AC E5 left,.vec 101 AC EX u00,.i k,.zs,.i w0,.i w1,.i w2,.i w3,.i tw,.i vs,.i sp])]=(cond (k==0) (AA (.agg [.i 3,.list AC EX [],.i w0,.i w1,.i w2,.i w3,.i tw,.i sp],[(GE m q [.vec 37 AC E5 (AU (AN left) left),.vec 101 AC EX (AU (AN u00) u00),.i k,.zs,.i w0,.i w1,.i w2,.i w3,.i tw,.i vs,.i sp])])) (AA (.agg [.i k,.list AC EX [],.i w0,.i w1,.i w2,.i w3,.i tw,.i sp],[(GE m q [.vec 37 AC E5 (AU (AN left) left),.vec 101 AC EX (AU (AN u00) u00),.i k,.zs,.i w0,.i w1,.i w2,.i w3,.i tw,.i vs,.i sp])]))):=AF
theorem zaz(N:Nat)(m:Md)(q:Qy)(left:LI)(k w0 w1 w2 w3 tw vs sp:Int):EB (j6 N) gC [.cell 2 50] [[.z,.list AC [.bool,.z,.z],.z,.z,.z,.z,.z,.z]] [.bor (GE m q [.vec 37 AC E5 left,.zs,.i k,.zs,.i w0,.i w1,.i w2,.i w3,.i tw,.i vs,.i sp])]=(cond (k==0) (AA (.agg [.i 3,.list AC EX [],.i w0,.i w1,.i w2,.i w3,.i tw,.i sp],[(GE m q [.vec 37 AC E5 (AU (AN left) left),.zs,.i k,.zs,.i w0,.i w1,.i w2,.i w3,.i tw,.i vs,.i sp])])) (AA (.agg [.i k,.list AC EX [],.i w0,.i w1,.i w2,.i w3,.i tw,.i sp],[(GE m q [.vec 37 AC E5 (AU (AN left) left),.zs,.i k,.zs,.i w0,.i w1,.i w2,.i w3,.i tw,.i vs,.i sp])]))):=AF
theorem zaA(N:Nat)(m:Md)(q:Qy)(left u00 vp:LI)(k w0 w1 w2 w3 tw vs sp:Int):EB (j6 N) gC [.cell 2 50] [[.z,.list AC [.bool,.z,.z],.z,.z,.z,.z,.z,.z]] [.bor (GE m q [.vec 37 AC E5 left,.list AC EX u00,.i k,.list AC EX vp,.i w0,.i w1,.i w2,.i w3,.i tw,.i vs,.i sp])]=(cond (k==0) (cond (CF (AN vp) 100000) (AA (.agg [.i 3,.list AC EX (A3 0 (AU (AN vp) vp)),.i w0,.i w1,.i w2,.i w3,.i tw,.i sp],[(GE m q [.vec 37 AC E5 (AU (AN left) left),.list AC EX u00,.i k,.list AC EX vp,.i w0,.i w1,.i w2,.i w3,.i tw,.i vs,.i sp])])) AB) (cond (CF (AN vp) 100000) (AA (.agg [.i k,.list AC EX (A3 0 (AU (AN vp) vp)),.i w0,.i w1,.i w2,.i w3,.i tw,.i sp],[(GE m q [.vec 37 AC E5 (AU (AN left) left),.list AC EX u00,.i k,.list AC EX vp,.i w0,.i w1,.i w2,.i w3,.i tw,.i vs,.i sp])])) AB)):=AF
theorem zaB(N:Nat)(m:Md)(q:Qy)(k w0 w1 w2 w3 tw vs sp:Int):EB (j6 N) gC [.cell 2 50] [[.z,.list AC [.bool,.z,.z],.z,.z,.z,.z,.z,.z]] [.bor (GE m q [.zs,.zs,.i k,.zs,.i w0,.i w1,.i w2,.i w3,.i tw,.i vs,.i sp])]=(cond (k==0) (AA (.agg [.i 3,.list AC EX [],.i w0,.i w1,.i w2,.i w3,.i tw,.i sp],[(GE m q [.zs,.zs,.i k,.zs,.i w0,.i w1,.i w2,.i w3,.i tw,.i vs,.i sp])])) (AA (.agg [.i k,.list AC EX [],.i w0,.i w1,.i w2,.i w3,.i tw,.i sp],[(GE m q [.zs,.zs,.i k,.zs,.i w0,.i w1,.i w2,.i w3,.i tw,.i vs,.i sp])]))):=AF
def j5(N:Nat):Env:=EI [(124,QG),(169,dY),(170,dZ),(171,d6),(62,W0)] [] 165 N
theorem Jm(N:Nat)(m:Md)(q:Qy)(left u00:LI)(k w0 w1 w2 w3 tw vs sp:Int):EB (j5 N) gB [.tmp 2] [[.bool]] [.bor (GE m q [.vec 37 AC E5 left,.vec 101 AC EX u00,.i k,.zs,.i w0,.i w1,.i w2,.i w3,.i tw,.i vs,.i sp])]=(cond (k !=0) (AA (.bool AD,[(GE m q [.vec 37 AC E5 (AU (AN left) left),.vec 101 AC EX (AU (AN u00) u00),.i k,.zs,.i w0,.i w1,.i w2,.i w3,.i tw,.i vs,.i sp])])) (cond (AE (sp>=Qy.bu q)) (AA (.bool AD,[(GE m q [.vec 37 AC E5 (AU (AN left) left),.vec 101 AC EX (AU (AN u00) u00),.i k,.zs,.i w0,.i w1,.i w2,.i w3,.i tw,.i vs,.i sp])])) (cond (AE (0<=AI AJ (ic (AN left-0)-1))&&AE (AI AJ (ic (AN left-0)-1)<ic (AN left-0))) (cond (AE (0<=AI AJ (ic (AN left-0)-1))&&AE (AI AJ (ic (AN left-0)-1)<=ic (AN left-0))) (cond (GB m q (EC (AQ left (0+AM (AI AJ (ic (AN left-0)-1))) default))) (cond (AE ((AN u00+1)*24<=EM)) (cond (ic (0+AM (AI AJ (ic (AN left-0)-1))-0)==0) (AA (.bool AC,[(GE m q [.vec 37 AC E5 (AU (0+AM (AI AJ (ic (AN left-0)-1))) left),.list AC EX (A3 0 (AU (AN u00+1) (AU (AN u00) u00++[IV.agg [IV.bool AC,IV.int 0,IV.int 0]]))),.i 1,.list AC EX (A3 0 (AU (AN u00+1) (AU (AN u00) u00++[IV.agg [IV.bool AC,IV.int 0,IV.int 0]]))),.i 0,.i 0,.i 0,.i 0,.i 0,.i 0,.i (AI AJ (sp+1))])])) (AA (.bool AC,[(GE m q [.vec 37 AC E5 (AU (0+AM (AI AJ (ic (AN left-0)-1))) left),.vec 101 AC EX (AU (AN u00+1) (AU (AN u00) u00++[IV.agg [IV.bool AC,IV.int 0,IV.int 0]])),.i k,.zs,.i w0,.i w1,.i w2,.i w3,.i tw,.i vs,.i (AI AJ (sp+1))])]))) AB) (cond (HK m q (Bx.low (EC (AQ left (0+AM (AI AJ (ic (AN left-0)-1))) default))) (Sp.hi (Bx.s4 (EC (AQ left (0+AM (AI AJ (ic (AN left-0)-1))) default))))) (AA (.bool AC,[(GE m q [.vec 37 AC E5 (AU (0+AM (AI AJ (ic (AN left-0)-1))) left),.vec 101 AC EX (AU (AN u00) u00),.i 2,.zs,.i (Pt.p0 (Bx.low (EC (AQ left (0+AM (AI AJ (ic (AN left-0)-1))) default)))),.i (Pt.p1 (Bx.low (EC (AQ left (0+AM (AI AJ (ic (AN left-0)-1))) default)))),.i (Pt.p2 (Bx.low (EC (AQ left (0+AM (AI AJ (ic (AN left-0)-1))) default)))),.i (Pt.p3 (Bx.low (EC (AQ left (0+AM (AI AJ (ic (AN left-0)-1))) default)))),.i (Sp.hi (Bx.s4 (EC (AQ left (0+AM (AI AJ (ic (AN left-0)-1))) default)))),.i 0,.i (AI AJ (sp+1))])])) (cond (ET m) (cond (!Option.isSome (EQ m q (EC (AQ left (0+AM (AI AJ (ic (AN left-0)-1))) default)))) (AA (.bool AC,[(GE m q [.vec 37 AC E5 (AU (0+AM (AI AJ (ic (AN left-0)-1))) left),.vec 101 AC EX (AU (AN u00) u00),.i 3,.zs,.i 0,.i 0,.i 0,.i 0,.i 0,.i 0,.i (AI AJ (sp+1))])])) (cond (GZ (HX (EQ m q (EC (AQ left (0+AM (AI AJ (ic (AN left-0)-1))) default))))) (cond (AE ((0+AM (AI AJ (ic (AN left-0)-1))+2)*80<=EM)) (cond (AE ((AN u00+1)*24<=EM)) (AA (.bool AC,[(GE m q [.vec 37 AC E5 (AU (0+AM (AI AJ (ic (AN left-0)-1))+2) (AU (0+AM (AI AJ (ic (AN left-0)-1))) left++[(Bx.I (Bx.cutH (EC (AQ left (0+AM (AI AJ (ic (AN left-0)-1))) default)) (HX (EQ m q (EC (AQ left (0+AM (AI AJ (ic (AN left-0)-1))) default)))) (HD (EQ m q (EC (AQ left (0+AM (AI AJ (ic (AN left-0)-1))) default)))))),(Bx.I (Bx.cutL (EC (AQ left (0+AM (AI AJ (ic (AN left-0)-1))) default)) (HX (EQ m q (EC (AQ left (0+AM (AI AJ (ic (AN left-0)-1))) default)))) (HD (EQ m q (EC (AQ left (0+AM (AI AJ (ic (AN left-0)-1))) default))))))])),.vec 101 AC EX (AU (AN u00+1) (AU (AN u00) u00++[IV.agg [IV.bool AD,IV.int (HX (EQ m q (EC (AQ left (0+AM (AI AJ (ic (AN left-0)-1))) default)))),IV.int (HD (EQ m q (EC (AQ left (0+AM (AI AJ (ic (AN left-0)-1))) default))))]])),.i k,.zs,.i w0,.i w1,.i w2,.i w3,.i tw,.i vs,.i (AI AJ (sp+1))])])) AB) AB) AB)) AB))) AB) AB))):=AF
theorem Jn(N:Nat)(m:Md)(q:Qy)(left:LI)(k w0 w1 w2 w3 tw vs sp:Int):EB (j5 N) gB [.tmp 2] [[.bool]] [.bor (GE m q [.vec 37 AC E5 left,.zs,.i k,.zs,.i w0,.i w1,.i w2,.i w3,.i tw,.i vs,.i sp])]=(cond (k !=0) (AA (.bool AD,[(GE m q [.vec 37 AC E5 (AU (AN left) left),.zs,.i k,.zs,.i w0,.i w1,.i w2,.i w3,.i tw,.i vs,.i sp])])) (cond (AE (sp>=Qy.bu q)) (AA (.bool AD,[(GE m q [.vec 37 AC E5 (AU (AN left) left),.zs,.i k,.zs,.i w0,.i w1,.i w2,.i w3,.i tw,.i vs,.i sp])])) (cond (AE (0<=AI AJ (ic (AN left-0)-1))&&AE (AI AJ (ic (AN left-0)-1)<ic (AN left-0))) (cond (AE (0<=AI AJ (ic (AN left-0)-1))&&AE (AI AJ (ic (AN left-0)-1)<=ic (AN left-0))) (cond (GB m q (EC (AQ left (0+AM (AI AJ (ic (AN left-0)-1))) default))) (cond (ic (0+AM (AI AJ (ic (AN left-0)-1))-0)==0) (AA (.bool AC,[(GE m q [.vec 37 AC E5 (AU (0+AM (AI AJ (ic (AN left-0)-1))) left),.list AC EX [(IV.agg [IV.bool AC,IV.int 0,IV.int 0])],.i 1,.list AC EX [(IV.agg [IV.bool AC,IV.int 0,IV.int 0])],.i 0,.i 0,.i 0,.i 0,.i 0,.i 0,.i (AI AJ (sp+1))])])) (AA (.bool AC,[(GE m q [.vec 37 AC E5 (AU (0+AM (AI AJ (ic (AN left-0)-1))) left),.vec 101 AC EX [(IV.agg [IV.bool AC,IV.int 0,IV.int 0])],.i k,.zs,.i w0,.i w1,.i w2,.i w3,.i tw,.i vs,.i (AI AJ (sp+1))])]))) (cond (HK m q (Bx.low (EC (AQ left (0+AM (AI AJ (ic (AN left-0)-1))) default))) (Sp.hi (Bx.s4 (EC (AQ left (0+AM (AI AJ (ic (AN left-0)-1))) default))))) (AA (.bool AC,[(GE m q [.vec 37 AC E5 (AU (0+AM (AI AJ (ic (AN left-0)-1))) left),.zs,.i 2,.zs,.i (Pt.p0 (Bx.low (EC (AQ left (0+AM (AI AJ (ic (AN left-0)-1))) default)))),.i (Pt.p1 (Bx.low (EC (AQ left (0+AM (AI AJ (ic (AN left-0)-1))) default)))),.i (Pt.p2 (Bx.low (EC (AQ left (0+AM (AI AJ (ic (AN left-0)-1))) default)))),.i (Pt.p3 (Bx.low (EC (AQ left (0+AM (AI AJ (ic (AN left-0)-1))) default)))),.i (Sp.hi (Bx.s4 (EC (AQ left (0+AM (AI AJ (ic (AN left-0)-1))) default)))),.i 0,.i (AI AJ (sp+1))])])) (cond (ET m) (cond (!Option.isSome (EQ m q (EC (AQ left (0+AM (AI AJ (ic (AN left-0)-1))) default)))) (AA (.bool AC,[(GE m q [.vec 37 AC E5 (AU (0+AM (AI AJ (ic (AN left-0)-1))) left),.zs,.i 3,.zs,.i 0,.i 0,.i 0,.i 0,.i 0,.i 0,.i (AI AJ (sp+1))])])) (cond (GZ (HX (EQ m q (EC (AQ left (0+AM (AI AJ (ic (AN left-0)-1))) default))))) (cond (AE ((0+AM (AI AJ (ic (AN left-0)-1))+2)*80<=EM)) (AA (.bool AC,[(GE m q [.vec 37 AC E5 (AU (0+AM (AI AJ (ic (AN left-0)-1))+2) (AU (0+AM (AI AJ (ic (AN left-0)-1))) left++[(Bx.I (Bx.cutH (EC (AQ left (0+AM (AI AJ (ic (AN left-0)-1))) default)) (HX (EQ m q (EC (AQ left (0+AM (AI AJ (ic (AN left-0)-1))) default)))) (HD (EQ m q (EC (AQ left (0+AM (AI AJ (ic (AN left-0)-1))) default)))))),(Bx.I (Bx.cutL (EC (AQ left (0+AM (AI AJ (ic (AN left-0)-1))) default)) (HX (EQ m q (EC (AQ left (0+AM (AI AJ (ic (AN left-0)-1))) default)))) (HD (EQ m q (EC (AQ left (0+AM (AI AJ (ic (AN left-0)-1))) default))))))])),.vec 101 AC EX [(IV.agg [IV.bool AD,IV.int (HX (EQ m q (EC (AQ left (0+AM (AI AJ (ic (AN left-0)-1))) default)))),IV.int (HD (EQ m q (EC (AQ left (0+AM (AI AJ (ic (AN left-0)-1))) default))))])],.i k,.zs,.i w0,.i w1,.i w2,.i w3,.i tw,.i vs,.i (AI AJ (sp+1))])])) AB) AB)) AB))) AB) AB))):=AF
theorem zaw(N:Nat)(m:Md)(q:Qy)(left u00 vp:LI)(k w0 w1 w2 w3 tw vs sp:Int):EB (j5 N) gB [.tmp 2] [[.bool]] [.bor (GE m q [.vec 37 AC E5 left,.list AC EX u00,.i k,.list AC EX vp,.i w0,.i w1,.i w2,.i w3,.i tw,.i vs,.i sp])]=(cond (k !=0) (AA (.bool AD,[(GE m q [.vec 37 AC E5 (AU (AN left) left),.list AC EX u00,.i k,.list AC EX vp,.i w0,.i w1,.i w2,.i w3,.i tw,.i vs,.i sp])])) (cond (AE (sp>=Qy.bu q)) (AA (.bool AD,[(GE m q [.vec 37 AC E5 (AU (AN left) left),.list AC EX u00,.i k,.list AC EX vp,.i w0,.i w1,.i w2,.i w3,.i tw,.i vs,.i sp])])) (cond (AE (0<=AI AJ (ic (AN left-0)-1))&&AE (AI AJ (ic (AN left-0)-1)<ic (AN left-0))) (cond (AE (0<=AI AJ (ic (AN left-0)-1))&&AE (AI AJ (ic (AN left-0)-1)<=ic (AN left-0))) (cond (GB m q (EC (AQ left (0+AM (AI AJ (ic (AN left-0)-1))) default))) AB (cond (HK m q (Bx.low (EC (AQ left (0+AM (AI AJ (ic (AN left-0)-1))) default))) (Sp.hi (Bx.s4 (EC (AQ left (0+AM (AI AJ (ic (AN left-0)-1))) default))))) (AA (.bool AC,[(GE m q [.vec 37 AC E5 (AU (0+AM (AI AJ (ic (AN left-0)-1))) left),.list AC EX u00,.i 2,.zs,.i (Pt.p0 (Bx.low (EC (AQ left (0+AM (AI AJ (ic (AN left-0)-1))) default)))),.i (Pt.p1 (Bx.low (EC (AQ left (0+AM (AI AJ (ic (AN left-0)-1))) default)))),.i (Pt.p2 (Bx.low (EC (AQ left (0+AM (AI AJ (ic (AN left-0)-1))) default)))),.i (Pt.p3 (Bx.low (EC (AQ left (0+AM (AI AJ (ic (AN left-0)-1))) default)))),.i (Sp.hi (Bx.s4 (EC (AQ left (0+AM (AI AJ (ic (AN left-0)-1))) default)))),.i 0,.i (AI AJ (sp+1))])])) (cond (ET m) (cond (!Option.isSome (EQ m q (EC (AQ left (0+AM (AI AJ (ic (AN left-0)-1))) default)))) (AA (.bool AC,[(GE m q [.vec 37 AC E5 (AU (0+AM (AI AJ (ic (AN left-0)-1))) left),.list AC EX u00,.i 3,.zs,.i 0,.i 0,.i 0,.i 0,.i 0,.i 0,.i (AI AJ (sp+1))])])) (cond (GZ (HX (EQ m q (EC (AQ left (0+AM (AI AJ (ic (AN left-0)-1))) default))))) (cond (AE ((0+AM (AI AJ (ic (AN left-0)-1))+2)*80<=EM)) AB AB) AB)) AB))) AB) AB))):=AF
theorem zax(N:Nat)(m:Md)(q:Qy)(k w0 w1 w2 w3 tw vs sp:Int):EB (j5 N) gB [.tmp 2] [[.bool]] [.bor (GE m q [.zs,.zs,.i k,.zs,.i w0,.i w1,.i w2,.i w3,.i tw,.i vs,.i sp])]=(cond (k !=0) (AA (.bool AD,[(GE m q [.zs,.zs,.i k,.zs,.i w0,.i w1,.i w2,.i w3,.i tw,.i vs,.i sp])])) (cond (AE (sp>=Qy.bu q)) (AA (.bool AD,[(GE m q [.zs,.zs,.i k,.zs,.i w0,.i w1,.i w2,.i w3,.i tw,.i vs,.i sp])])) AB)):=AF
open Go Go.Proofs Go.RowKit Go.Sort Go.Lib
theorem ze6:(PR.info? 101).map (λi=>(i.zero,i.size,i.bytes))=AA (AA (.agg #[.bool AD,.int .i64 0,.int .i64 0]),3,24):=AF
set_option maxHeartbeats 4000000 in
theorem cq (b:Addr) (n c:Nat) (news:List Value) (w:World) (hl:news.length=n*3) (hn:n≤maxLen) (hbig:n*24≤140737488355328)
  (hc:∀ j u,news[j]?=some u→w.cell? (b.add j)=some u) (h1:∀ u∈news,u.oneCell'=true) :
  Calls Tryz.prog 172 #[.slice (some b) n c] w fun e w'=>∃ v',e = .returned v'∧w'.ownsRow w.heap.size 101 3 v' n news∧Below w.heap.size w w':=by
 obtain ⟨i0,hi,hz0,hz1,hz2⟩:∃ i,PR.info? 101=some i∧i.zero=some (.agg #[.bool false,.int .i64 0,.int .i64 0])∧i.size=3∧i.bytes=24:=by
  have h:=ze6;rw [Option.map_eq_some_iff] at h;obtain ⟨i,hi,he⟩:=h;simp only [Prod.mk.injEq] at he;exact ⟨i,hi,he⟩
 have qS:∀ (w:World) (a:Option Addr) (n c n' c':Nat),(binOp .eql 46 (.slice a n c) (.slice none n' c')).run Tryz.prog w = .ok (.bool a.isNone) w:=fun w a n c n' c'=>Lib.run_eql_slice_nil w _ _ a n c n' c' Tryz.underlying46
 have A:Aside (∀ j u,news[j]?=some u→w.cell? (b.add j)=some u):=hc;clear hc
 go_enter Tryz.func172,Tryz.ntmps172
 go_wp2_with (at_builtin; refine wpList_append_own _ rfl _ _ 46 rfl w.heap.size 101 i0 (.agg #[.bool false,.int .i64 0,.int .i64 0]) 3 24 Tryz.underlying46 hi hz0 hz1 hz2 rfl (by decide) _ _ _ rfl (World.ownsRow_made w #[] 0 (Nat.le_refl _) (Nat.zero_le _) (by simp)) b n c news rfl ?qc1 ?qc2 ?qc3 ?qc4 ?qc5 ?qc6 ?_)
 case qc1=>exact hl
 case qc2=>
  intro j u hj;exact Lib.cell?_alloc_some _ (A.out j u hj)
 case qc3=>exact h1
 case qc4=>rw [Nat.zero_add]; exact hn
 case qc5=>rw [Nat.zero_add]; exact hbig
 case qc6=>simp
 intro v' w1 hown hgrow hnil
 go_wp2
 go_ret
 refine ⟨v',rfl,by simpa using hown,?_⟩;exact ((Below.refl _ w).alloc (Nat.le_refl _) _).grown hgrow (by simp) (by intro k hk; simp [Value.ownBlock] at hk; omega)
set_option maxHeartbeats 1000000 in
theorem ct (n c:Nat) (w:World):Calls Tryz.prog 172 #[.slice none n c] w fun e w'=>e = .returned (.slice none 0 0)∧w'=w:=by
 have qS:∀ (w:World) (a:Option Addr) (n c n' c':Nat),(binOp .eql 46 (.slice a n c) (.slice none n' c')).run Tryz.prog w = .ok (.bool a.isNone) w:=fun w a n c n' c'=>Lib.run_eql_slice_nil w _ _ a n c n' c' Tryz.underlying46
 go_enter Tryz.func172,Tryz.ntmps172
 go_wp2
 go_ret
 exact ⟨rfl,rfl⟩
def P6(y:IV):Nat->Value
 |0=>.bool (I0 y)
 |1=>.int .i64 (FW y)
 |_=>.int .i64 (GY y)
def Q0(l:LI):List Value:=l.flatMap λy=>[P6 y 0,P6 y 1,P6 y 2]
theorem wR:∀l:LI,(Q0 l).length=l.length*3
 |[]=>rfl
 |y::r=>by
  have:=wR r
  unfold Q0 at this ⊢;rw[var,A2,this,AV];simp;omega
theorem n7:∀(l:LI) (j:Nat) (u:Value),(Q0 l)[j]?=AA u->∃i y k,j=i*3+k/\k<3/\l[i]?=AA y/\u=P6 y k
 |[],j,u,h=>by simp[Q0]at h
 |y::r,j,u,h=>by
  have e:Q0 (y::r)=[P6 y 0,P6 y 1,P6 y 2]++Q0 r:=by unfold Q0;rw[var]
  rw[e]at h
  match j,h with
  |0,h=>exact⟨0,y,0,rfl,by omega,rfl,by simpa using h.symm⟩
  |1,h=>exact⟨0,y,1,rfl,by omega,rfl,by simpa using h.symm⟩
  |2,h=>exact⟨0,y,2,rfl,by omega,rfl,by simpa using h.symm⟩
  |j+3,h=>
   obtain⟨i,z,k,rfl,hk,hi,hu⟩:=n7 r j u (by simpa using h);exact⟨i+1,z,k,by omega,hk,by simpa using hi,hu⟩
theorem ze0(l:LI)(i:Nat)(y:IV)(hy:l[i]?=AA y)(k:Nat)(hk:k<3):(Q0 l)[i*3+k]?=AA (P6 y k):=by
 have hi:i<l.length:=(B2.1 hy).1;have hlt:i*3+k<(Q0 l).length:=by rw[wR];omega
 obtain⟨i',y',k',h1,h2,h3,h4⟩:=n7 l (i*3+k) _ (BF hlt);obtain rfl:i'=i:=by omega
 obtain rfl:k'=k:=by omega
 rw[hy]at h3;simp only[AK]at h3;subst h3;rw[BF hlt,h4]
theorem zeD:D9 PR B0 172 kA:=by
 intro w X γ vs xs r out hsp hg hx hR hV;unfold kA at hsp;simp only at hsp;split at hsp
 .rename_i l;cases hc:CF l.length 100000 with
  |false=>rw[hc]at hsp;simp[R.get]at hsp
  |true=>
   rw[hc]at hsp;have hc:=AX hc;simp only[R.get,AK,A1]at hsp;obtain⟨rfl,rfl⟩:=hsp;obtain⟨x0,rfl⟩:∃x0,xs=[x0]:=by
    have:=hV.length
    simp at this
    match xs,this with
    |[a],_=>exact⟨a,rfl⟩
   simp only[A8,CN,EW,VRels,VRel,CH]at hV;simp only[Kd.Rel,IV.toList]at hV;obtain⟨p,c,rfl,hc1,hc2,hc3,hcell⟩:=hV;have key:∀i y,l[i]?=AA y->∃b o,p=AA ⟨b,o,AB⟩/\(∀k,k<3->w.cell? ⟨b,o+i*3+k,AB⟩=AA (P6 y k))/\(AJ.min<=FW y/\FW y<=AJ.max)/\(AJ.min<=GY y/\GY y<=AJ.max):=λi y hy=>by
    obtain⟨b,o,rfl,_,_,hr⟩:=hcell i y hy;simp only[Kd.RelAll,CH,AV,BL,BS,DH]at hr;obtain⟨⟨u0,a0,b0⟩,⟨u1,a1,b1⟩,⟨u2,a2,b2⟩⟩:=hr;simp only[Kd.Rel,GO]at b0 b1 b2;refine⟨b,o,rfl,λk hk=>?_,b1.2,b2.2⟩
    match k,hk with
    |0,_=>rw[b0]at a0;exact a0
    |1,_=>rw[b1.1]at a1;exact a1
    |2,_=>rw[b2.1]at a2;exact a2
   have hel:∀(w':World) (O:Nat->Prop) i y,l[i]?=AA y->Kd.RelAll w' O EX (GO AC y) 0 (λj u=>(Q0 l)[i*EX.length+j]?=AA u):=λw' O i y hy=>by
    obtain⟨_,_,_,_,k1,k2⟩:=key i y hy;simp only[Kd.RelAll,AV,BL,BS,DH,CH];have g:=ze0 l i y hy;refine⟨⟨_,g 0 AG,?_⟩,⟨_,g 1 AG,?_⟩,⟨_,g 2 AG,?_⟩⟩
    .simp only[Kd.Rel,GO,P6,I0]
    .simp only[Kd.Rel,GO,P6,FW];exact⟨trivial,k1⟩
    .simp only[Kd.Rel,GO,P6,GY];exact⟨trivial,k2⟩
   refine Pv hR rfl (by decide) (by decide) hc3 (Does.of_calls Tryz.func172 AF AF ?_);cases p with
   |none=>
    have h0:l=[]:=by
     cases l with
     |nil=>rfl
     |cons y r=>
      obtain⟨b,o,hp,_⟩:=key 0 y rfl;cases hp
    subst h0;refine(ct _ c w).mono ?_;rintro e w' ⟨rfl,rfl⟩;exact⟨_,[],rfl,Keep.refl _ _,⟨rfl,.inl ⟨rfl,rfl⟩⟩,hel _⟩
   |some a=>
    refine(cq a l.length c (Q0 l) w (wR l) (by unfold maxLen;omega) AG (λj u hj=>?_) (λu hu=>?_)).mono ?_
    .obtain⟨i,y,k,rfl,hk,hi,rfl⟩:=n7 l j u hj;obtain⟨b,o,hp,hu,_⟩:=key i y hi;simp only[AK]at hp;subst hp;rw[Addr.add_lit,<-vaW];exact hu k hk
    .obtain⟨j,hj⟩:=List.getElem?_of_mem hu;obtain⟨i,y,k,_,hk,_,rfl⟩:=n7 l j u hj
     match k,hk with
     |0,_=>rfl
     |1,_=>rfl
     |2,_=>rfl
    .rintro e w' ⟨v',rfl,hown,hw⟩;exact⟨v',_,rfl,Keep.below hw,hown,hel _⟩
 .simp[R.get]at hsp
open Go Go.Proofs
set_option maxRecDepth 100000
theorem vn{l:List V}{m:Md}(h:mdOf? l=AA m):l=m.cs:=by
 unfold mdOf? at h;split at h
 .simp only[AK]at h;subst h;rfl
 .cases h
theorem zcq{l:List V}{q:Qy}(h:qyOf? l=AA q):l=q.cs:=by
 unfold qyOf? at h;split at h
 .simp only[AK]at h;subst h;rfl
 .cases h
theorem zdc{l r:List V}{m:Md}{q:Qy}(h:seOf? l=AA (m,q,r)):l=GE m q r:=by
 unfold seOf? at h;split at h
 .rename_i m' q' h1 h2;simp only[AK,A1]at h;obtain⟨rfl,rfl,rfl⟩:=h;unfold GE;rw[<-vn h1,<-zcq h2,List.take_append_drop,List.take_append_drop]
 .cases h
def Rj(t:Nat)(s:Sr):Prop:=t<=3/\(t=3->s.left=[])/\(t=1\/t=3->s.proof=[])/\(t≠2->s.v.proof=[])
theorem zeZ{r:List V}{t:Nat}{s:Sr}(h:srT? r=AA (t,s))(m:Md)(q:Qy):GE m q r=P5 t m q s/\Rj t s:=by
 unfold srT? at h;split at h
 case h_5=>cases h
 all_goals
  simp only[AK,A1]at h;obtain⟨rfl,rfl⟩:=h;refine⟨rfl,by omega,?_,?_,?_⟩<;>intro h<;>first|rfl|(exfalso;omega)
theorem Vr{v:V}{k:Nat->Md->Qy->Sr->R}{z:V×List (List V)}(h:(oP v k).get=AA z):∃t m q s,v=.bor (P5 t m q s)/\Rj t s/\(k t m q s).get=AA z:=by
 unfold oP at h;split at h
 .rename_i l;split at h
  .rename_i m q r hl;split at h
   .rename_i t s hr;obtain⟨e,hw⟩:=zeZ hr m q;exact⟨t,m,q,s,by rw[zdc hl,e],hw,h⟩
   .simp[R.get]at h
  .simp[R.get]at h
 .simp[R.get]at h
theorem zez:D9 PR B0 114 fA:=by
 refine EJ [(93,OK),(38,W1)] [] fA [[.list AD []]] Tryz.func114 ry ⟨jH,Qb,trivial⟩ ?_;intro vs r hwf h;unfold fA at h;split at h
 .rename_i m q;replace h:=IH h;obtain⟨m,rfl,h⟩:=h;replace h:=I2 h;obtain⟨q,rfl,h⟩:=h;refine⟨0,(zau 0 m q).trans ?_⟩;cases hr:E8 m q with
  |true=>rw[hr,R.get_br,DS,R.get_ok]at h;exact h
  |false=>rw[hr,R.get_br,DT,R.get_ok]at h;exact h
 .simp[R.get]at h
theorem zeC:D9 PR B0 116 fD:=by
 refine EJ [(172,kA)] [] fD [[.z,.list AC [.bool,.z,.z],.z,.z,.z,.z,.z,.z]] Tryz.func116 sb ⟨zeD,trivial⟩ ?_;intro vs r hwf h;unfold fD at h;split at h
 .replace h:=Vr h;obtain⟨t,m,q,s,rfl,hw,h⟩:=h;cases hg:CF s.v.proof.length 100000 with
  |false=>rw[hg]at h;simp[R.get]at h
  |true=>
   rw[hg,R.get_br,DS,R.get_ok]at h;refine⟨0,?_⟩;rw[<-h];obtain⟨left,proof,⟨k,vp,a,b,c,d,tw,vs⟩,sp⟩:=s;replace hg:CF vp.length 100000=AC:=hg
   match t,hw with
   |0,hw=>
    obtain rfl:vp=[]:=hw.2.2.2 AG;refine(zay 0 m q left proof k a b c d tw vs sp).trans ?_;rw[BW,BW];unfold GH;cases(k==0)<;>rfl
   |1,hw=>
    obtain rfl:vp=[]:=hw.2.2.2 AG;refine(zaz 0 m q left k a b c d tw vs sp).trans ?_;rw[BW];unfold GH;cases(k==0)<;>rfl
   |2,_=>
    refine(zaA 0 m q left proof vp k a b c d tw vs sp).trans ?_;rw[BW,hg,DS,DS,CA,BW];unfold GH;cases(k==0)<;>rfl
   |3,hw=>
    obtain rfl:vp=[]:=hw.2.2.2 AG;refine(zaB 0 m q k a b c d tw vs sp).trans ?_;unfold GH;cases(k==0)<;>rfl
   |t+4,hw=>exact absurd hw.1 AG
 .simp[R.get]at h
theorem Qv(m:Md)(q:Qy)(b:Bx):∀(d i:Nat),i+d=5->(KG m q b d i).isSome=AC->GZ (HX (KG m q b d i))=AC
 |0,i,_,h=>by rw[KG]at h;cases h
 |d+1,i,hd,h=>by
  rw[KG]at h ⊢;cases hc:AE ((E1 m q b i).length>0)with
  |true=>
   rw[DS];show GZ (i:Int)=AC;unfold GZ;rw[AL (show(0:Int)<=(i:Int) by omega),AL (show(i:Int)<5 by omega)];rfl
  |false=>
   rw[hc,DT]at h;rw[DT];exact Qv m q b d (i+1) AG h
theorem zeB:D9 PR B0 115 fC:=by
 refine EJ [(124,QG),(169,dY),(170,dZ),(171,d6),(62,W0)] [] fC [[.bool]] Tryz.func115 sa ⟨nT,zeb,zec,zed,Qa,trivial⟩ ?_;intro vs r hwf h;unfold fC at h;split at h
 .replace h:=Vr h;obtain⟨t,m,q,s,rfl,hw,h⟩:=h;refine⟨0,?_⟩;obtain⟨left,proof,⟨k,vp,a,b,c,d,tw,vs⟩,sp⟩:=s;cases ho:H8 q ⟨left,proof,⟨k,vp,a,b,c,d,tw,vs⟩,sp⟩with
  |true=>
   rw[ho,R.get_br,DS,R.get_ok]at h;rw[<-h];have hk:(k !=0)=AC\/(k !=0)=AD/\AE (sp>=q.bu)=AC:=by
    unfold H8 at ho;have e:(k !=0)=!(k==0):=rfl;rw[e];cases hk:(k==0)with
    |false=>exact .inl rfl
    |true=>
     replace ho:(!(k==0)||decide (sp>=q.bu))=AC:=ho;rw[hk,A9,vam]at ho;exact .inr ⟨rfl,ho⟩
   match t,hw with
   |0,hw=>
    refine(Jm 0 m q left proof k a b c d tw vs sp).trans ?_;rcases hk with hk|⟨hk,hs⟩
    .rw[hk,DS,BW,BW];rfl
    .rw[hk,DT,hs,DS,BW,BW];rfl
   |1,hw=>
    refine(Jn 0 m q left k a b c d tw vs sp).trans ?_;rcases hk with hk|⟨hk,hs⟩
    .rw[hk,DS,BW];rfl
    .rw[hk,DT,hs,DS,BW];rfl
   |2,hw=>
    refine(zaw 0 m q left proof vp k a b c d tw vs sp).trans ?_;rcases hk with hk|⟨hk,hs⟩
    .rw[hk,DS,BW];rfl
    .rw[hk,DT,hs,DS,BW];rfl
   |3,hw=>
    refine(zax 0 m q k a b c d tw vs sp).trans ?_;rcases hk with hk|⟨hk,hs⟩
    .rw[hk,DS];rfl
    .rw[hk,DT,hs,DS];rfl
   |t+4,hw=>exact absurd hw.1 AG
  |false=>
   rw[ho,R.get_br,DT]at h;unfold H8 at ho;replace ho:(!(k==0)||decide (sp>=q.bu))=AD:=ho;rw[vaa]at ho;have hk:(k !=0)=AD:=ho.1;have hsp:AE (sp>=q.bu)=AD:=ho.2;cases hg:(CF t 1&&(E8 m q&&(AE (0<=sp)&&(BV 0 left.length&&(CF left.length 100000&&CF proof.length 100000)))))with
   |false=>
    replace h:(R.br (CF t 1&&(E8 m q&&(AE (0<=sp)&&(BV 0 left.length&&(CF left.length 100000&&CF proof.length 100000))))) _ R.no).get=AA r:=h;rw[hg]at h;simp[R.get]at h
   |true=>
    replace h:(R.br (CF t 1&&(E8 m q&&(AE (0<=sp)&&(BV 0 left.length&&(CF left.length 100000&&CF proof.length 100000))))) _ R.no).get=AA r:=h;rw[hg,R.get_br,DS]at h;have hst:AA (.bool AC,[P5 (oD m q t ⟨left,proof,⟨k,vp,a,b,c,d,tw,vs⟩,sp⟩) m q (FF m q ⟨left,proof,⟨k,vp,a,b,c,d,tw,vs⟩,sp⟩)])=AA r:=by
     rw[<-h];unfold oD;simp only[R.get_br,R.get_ok];cases GB m q (EA left)with
     |true=>cases(ic (left.length-1)==0)<;>rfl
     |false=>
      cases HK m q (EA left).low (EA left).s4.hi with
      |true=>rfl
      |false=>cases(EQ m q (EA left)).isSome<;>rfl
    rw[<-hst];simp only[AP]at hg;obtain⟨ht,hr,h0,hl,hl5,hp5⟩:=hg;obtain⟨hm,_,⟨_,hbu⟩,_,_⟩:=O6 hr;have h0:=BB h0;have hs1:=BM hsp;have hl:0<left.length:=AX hl;have hl5:=AX hl5;have hp5:=AX hp5;have esp:AI AJ (sp+1)=sp+1:=ER AG AG;have etop:AI AJ (ic (left.length-0)-1)=((left.length-1:Nat):Int):=by
     rw[ER (by simp only[ic];omega) (by simp only[ic];omega)];simp only[ic];omega
    have ed:(AE (0<=((left.length-1:Nat):Int))&&AE (((left.length-1:Nat):Int)<ic (left.length-0)))=AC:=by
     rw[AL AG,AL (by simp only[ic];omega)];rfl
    have ee:(AE (0<=((left.length-1:Nat):Int))&&AE (((left.length-1:Nat):Int)<=ic (left.length-0)))=AC:=by
     rw[AL AG,AL (by simp only[ic];omega)];rfl
    have epop:left.take (left.length-1+2)=left.take (left.length-1+2):=rfl;have hlen:(FR left).length=left.length-1:=by unfold FR;rw[BJ];omega
    have htk:∀(x y:IV),AU (left.length-1+2) (AU (left.length-1) left++[x,y])=FR left++[x,y]:=λx y=>C9 (by rw[A2];unfold FR at hlen;rw[hlen];simp)
    have hb80:AE ((left.length-1+2)*80<=EM)=AC:=AL (by unfold EM;omega);have hin:=Qv m q (EA left) 5 0 rfl;replace hin:(EQ m q (EA left)).isSome=AC->GZ (HX (EQ m q (EA left)))=AC:=hin
    match t,ht,hw with
    |0,_,_=>
     have hb24:AE ((proof.length+1)*24<=EM)=AC:=AL (by unfold EM;omega);have htp:∀x:IV,AU (proof.length+1) (proof++[x])=proof++[x]:=λx=>C9 (by rw[A2];simp)
     refine(Jm 0 m q left proof k a b c d tw vs sp).trans ?_;rw[hk,DT,hsp,DT,etop,ed,DS,ee,DS,esp,BH];simp only[BS,vay,BW];rw[hb24,hb80,hm];unfold FF oD;show cond (GB m q (EA left)) _ (cond (HK m q (EA left).low (EA left).s4.hi) _ _)=_;cases GB m q (EA left)with
     |true=>
      simp only[htp,CA];rw[DS,DS];show cond (ic (left.length-1)==0) _ _=_;cases(ic (left.length-1)==0)<;>rfl
     |false=>
      rw[DT];cases HK m q (EA left).low (EA left).s4.hi with
      |true=>rfl
      |false=>
       rw[DT,DS];show cond (!(EQ m q (EA left)).isSome) _ (cond (GZ (HX (EQ m q (EA left)))) _ _)=_;cases hs:(EQ m q (EA left)).isSome with
       |false=>rfl
       |true=>
        rw[A9,DT,hin hs,DS,DS,DS];simp only[htp,htk];rfl
    |1,_,hw=>
     obtain rfl:proof=[]:=hw.2.2.1 (.inl rfl);refine(Jn 0 m q left k a b c d tw vs sp).trans ?_;rw[hk,DT,hsp,DT,etop,ed,DS,ee,DS,esp,BH];simp only[BS,vay];rw[hb80,hm];unfold FF oD;show cond (GB m q (EA left)) _ (cond (HK m q (EA left).low (EA left).s4.hi) _ _)=_;cases GB m q (EA left)with
     |true=>
      rw[DS];show cond (ic (left.length-1)==0) _ _=_;cases(ic (left.length-1)==0)<;>rfl
     |false=>
      rw[DT];cases HK m q (EA left).low (EA left).s4.hi with
      |true=>rfl
      |false=>
       rw[DT,DS];show cond (!(EQ m q (EA left)).isSome) _ (cond (GZ (HX (EQ m q (EA left)))) _ _)=_;cases hs:(EQ m q (EA left)).isSome with
       |false=>rfl
       |true=>
        rw[A9,DT,hin hs,DS,DS];simp only[htk];rfl
    |t+2,ht,_=>exact absurd (AX ht) AG
 .simp[R.get]at h
open Go Go.Proofs
def UL(N:Nat):Env:=EI [(114,fA),(115,fC),(116,fD)] [(2,⟨[4,5],[4,8,500,501],[⟨.cell 8 23,500,37,AC,E5⟩,⟨.cell 8 24,501,101,AC,EX⟩]⟩)] 13 N
open Go Go.Proofs
set_option maxRecDepth 100000
abbrev g6:KP:=⟨[4,5],[4,8,500,501],[⟨.cell 8 23,500,37,AC,E5⟩,⟨.cell 8 24,501,101,AC,EX⟩]⟩
def zcV(sh:Bool)(s:Sr):List V:=match sh with
 |false=>.row 500 0 s.left.length::.row 501 0 s.proof.length::bS s.v .zs s.spent
 |true=>.row 500 0 s.left.length::lI s.proof::bS s.v (lI s.v.proof) s.spent
def zcX(sh:Bool)(s:Sr):Option Ob:=match sh with
 |false=>AA (.row AC 101 AC EX s.proof)
 |true=>AB
def NP(m:Md)(q:Qy)(sh:Bool)(s:Sr):St:=
 ⟨[(4,.ptr 4 0 0),(5,.ptr 8 0 0)],[(4,AA (.box [.i 0,.zs,.i 0,.i 0,.i 0,.i 0,.i 0,.i 0])),(8,AA (.box (GE m q (zcV sh s)))),(500,AA (.row AC 37 AC E5 s.left)),(501,zcX sh s)]⟩
def M2(s:Sr):Sr:=⟨s.left.take s.left.length,s.proof.take s.proof.length,⟨s.v.kind,[],s.v.w0,s.v.w1,s.v.w2,s.v.w3,s.v.twin,s.v.spent⟩,s.spent⟩
def jO(s:Sr):Sr:=⟨s.left.take s.left.length,s.proof,s.v,s.spent⟩
theorem jP{s:Sr}(h:s.v.proof=[]):M2 s=s:=by
 obtain⟨left,proof,⟨k,vp,a,b,c,d,tw,vs⟩,sp⟩:=s;obtain rfl:vp=[]:=h;unfold M2;simp only[BW]
theorem Ui(s:Sr):jO s=s:=by
 obtain⟨left,proof,v,sp⟩:=s;unfold jO;simp only[BW]
def tS(m:Md)(q:Qy)(s:Sr):Bool:=E8 m q&&(AE (0<=s.spent)&&(BV 0 s.left.length&&(CF s.left.length 100000&&CF s.proof.length 100000)))
noncomputable abbrev gX(N:Nat):Out->St->DW:=DZ 0 (D1 (UL N) (DU U2 [1,1,1]) (D4 (UL N) AB [.cell 4 50] [[.z,.list AC EX,.z,.z,.z,.z,.z,.z]]))
theorem zav(N:Nat)(m:Md)(q:Qy):EB (UL N) U2 [.cell 4 50] [[.z,.list AC [.bool,.z,.z],.z,.z,.z,.z,.z,.z]] [m.V,q.V]=
 cond (E8 m q) (D7 (UL N) (DU U2 [1,1,0,0,0]) g6 N (NP m q AD ⟨[(GG q).I],[],Vd.none,0⟩) (gX N))
 (D7 (UL N) (DU U2 [1,1,0,0,0]) g6 N (NP m q AD ⟨[],[],⟨4,[],0,0,0,0,0,0⟩,0⟩) (gX N)):=AF
theorem wU(N:Nat)(m:Md)(q:Qy)(s:Sr)(again:St->DW)(k:Out->St->DW):E3 (UL N) (DU U2 [1,1,0,0,0]) (NP m q AD s) (ES again g6 k)=
 cond (H8 q (M2 s)) (k (.exit 0) (NP m q AD (M2 s)))
 (cond (tS m q (M2 s))
 (cond (GB m q (EA (M2 s).left)) (cond (ic ((M2 s).left.length-1)==0) (again (NP m q AC (FF m q (M2 s)))) (again (NP m q AD (FF m q (M2 s)))))
 (cond (HK m q (EA (M2 s).left).low (EA (M2 s).left).s4.hi) (again (NP m q AD (FF m q (M2 s))))
 (cond (EQ m q (EA (M2 s).left)).isSome (again (NP m q AD (FF m q (M2 s)))) (again (NP m q AD (FF m q (M2 s))))))) AB):=AF
theorem ze5(N:Nat)(m:Md)(q:Qy)(s:Sr)(again:St->DW)(k:Out->St->DW):E3 (UL N) (DU U2 [1,1,0,0,0]) (NP m q AC s) (ES again g6 k)=
 cond (H8 q (jO s)) (k (.exit 0) (NP m q AC (jO s))) AB:=AF
theorem Fb(N:Nat)(m:Md)(q:Qy)(s:Sr):gX N (.exit 0) (NP m q AD s)=AA ((GH (M2 s)).V,[]):=AF
theorem kj(N:Nat)(m:Md)(q:Qy)(s:Sr):gX N (.exit 0) (NP m q AC s)=cond (CF s.v.proof.length 100000) (AA ((GH (jO s)).V,[])) AB:=AF
structure SrInv (q:Qy) (sh:Bool) (s:Sr):Prop where
 sp0:0<=s.spent
 sp1:s.spent<=max 0 q.bu
 left:(s.left.length:Int)<=s.spent+1
 proof:(s.proof.length:Int)<=s.spent
 vp:(s.v.proof.length:Int)<=s.spent
 own:sh=AD->s.v.proof=[]
 open_:s.v.kind=0->0<s.left.length
 shut:sh=AC->s.v.kind≠0
theorem Lk(l:LI):(FR l).length=l.length-1:=by
 unfold FR;rw[BJ];omega
theorem SrInv.step{m:Md}{q:Qy}{s:Sr}(h:SrInv q AD s)(ho:H8 q s=AD):
  SrInv q (GB m q (EA s.left)&&(ic (s.left.length-1)==0)) (FF m q s)/\(FF m q s).spent=s.spent+1:=by
 unfold H8 at ho;rw[vaa]at ho;have hk:s.v.kind=0:=by simpa using ho.1
 have hs:=BM ho.2;have h1:=h.sp0;have h2:=h.left;have h3:=h.proof;have h4:=h.vp;have h5:=h.own rfl;have h6:=h.open_ hk;have hp:=Lk s.left;have h5':s.v.proof.length=0:=by rw[h5];rfl
 unfold FF;cases GB m q (EA s.left)with
 |true=>
  rw[DS];cases he:(ic (s.left.length-1)==0)with
  |true=>
   refine⟨⟨?_,?_,?_,?_,?_,λh=>(by cases h),λh=>(by cases h),λ_=>(show(1:Int)≠0 by decide)⟩,rfl⟩<;>simp only[BN,A2,DD]<;>omega
  |false=>
   have hne:s.left.length-1≠0:=by simpa[ic]using he
   refine⟨⟨?_,?_,?_,?_,?_,λ_=>h5,λ_=>?_,λh=>(by cases h)⟩,rfl⟩<;>simp only[BC,A2,DD]<;>omega
 |false=>
  rw[DT,BP];cases HK m q (EA s.left).low (EA s.left).s4.hi with
  |true=>refine⟨⟨?_,?_,?_,?_,?_,λ_=>rfl,λh=>(by cases h),λh=>(by cases h)⟩,rfl⟩<;>simp only[BN,BL]<;>omega
  |false=>
   rw[DT];cases(EQ m q (EA s.left)).isSome with
   |true=>refine⟨⟨?_,?_,?_,?_,?_,λ_=>h5,λ_=>?_,λh=>(by cases h)⟩,rfl⟩<;>simp only[BN,A2,AV,BL]<;>omega
   |false=>refine⟨⟨?_,?_,?_,?_,?_,λ_=>rfl,λh=>(by cases h),λh=>(by cases h)⟩,rfl⟩<;>simp only[BC,BL]<;>omega
theorem zbd{m:Md}{q:Qy}{s:Sr}(hr:E8 m q=AC)(h:SrInv q AD s)(hk:s.v.kind=0):tS m q s=AC:=by
 have hb:=(O6 hr).2.2.1;have h1:=h.sp0;have h2:=h.left;have h3:=h.proof;have h6:=h.open_ hk;have h7:=h.sp1;unfold tS;rw[hr,AL h1,CU (show s.left.length<=100000 by omega),CU (show s.proof.length<=100000 by omega)]
 have:BV 0 s.left.length=AC:=CU h6
 rw[this];rfl
theorem Od(N:Nat)(m:Md)(q:Qy)(hr:E8 m q=AC)(K:Out->St->DW):∀(d n:Nat) (sh:Bool) (s:Sr),SrInv q sh s->q.bu<s.spent+d->d<n->
  ∃sh',SrInv q sh' (I9 m q d s)/\D7 (UL N) (DU U2 [1,1,0,0,0]) g6 n (NP m q sh s) K=K (.exit 0) (NP m q sh' (I9 m q d s))
 |d,0,sh,s,_,_,h=>absurd h AG
 |0,n+1,sh,s,hi,hd,_=>by
  have h1:=hi.sp1;have h2:=hi.sp0;have h3:=(O6 hr).2.2.1;omega
 |d+1,n+1,sh,s,hi,hd,hn=>by
  rw[I9];cases ho:H8 q s with
  |true=>
   rw[DS];refine⟨sh,hi,?_⟩;cases sh with
   |false=>rw[ED,wU,jP (hi.own rfl),ho,DS]
   |true=>rw[ED,ze5,Ui,ho,DS]
  |false=>
   rw[DT];cases sh with
   |true=>
    unfold H8 at ho;rw[vaa]at ho
    have:=hi.shut rfl
    simp at ho;exact absurd ho.1 this
   |false=>
    obtain⟨hi',hs'⟩:=hi.step (m:=m) ho;have hk:s.v.kind=0:=by
     unfold H8 at ho;rw[vaa]at ho;simpa using ho.1
    obtain⟨sh',hi2,hrun⟩:=Od N m q hr K d n _ (FF m q s) hi' (by rw[hs'];omega) AG;refine⟨sh',hi2,?_⟩;rw[<-hrun,ED,wU,jP (hi.own rfl),ho,DT,zbd hr hi hk,DS];cases GB m q (EA s.left)with
    |true=>
     rw[DS,BE];cases(ic (s.left.length-1)==0)<;>rfl
    |false=>
     rw[DT,BP];cases HK m q (EA s.left).low (EA s.left).s4.hi with
     |true=>rfl
     |false=>cases(EQ m q (EA s.left)).isSome<;>rfl
theorem Jl{m:Md}{q:Qy}(hr:E8 m q=AC):SrInv q AD ⟨[(GG q).I],[],Vd.none,0⟩:=
 ⟨DO _,by have:=(O6 hr).2.2.1;show(0:Int)<=_;omega,by simp,by simp,by simp[Vd.none],λ_=>rfl,λ_=>by simp,λh=>by cases h⟩
theorem zeA:D9 PR B0 53 fB:=by
 refine EJ [(114,fA),(115,fC),(116,fD)] [(2,⟨[4,5],[4,8,500,501],[⟨.cell 8 23,500,37,AC,E5⟩,⟨.cell 8 24,501,101,AC,EX⟩]⟩)] fB [[.z,.list AC [.bool,.z,.z],.z,.z,.z,.z,.z,.z]] Tryz.func53 rz ⟨zez,zeB,zeC,trivial⟩ ?_;intro vs r hwf h;unfold fB at h;split at h
 .rename_i m q;replace h:=IH h;obtain⟨m,rfl,h⟩:=h;replace h:=I2 h;obtain⟨q,rfl,h⟩:=h;rw[R.get_ok]at h;refine⟨70000,?_⟩;rw[<-h];refine(zav 70000 m q).trans ?_;unfold FP O2;cases hr:E8 m q with
  |true=>
   have hb:=(O6 hr).2.2.1;rw[DS,DS];obtain⟨sh',hi,hrun⟩:=Od 70000 m q hr (gX 70000) (q.bu.toNat+1) 70000 AD _ (Jl hr) (by show q.bu<0+_;omega) AG;rw[hrun];generalize I9 m q (q.bu.toNat+1) _=s at hi ⊢;cases sh' with
   |false=>rw[Fb,jP (hi.own rfl)]
   |true=>
    have h1:=hi.vp;have h2:=hi.sp1;rw[kj,Ui,CU (show s.v.proof.length<=100000 by omega),DS]
  |false=>
   rw[DT,DT];have e:H8 q ⟨[],[],⟨4,[],0,0,0,0,0,0⟩,0⟩=AC:=rfl;rw[ED,wU,jP rfl,e,DS,Fb,jP rfl,I9,e,DS]
 .simp[R.get]at h
open Go
def zfo:Md:=⟨1,1,3,0,0,[.agg [.int 0,.list [.int (HT AD 0 0 5 1 2),.int (HT AC 10 0 0 0 0),.int (HT AC 20 0 0 0 0)]]]⟩
def c8:D5
 |[]=>.ok zfo.V []
 |_=>.no
open Go
def XV(s:Sp):Bool:=AE (-2147483648<=s.lo)&&(AE (s.lo<=s.hi)&&AE (s.hi<=2147483647))
def goodB(b:Bx):Bool:=XV b.s0&&(XV b.s1&&(XV b.s2&&(XV b.s3&&XV b.s4)))
def cZ:D5
 |[.list AD [.int .u64] l,b]=>HY b λb=>.br (F5 l 4&&goodB b) (.ok (.tup [.i (G8 l b),.i (G7 l b)]) []) .no
 |_=>.no
def cY:D5
 |[m,.i k,b]=>ID m λm=>HY b λb=>.br (b.emp||goodB b) (.ok (.tup [.i (EK m k b),.i (EE m k b)]) []) .no
 |_=>.no
def c5:D5
 |[m,q,b]=>ID m λm=>IT q λq=>HY b λb=>.br (E8 m q&&(b.emp||goodB b)) (.ok (.bool (GB m q b)) []) .no
 |_=>.no
def K6(x:IV):Bool:=cond (I0 x) (FW x==0&&GY x==0) (AE (0<=FW x)&&AE (FW x<=4))
def eV:D5
 |[.agg [.bool s,.i p,.i a]]=>.ok (.bool (K6 (JN s p a))) []
 |_=>.no
def OT(st:Int×Int)(x:IV):Option (Int×Int):=
 cond (st.1==0||!(K6 x)) AB (cond (I0 x) (AA (st.1-1,st.2)) (AA (st.1+1,max st.2 (st.1+1))))
def LH:LI->Int×Int->Option (Int×Int)
 |[],st=>AA st
 |x::r,st=>match OT st x with
  |some st'=>LH r st'
  |none=>AB
def MM(l:LI):Int:=cond (AE (ic l.length>65536)) 0 (match LH l (1,1)with
 |some st=>cond (!(st.1==0)||decide (st.2>200)) 0 st.2
 |none=>0)
def eU:D5
 |[.list AC [.bool,.z,.z] l]=>.ok (.i (MM l)) []
 |_=>.no
def eR:D5
 |[.list AC [.bool,.z,.z] l]=>.ok (.bool (AE (MM l>0))) []
 |_=>.no
def O3(st:LI×LI)(x:IV):Option (List IV×LI):=
 cond (I0 x) (AA (FR st.1,st.2++[(EA st.1).I]))
  (cond (AE (GY x<((EA st.1).g (FW x).toNat).lo)||decide (GY x>=((EA st.1).g (FW x).toNat).hi)) AB
   (AA (FR st.1++[((EA st.1).cutH (FW x) (GY x)).I,((EA st.1).cutL (FW x) (GY x)).I],st.2)))
def JX:LI->LI×LI->Option (List IV×LI)
 |[],st=>AA st
 |x::r,st=>match O3 st x with
  |some st'=>JX r st'
  |none=>AB
def L4(b:Bx)(l:LI):Option LI:=cond (AE (MM l>0)) ((JX l ([b.I],[])).map (·.2)) AB
def eT:D5
 |[b,.list AC [.bool,.z,.z] l]=>HY b λb=>.br (L4 b l).isSome (.ok (.tup [.list AC E5 ((L4 b l).getD []),.bool AC]) []) (.ok (.tup [.list AC E5 [],.bool AD]) [])
 |_=>.no
def Vd.p(v:Vd):Pt:=⟨v.w0,v.w1,v.w2,v.w3⟩
def P2(m:Md)(q:Qy)(v:Vd):Bool:=
 E8 m q&&cond (v.kind==1) (match L4 (GG q) v.proof with
   |some l=>l.all λx=>GB m q (EC x)
   |none=>AD)
  (cond (v.kind==2) ((GG q).has v.p v.twin&&HK m q v.p v.twin) AD)
def cX:D5
 |[m,q,v]=>ID m λm=>IT q λq=>Vs v λv=>.ok (.bool (P2 m q v)) []
 |_=>.no
open Go Go.Proofs
def Yf(N:Nat):Env:=EI [] [] 16 N
theorem zam(N:Nat)(u01:Bool)(u00 s_At:Int):EB (Yf N) Bv [.tmp 2] [[.bool]] [.agg [.bool u01,.i u00,.i s_At]]=(cond u01 (AA (.bool (u01==AC&&(u00==0&&(s_At==0&&AC))),[])) (cond (AE (u00>=0)) (AA (.bool (AE (u00<=4)),[])) (AA (.bool AD,[])))):=AF
def Ye(N:Nat):Env:=EI [(211,eU)] [] 6 N
theorem zak(N:Nat)(l:LI):EB (Ye N) Bu [.tmp 2] [[.bool]] [.list AC [.bool,.z,.z] l]=(AA (.bool (AE (MM l>0)),[])):=AF
def Wm(N:Nat):Env:=EI [(127,W4)] [(2,⟨[2,3,6,9,10],[3],[]⟩)] 25 N
open Go Go.Proofs
def RG(N:Nat):Env:=EI [(244,eV)] [(5,⟨[2,3,4,10,11,12],[],[]⟩)] 40 N
abbrev SK(x2 x3 x4:Int)(l10:LI)(x11 x12:Int):St:=⟨[(2,(.i x2)),(3,(.i x3)),(4,(.i x4)),(10,(.list AC EX l10)),(11,(.i x11)),(12,(.i x12))],[]⟩
theorem zal(N:Nat)(l:LI):EB (RG N) U1 [.tmp 2] [[.z]] [.list AC [.bool,.z,.z] l]=(cond (AE (ic (AN l)>65536)) (AA (.i 0,[])) (D7 (RG N) (DU U1 [1,1,1,0,1,0,0]) ⟨[2,3,4,10,11,12],[],[]⟩ N (SK 0 1 1 l (ic (AN l)) 0) (DZ 0 (D1 (RG N) (DU U1 [1,1,1,1]) (D4 (RG N) AB [.tmp 2] [[.z]]))))):=AF
theorem Sv(N:Nat)(x2 x3 x4:Int)(l10:LI)(x11 x12:Int)(again:St->DW)(k:Out->St->DW):E3 (RG N) (DU U1 [1,1,1,0,1,0,0]) (SK x2 x3 x4 l10 x11 x12) (ES again ⟨[2,3,4,10,11,12],[],[]⟩ k)=(cond (AE (x12<x11)) (cond (AE (0<=x12)&&AE (x12<ic (AN l10))) (cond (x3==0) (k .ret (SK 0 x3 x4 l10 x11 x12)) (cond (!K6 (JN (IV.toBool (IV.cell (AQ l10 (AM x12) default) 0)) (IV.toInt (IV.cell (AQ l10 (AM x12) default) 1)) (IV.toInt (IV.cell (AQ l10 (AM x12) default) 2)))) (k .ret (SK 0 x3 x4 l10 x11 x12)) (cond (IV.toBool (IV.cell (AQ l10 (AM x12) default) 0)) (again (SK x2 (AI AJ (x3-1)) x4 l10 x11 (AI AJ (x12+1)))) (again (SK x2 (AI AJ (x3+1)) (max x4 (AI AJ (x3+1))) l10 x11 (AI AJ (x12+1))))))) AB) (k (.exit 0) (SK x2 x3 x4 l10 x11 x12))):=AF
theorem jo(N:Nat)(x2 x3 x4:Int)(l10:LI)(x11 x12:Int):(DZ 0 (D1 (RG N) (DU U1 [1,1,1,1]) (D4 (RG N) AB [.tmp 2] [[.z]]))) (.exit 0) (SK x2 x3 x4 l10 x11 x12)=(cond (x3 !=0) (AA (.i 0,[])) (cond (AE (x4>200)) (AA (.i 0,[])) (AA (.i x4,[])))):=AF
theorem jp(N:Nat)(x2 x3 x4:Int)(l10:LI)(x11 x12:Int):(DZ 0 (D1 (RG N) (DU U1 [1,1,1,1]) (D4 (RG N) AB [.tmp 2] [[.z]]))) .ret (SK x2 x3 x4 l10 x11 x12)=(AA (.i x2,[])):=AF
def HJ(N:Nat):Env:=EI [(174,LV),(212,cZ),(49,M7)] [(5,⟨[1,5,6,7,8,9,40,41,42],[5],[]⟩)] 66 N
abbrev NU(a2:Bx)(x1 x6 x7 x8 x9:Int)(l40:LI)(x41 x42:Int):St:=⟨[(1,(.i x1)),(5,(.ptr 5 0 0)),(6,(.i x6)),(7,(.i x7)),(8,(.i x8)),(9,(.i x9)),(40,(.list AC G3 l40)),(41,(.i x41)),(42,(.i x42))],[(5,(AA (.box (Bx.cs a2))))]⟩
theorem xe(N:Nat)(m:Md)(a1:Int)(a2:Bx):EB (HJ N) JK [.tmp 6,.tmp 7] [[.z],[.z]] [(Md.V m),.i a1,(Bx.V a2)]=(cond (!ET m) (AA (.tup [.i 0,.i 0],[])) (cond (AE (a1<0)) (AA (.tup [.i 0,.i 0],[])) (cond (AE (a1>=Md.c m)) (AA (.tup [.i 0,.i 0],[])) (cond (Bx.emp a2) (AA (.tup [.i 0,.i 0],[])) (cond (AE (a1=ic 0)) (cond (AE (a1=ic 0)) (D7 (HJ N) (DU JK [1,1,1,0,1,0,0]) ⟨[1,5,6,7,8,9,40,41,42],[5],[]⟩ N (NU a2 a1 0 0 (Md.b0 m) (Md.b0 m) (Md.ts m) (ic (AN (Md.ts m))) 0) (DZ 0 (D1 (HJ N) (DU JK [1,1,1,1]) (D4 (HJ N) AB [.tmp 6,.tmp 7] [[.z],[.z]])))) (cond (AE (a1=ic 1)) (D7 (HJ N) (DU JK [1,1,1,0,1,0,0]) ⟨[1,5,6,7,8,9,40,41,42],[5],[]⟩ N (NU a2 a1 0 0 (Md.b0 m) (Md.b1 m) (Md.ts m) (ic (AN (Md.ts m))) 0) (DZ 0 (D1 (HJ N) (DU JK [1,1,1,1]) (D4 (HJ N) AB [.tmp 6,.tmp 7] [[.z],[.z]])))) (cond (AE (a1=ic 2)) (D7 (HJ N) (DU JK [1,1,1,0,1,0,0]) ⟨[1,5,6,7,8,9,40,41,42],[5],[]⟩ N (NU a2 a1 0 0 (Md.b0 m) (Md.b2 m) (Md.ts m) (ic (AN (Md.ts m))) 0) (DZ 0 (D1 (HJ N) (DU JK [1,1,1,1]) (D4 (HJ N) AB [.tmp 6,.tmp 7] [[.z],[.z]])))) AB))) (cond (AE (a1=ic 1)) (cond (AE (a1=ic 0)) (D7 (HJ N) (DU JK [1,1,1,0,1,0,0]) ⟨[1,5,6,7,8,9,40,41,42],[5],[]⟩ N (NU a2 a1 0 0 (Md.b1 m) (Md.b0 m) (Md.ts m) (ic (AN (Md.ts m))) 0) (DZ 0 (D1 (HJ N) (DU JK [1,1,1,1]) (D4 (HJ N) AB [.tmp 6,.tmp 7] [[.z],[.z]])))) (cond (AE (a1=ic 1)) (D7 (HJ N) (DU JK [1,1,1,0,1,0,0]) ⟨[1,5,6,7,8,9,40,41,42],[5],[]⟩ N (NU a2 a1 0 0 (Md.b1 m) (Md.b1 m) (Md.ts m) (ic (AN (Md.ts m))) 0) (DZ 0 (D1 (HJ N) (DU JK [1,1,1,1]) (D4 (HJ N) AB [.tmp 6,.tmp 7] [[.z],[.z]])))) (cond (AE (a1=ic 2)) (D7 (HJ N) (DU JK [1,1,1,0,1,0,0]) ⟨[1,5,6,7,8,9,40,41,42],[5],[]⟩ N (NU a2 a1 0 0 (Md.b1 m) (Md.b2 m) (Md.ts m) (ic (AN (Md.ts m))) 0) (DZ 0 (D1 (HJ N) (DU JK [1,1,1,1]) (D4 (HJ N) AB [.tmp 6,.tmp 7] [[.z],[.z]])))) AB))) (cond (AE (a1=ic 2)) (cond (AE (a1=ic 0)) (D7 (HJ N) (DU JK [1,1,1,0,1,0,0]) ⟨[1,5,6,7,8,9,40,41,42],[5],[]⟩ N (NU a2 a1 0 0 (Md.b2 m) (Md.b0 m) (Md.ts m) (ic (AN (Md.ts m))) 0) (DZ 0 (D1 (HJ N) (DU JK [1,1,1,1]) (D4 (HJ N) AB [.tmp 6,.tmp 7] [[.z],[.z]])))) (cond (AE (a1=ic 1)) (D7 (HJ N) (DU JK [1,1,1,0,1,0,0]) ⟨[1,5,6,7,8,9,40,41,42],[5],[]⟩ N (NU a2 a1 0 0 (Md.b2 m) (Md.b1 m) (Md.ts m) (ic (AN (Md.ts m))) 0) (DZ 0 (D1 (HJ N) (DU JK [1,1,1,1]) (D4 (HJ N) AB [.tmp 6,.tmp 7] [[.z],[.z]])))) (cond (AE (a1=ic 2)) (D7 (HJ N) (DU JK [1,1,1,0,1,0,0]) ⟨[1,5,6,7,8,9,40,41,42],[5],[]⟩ N (NU a2 a1 0 0 (Md.b2 m) (Md.b2 m) (Md.ts m) (ic (AN (Md.ts m))) 0) (DZ 0 (D1 (HJ N) (DU JK [1,1,1,1]) (D4 (HJ N) AB [.tmp 6,.tmp 7] [[.z],[.z]])))) AB))) AB))))))):=AF
theorem Ru(N:Nat)(a2:Bx)(x1 x6 x7 x8 x9:Int)(l40:LI)(x41 x42:Int)(again:St->DW)(k:Out->St->DW):E3 (HJ N) (DU JK [1,1,1,0,1,0,0]) (NU a2 x1 x6 x7 x8 x9 l40 x41 x42) (ES again ⟨[1,5,6,7,8,9,40,41,42],[5],[]⟩ k)=(cond (AE (x42<x41)) (cond (AE (0<=x42)&&AE (x42<ic (AN l40))) (cond (IV.toInt (IV.cell (AQ l40 (AM x42) default) 0)==x1) (cond (F5 (IV.toList (IV.cell (AQ l40 (AM x42) default) 1)) 4&&goodB a2) (again (NU a2 x1 x6 x7 (AI AJ (x8+G8 (IV.toList (IV.cell (AQ l40 (AM x42) default) 1)) a2)) (AI AJ (x9+G7 (IV.toList (IV.cell (AQ l40 (AM x42) default) 1)) a2)) l40 x41 (AI AJ (x42+1)))) AB) (again (NU a2 x1 x6 x7 x8 x9 l40 x41 (AI AJ (x42+1))))) AB) (k (.exit 0) (NU a2 x1 x6 x7 x8 x9 l40 x41 x42))):=AF
theorem gv(N:Nat)(a2:Bx)(x1 x6 x7 x8 x9:Int)(l40:LI)(x41 x42:Int):(DZ 0 (D1 (HJ N) (DU JK [1,1,1,1]) (D4 (HJ N) AB [.tmp 6,.tmp 7] [[.z],[.z]]))) (.exit 0) (NU a2 x1 x6 x7 x8 x9 l40 x41 x42)=(AA (.tup [.i x8,.i x9],[])):=AF
def MC(N:Nat):Env:=EI [(174,LV),(175,cY)] [(9,⟨[3,4,5,6,7,42,43],[3,4,5],[]⟩)] 94 N
abbrev UA(m:Md)(a1:Qy)(a2:Bx)(b6:Bool)(x7 x42 x43:Int):St:=⟨[(3,(.ptr 3 0 0)),(4,(.ptr 4 0 0)),(5,(.ptr 5 0 0)),(6,(.bool b6)),(7,(.i x7)),(42,(.i x42)),(43,(.i x43))],[(3,(AA (.box (Md.cs m)))),(4,(AA (.box (Qy.cs a1)))),(5,(AA (.box (Bx.cs a2))))]⟩
theorem xf(N:Nat)(m:Md)(a1:Qy)(a2:Bx):EB (MC N) ON [.tmp 6] [[.bool]] [(Md.V m),(Qy.V a1),(Bx.V a2)]=(cond (Bx.emp a2) (AA (.bool AC,[])) (cond (Bx.emp a2||goodB a2) (cond (Qy.k a1==1) (cond (AE (Qy.lo a1<=EK m (Qy.c a1) a2)) (AA (.bool (AE (EE m (Qy.c a1) a2<=Qy.hi a1)),[])) (AA (.bool AD,[]))) (cond (Qy.k a1==2) (D7 (MC N) (DU ON [1,1,1,0,1,0,1,1,1,0,0,1,0,0]) ⟨[3,4,5,6,7,42,43],[3,4,5],[]⟩ N (UA m a1 a2 AD (EK m (Qy.c a1) a2) (Md.c m) 0) (DZ 1 (D1 (MC N) (DU ON [1,1,1,0,1,0,1,1,1,0,1]) (DZ 0 (D1 (MC N) (DU ON [1,1,1,1]) (D4 (MC N) AB [.tmp 6] [[.bool]])))))) (cond (AE (Qy.ft a1=ic 0)) (cond (AE (Sp.lo (Bx.s0 a2)>=Sp.hi (Bx.s4 a2))) (AA (.bool AC,[])) (cond (AE (Qy.ft a1=ic 0)) (cond (Bx.emp {a2 with s0:=(Bx.s4 a2)}||goodB {a2 with s0:=(Bx.s4 a2)}) (cond (Qy.fl a1) (AA ((.bool (AE (EE m (Qy.c a1) {a2 with s0:=(Bx.s4 a2)}<=EK m (Qy.c a1) a2))),[])) (AA ((.bool (AE (EK m (Qy.c a1) {a2 with s0:=(Bx.s4 a2)}>=EE m (Qy.c a1) a2))),[]))) AB) (cond (AE (Qy.ft a1=ic 1)) (cond (Bx.emp {a2 with s1:=(Bx.s4 a2)}||goodB {a2 with s1:=(Bx.s4 a2)}) (cond (Qy.fl a1) (AA ((.bool (AE (EE m (Qy.c a1) {a2 with s1:=(Bx.s4 a2)}<=EK m (Qy.c a1) a2))),[])) (AA ((.bool (AE (EK m (Qy.c a1) {a2 with s1:=(Bx.s4 a2)}>=EE m (Qy.c a1) a2))),[]))) AB) (cond (AE (Qy.ft a1=ic 2)) (cond (Bx.emp {a2 with s2:=(Bx.s4 a2)}||goodB {a2 with s2:=(Bx.s4 a2)}) (cond (Qy.fl a1) (AA ((.bool (AE (EE m (Qy.c a1) {a2 with s2:=(Bx.s4 a2)}<=EK m (Qy.c a1) a2))),[])) (AA ((.bool (AE (EK m (Qy.c a1) {a2 with s2:=(Bx.s4 a2)}>=EE m (Qy.c a1) a2))),[]))) AB) (cond (AE (Qy.ft a1=ic 3)) (cond (Bx.emp {a2 with s3:=(Bx.s4 a2)}||goodB {a2 with s3:=(Bx.s4 a2)}) (cond (Qy.fl a1) (AA ((.bool (AE (EE m (Qy.c a1) {a2 with s3:=(Bx.s4 a2)}<=EK m (Qy.c a1) a2))),[])) (AA ((.bool (AE (EK m (Qy.c a1) {a2 with s3:=(Bx.s4 a2)}>=EE m (Qy.c a1) a2))),[]))) AB) (cond (AE (Qy.ft a1=ic 4)) (cond (Bx.emp a2||goodB a2) (cond (Qy.fl a1) (AA (.bool (AE (EE m (Qy.c a1) a2<=EK m (Qy.c a1) a2)),[])) (AA (.bool (AE (EK m (Qy.c a1) a2>=EE m (Qy.c a1) a2)),[]))) AB) AB)))))) (cond (AE (Qy.ft a1=ic 1)) (cond (AE (Sp.lo (Bx.s1 a2)>=Sp.hi (Bx.s4 a2))) (AA (.bool AC,[])) (cond (AE (Qy.ft a1=ic 0)) (cond (Bx.emp {a2 with s0:=(Bx.s4 a2)}||goodB {a2 with s0:=(Bx.s4 a2)}) (cond (Qy.fl a1) (AA ((.bool (AE (EE m (Qy.c a1) {a2 with s0:=(Bx.s4 a2)}<=EK m (Qy.c a1) a2))),[])) (AA ((.bool (AE (EK m (Qy.c a1) {a2 with s0:=(Bx.s4 a2)}>=EE m (Qy.c a1) a2))),[]))) AB) (cond (AE (Qy.ft a1=ic 1)) (cond (Bx.emp {a2 with s1:=(Bx.s4 a2)}||goodB {a2 with s1:=(Bx.s4 a2)}) (cond (Qy.fl a1) (AA ((.bool (AE (EE m (Qy.c a1) {a2 with s1:=(Bx.s4 a2)}<=EK m (Qy.c a1) a2))),[])) (AA ((.bool (AE (EK m (Qy.c a1) {a2 with s1:=(Bx.s4 a2)}>=EE m (Qy.c a1) a2))),[]))) AB) (cond (AE (Qy.ft a1=ic 2)) (cond (Bx.emp {a2 with s2:=(Bx.s4 a2)}||goodB {a2 with s2:=(Bx.s4 a2)}) (cond (Qy.fl a1) (AA ((.bool (AE (EE m (Qy.c a1) {a2 with s2:=(Bx.s4 a2)}<=EK m (Qy.c a1) a2))),[])) (AA ((.bool (AE (EK m (Qy.c a1) {a2 with s2:=(Bx.s4 a2)}>=EE m (Qy.c a1) a2))),[]))) AB) (cond (AE (Qy.ft a1=ic 3)) (cond (Bx.emp {a2 with s3:=(Bx.s4 a2)}||goodB {a2 with s3:=(Bx.s4 a2)}) (cond (Qy.fl a1) (AA ((.bool (AE (EE m (Qy.c a1) {a2 with s3:=(Bx.s4 a2)}<=EK m (Qy.c a1) a2))),[])) (AA ((.bool (AE (EK m (Qy.c a1) {a2 with s3:=(Bx.s4 a2)}>=EE m (Qy.c a1) a2))),[]))) AB) (cond (AE (Qy.ft a1=ic 4)) (cond (Bx.emp a2||goodB a2) (cond (Qy.fl a1) (AA (.bool (AE (EE m (Qy.c a1) a2<=EK m (Qy.c a1) a2)),[])) (AA (.bool (AE (EK m (Qy.c a1) a2>=EE m (Qy.c a1) a2)),[]))) AB) AB)))))) (cond (AE (Qy.ft a1=ic 2)) (cond (AE (Sp.lo (Bx.s2 a2)>=Sp.hi (Bx.s4 a2))) (AA (.bool AC,[])) (cond (AE (Qy.ft a1=ic 0)) (cond (Bx.emp {a2 with s0:=(Bx.s4 a2)}||goodB {a2 with s0:=(Bx.s4 a2)}) (cond (Qy.fl a1) (AA ((.bool (AE (EE m (Qy.c a1) {a2 with s0:=(Bx.s4 a2)}<=EK m (Qy.c a1) a2))),[])) (AA ((.bool (AE (EK m (Qy.c a1) {a2 with s0:=(Bx.s4 a2)}>=EE m (Qy.c a1) a2))),[]))) AB) (cond (AE (Qy.ft a1=ic 1)) (cond (Bx.emp {a2 with s1:=(Bx.s4 a2)}||goodB {a2 with s1:=(Bx.s4 a2)}) (cond (Qy.fl a1) (AA ((.bool (AE (EE m (Qy.c a1) {a2 with s1:=(Bx.s4 a2)}<=EK m (Qy.c a1) a2))),[])) (AA ((.bool (AE (EK m (Qy.c a1) {a2 with s1:=(Bx.s4 a2)}>=EE m (Qy.c a1) a2))),[]))) AB) (cond (AE (Qy.ft a1=ic 2)) (cond (Bx.emp {a2 with s2:=(Bx.s4 a2)}||goodB {a2 with s2:=(Bx.s4 a2)}) (cond (Qy.fl a1) (AA ((.bool (AE (EE m (Qy.c a1) {a2 with s2:=(Bx.s4 a2)}<=EK m (Qy.c a1) a2))),[])) (AA ((.bool (AE (EK m (Qy.c a1) {a2 with s2:=(Bx.s4 a2)}>=EE m (Qy.c a1) a2))),[]))) AB) (cond (AE (Qy.ft a1=ic 3)) (cond (Bx.emp {a2 with s3:=(Bx.s4 a2)}||goodB {a2 with s3:=(Bx.s4 a2)}) (cond (Qy.fl a1) (AA ((.bool (AE (EE m (Qy.c a1) {a2 with s3:=(Bx.s4 a2)}<=EK m (Qy.c a1) a2))),[])) (AA ((.bool (AE (EK m (Qy.c a1) {a2 with s3:=(Bx.s4 a2)}>=EE m (Qy.c a1) a2))),[]))) AB) (cond (AE (Qy.ft a1=ic 4)) (cond (Bx.emp a2||goodB a2) (cond (Qy.fl a1) (AA (.bool (AE (EE m (Qy.c a1) a2<=EK m (Qy.c a1) a2)),[])) (AA (.bool (AE (EK m (Qy.c a1) a2>=EE m (Qy.c a1) a2)),[]))) AB) AB)))))) (cond (AE (Qy.ft a1=ic 3)) (cond (AE (Sp.lo (Bx.s3 a2)>=Sp.hi (Bx.s4 a2))) (AA (.bool AC,[])) (cond (AE (Qy.ft a1=ic 0)) (cond (Bx.emp {a2 with s0:=(Bx.s4 a2)}||goodB {a2 with s0:=(Bx.s4 a2)}) (cond (Qy.fl a1) (AA ((.bool (AE (EE m (Qy.c a1) {a2 with s0:=(Bx.s4 a2)}<=EK m (Qy.c a1) a2))),[])) (AA ((.bool (AE (EK m (Qy.c a1) {a2 with s0:=(Bx.s4 a2)}>=EE m (Qy.c a1) a2))),[]))) AB) (cond (AE (Qy.ft a1=ic 1)) (cond (Bx.emp {a2 with s1:=(Bx.s4 a2)}||goodB {a2 with s1:=(Bx.s4 a2)}) (cond (Qy.fl a1) (AA ((.bool (AE (EE m (Qy.c a1) {a2 with s1:=(Bx.s4 a2)}<=EK m (Qy.c a1) a2))),[])) (AA ((.bool (AE (EK m (Qy.c a1) {a2 with s1:=(Bx.s4 a2)}>=EE m (Qy.c a1) a2))),[]))) AB) (cond (AE (Qy.ft a1=ic 2)) (cond (Bx.emp {a2 with s2:=(Bx.s4 a2)}||goodB {a2 with s2:=(Bx.s4 a2)}) (cond (Qy.fl a1) (AA ((.bool (AE (EE m (Qy.c a1) {a2 with s2:=(Bx.s4 a2)}<=EK m (Qy.c a1) a2))),[])) (AA ((.bool (AE (EK m (Qy.c a1) {a2 with s2:=(Bx.s4 a2)}>=EE m (Qy.c a1) a2))),[]))) AB) (cond (AE (Qy.ft a1=ic 3)) (cond (Bx.emp {a2 with s3:=(Bx.s4 a2)}||goodB {a2 with s3:=(Bx.s4 a2)}) (cond (Qy.fl a1) (AA ((.bool (AE (EE m (Qy.c a1) {a2 with s3:=(Bx.s4 a2)}<=EK m (Qy.c a1) a2))),[])) (AA ((.bool (AE (EK m (Qy.c a1) {a2 with s3:=(Bx.s4 a2)}>=EE m (Qy.c a1) a2))),[]))) AB) (cond (AE (Qy.ft a1=ic 4)) (cond (Bx.emp a2||goodB a2) (cond (Qy.fl a1) (AA (.bool (AE (EE m (Qy.c a1) a2<=EK m (Qy.c a1) a2)),[])) (AA (.bool (AE (EK m (Qy.c a1) a2>=EE m (Qy.c a1) a2)),[]))) AB) AB)))))) (cond (AE (Qy.ft a1=ic 4)) (cond (AE (Sp.lo (Bx.s4 a2)>=Sp.hi (Bx.s4 a2))) (AA (.bool AC,[])) (cond (AE (Qy.ft a1=ic 0)) (cond (Bx.emp {a2 with s0:=(Bx.s4 a2)}||goodB {a2 with s0:=(Bx.s4 a2)}) (cond (Qy.fl a1) (AA ((.bool (AE (EE m (Qy.c a1) {a2 with s0:=(Bx.s4 a2)}<=EK m (Qy.c a1) a2))),[])) (AA ((.bool (AE (EK m (Qy.c a1) {a2 with s0:=(Bx.s4 a2)}>=EE m (Qy.c a1) a2))),[]))) AB) (cond (AE (Qy.ft a1=ic 1)) (cond (Bx.emp {a2 with s1:=(Bx.s4 a2)}||goodB {a2 with s1:=(Bx.s4 a2)}) (cond (Qy.fl a1) (AA ((.bool (AE (EE m (Qy.c a1) {a2 with s1:=(Bx.s4 a2)}<=EK m (Qy.c a1) a2))),[])) (AA ((.bool (AE (EK m (Qy.c a1) {a2 with s1:=(Bx.s4 a2)}>=EE m (Qy.c a1) a2))),[]))) AB) (cond (AE (Qy.ft a1=ic 2)) (cond (Bx.emp {a2 with s2:=(Bx.s4 a2)}||goodB {a2 with s2:=(Bx.s4 a2)}) (cond (Qy.fl a1) (AA ((.bool (AE (EE m (Qy.c a1) {a2 with s2:=(Bx.s4 a2)}<=EK m (Qy.c a1) a2))),[])) (AA ((.bool (AE (EK m (Qy.c a1) {a2 with s2:=(Bx.s4 a2)}>=EE m (Qy.c a1) a2))),[]))) AB) (cond (AE (Qy.ft a1=ic 3)) (cond (Bx.emp {a2 with s3:=(Bx.s4 a2)}||goodB {a2 with s3:=(Bx.s4 a2)}) (cond (Qy.fl a1) (AA ((.bool (AE (EE m (Qy.c a1) {a2 with s3:=(Bx.s4 a2)}<=EK m (Qy.c a1) a2))),[])) (AA ((.bool (AE (EK m (Qy.c a1) {a2 with s3:=(Bx.s4 a2)}>=EE m (Qy.c a1) a2))),[]))) AB) (cond (AE (Qy.ft a1=ic 4)) (cond (Bx.emp a2||goodB a2) (cond (Qy.fl a1) (AA (.bool (AE (EE m (Qy.c a1) a2<=EK m (Qy.c a1) a2)),[])) (AA (.bool (AE (EK m (Qy.c a1) a2>=EE m (Qy.c a1) a2)),[]))) AB) AB)))))) AB))))))) AB)):=AF
theorem Rv(N:Nat)(m:Md)(a1:Qy)(a2:Bx)(b6:Bool)(x7 x42 x43:Int)(again:St->DW)(k:Out->St->DW):E3 (MC N) (DU ON [1,1,1,0,1,0,1,1,1,0,0,1,0,0]) (UA m a1 a2 b6 x7 x42 x43) (ES again ⟨[3,4,5,6,7,42,43],[3,4,5],[]⟩ k)=(cond (AE (x43<x42)) (cond (Bx.emp a2||goodB a2) (cond (x43 !=Qy.c a1) (cond (AE (EE m x43 a2>=x7)) (k .ret (UA m a1 a2 AD x7 x42 x43)) (again (UA m a1 a2 b6 x7 x42 (AI AJ (x43+1))))) (again (UA m a1 a2 b6 x7 x42 (AI AJ (x43+1))))) AB) (k (.exit 1) (UA m a1 a2 b6 x7 x42 x43))):=AF
theorem gw(N:Nat)(m:Md)(a1:Qy)(a2:Bx)(b6:Bool)(x7 x42 x43:Int):(DZ 1 (D1 (MC N) (DU ON [1,1,1,0,1,0,1,1,1,0,1]) (DZ 0 (D1 (MC N) (DU ON [1,1,1,1]) (D4 (MC N) AB [.tmp 6] [[.bool]]))))) (.exit 1) (UA m a1 a2 b6 x7 x42 x43)=(AA (.bool AC,[])):=AF
theorem gx(N:Nat)(m:Md)(a1:Qy)(a2:Bx)(b6:Bool)(x7 x42 x43:Int):(DZ 1 (D1 (MC N) (DU ON [1,1,1,0,1,0,1,1,1,0,1]) (DZ 0 (D1 (MC N) (DU ON [1,1,1,1]) (D4 (MC N) AB [.tmp 6] [[.bool]]))))) .ret (UA m a1 a2 b6 x7 x42 x43)=(AA (.bool b6,[])):=AF
def KL(N:Nat):Env:=EI [(119,cS),(118,c5),(117,eT),(62,W0),(93,OK),(38,W1)] [(8,⟨[3,4,6,9,29,30,31],[3,4],[]⟩)] 59 N
abbrev T9(m:Md)(q:Qy)(b6 b9:Bool)(l29:LI)(x30 x31:Int):St:=⟨[(3,(.ptr 3 0 0)),(4,(.ptr 4 0 0)),(6,(.bool b6)),(9,(.bool b9)),(29,(.list AC E5 l29)),(30,(.i x30)),(31,(.i x31))],[(3,(AA (.box (Md.cs m)))),(4,(AA (.box (Qy.cs q))))]⟩
theorem xd(N:Nat)(m:Md)(q:Qy)(v:Vd):EB (KL N) MJ [.tmp 6] [[.bool]] [(Md.V m),(Qy.V q),(Vd.V v)]=(cond (!E8 m q) (AA (.bool AD,[])) (cond (Vd.kind v==1) (cond (Option.isSome (L4 (GG q) (Vd.proof v))) (D7 (KL N) (DU MJ [1,1,1,0,1,0,1,0,1,0,1,0,0]) ⟨[3,4,6,9,29,30,31],[3,4],[]⟩ N (T9 m q AD AC (Option.getD (L4 (GG q) (Vd.proof v)) []) (ic (AN (Option.getD (L4 (GG q) (Vd.proof v)) []))) 0) (DZ 1 (D1 (KL N) (DU MJ [1,1,1,0,1,0,1,0,1,1]) (DZ 0 (D1 (KL N) (DU MJ [1,1,1,1]) (D4 (KL N) AB [.tmp 6] [[.bool]])))))) (D7 (KL N) (DU MJ [1,1,1,0,1,0,1,0,1,0,1,0,0]) ⟨[3,4,6,9,29,30,31],[3,4],[]⟩ N (T9 m q AD AD [] (ic 0) 0) (DZ 1 (D1 (KL N) (DU MJ [1,1,1,0,1,0,1,0,1,1]) (DZ 0 (D1 (KL N) (DU MJ [1,1,1,1]) (D4 (KL N) AB [.tmp 6] [[.bool]]))))))) (cond (Vd.kind v==2) (cond (Bx.has (GG q) {p0:=Vd.w0 v,p1:=Vd.w1 v,p2:=Vd.w2 v,p3:=Vd.w3 v} (Vd.twin v)) (AA ((.bool (HK m q {p0:=Vd.w0 v,p1:=Vd.w1 v,p2:=Vd.w2 v,p3:=Vd.w3 v} (Vd.twin v))),[])) (AA (.bool AD,[]))) (AA (.bool AD,[]))))):=AF
theorem wT(N:Nat)(m:Md)(q:Qy)(b6 b9:Bool)(l29:LI)(x30 x31:Int)(again:St->DW)(k:Out->St->DW):E3 (KL N) (DU MJ [1,1,1,0,1,0,1,0,1,0,1,0,0]) (T9 m q b6 b9 l29 x30 x31) (ES again ⟨[3,4,6,9,29,30,31],[3,4],[]⟩ k)=(cond (AE (x31<x30)) (cond (AE (0<=x31)&&AE (x31<ic (AN l29))) (cond (E8 m q&&(Bx.emp (EC (AQ l29 (AM x31) default))||goodB (EC (AQ l29 (AM x31) default)))) (cond (!GB m q (EC (AQ l29 (AM x31) default))) (k .ret (T9 m q AD b9 l29 x30 x31)) (again (T9 m q b6 b9 l29 x30 (AI AJ (x31+1))))) AB) AB) (k (.exit 1) (T9 m q b6 b9 l29 x30 x31))):=AF
theorem Ez(N:Nat)(m:Md)(q:Qy)(b6 b9:Bool)(l29:LI)(x30 x31:Int):(DZ 1 (D1 (KL N) (DU MJ [1,1,1,0,1,0,1,0,1,1]) (DZ 0 (D1 (KL N) (DU MJ [1,1,1,1]) (D4 (KL N) AB [.tmp 6] [[.bool]]))))) (.exit 1) (T9 m q b6 b9 l29 x30 x31)=(AA (.bool b9,[])):=AF
theorem gu(N:Nat)(m:Md)(q:Qy)(b6 b9:Bool)(l29:LI)(x30 x31:Int):(DZ 1 (D1 (KL N) (DU MJ [1,1,1,0,1,0,1,0,1,1]) (DZ 0 (D1 (KL N) (DU MJ [1,1,1,1]) (D4 (KL N) AB [.tmp 6] [[.bool]]))))) .ret (T9 m q b6 b9 l29 x30 x31)=(AA (.bool b6,[])):=AF
open Go Go.Proofs
theorem zev:D9 PR B0 244 eV:=by
 refine EJ [] [] eV [[.bool]] Tryz.func244 rm trivial ?_;intro vs r hwf h;unfold eV at h;split at h
 .rename_i s p a;rw[R.get_ok]at h;refine⟨0,(zam 0 s p a).trans ?_⟩;rw[<-h];unfold K6;show _=AA (V.bool (cond s (p==0&&a==0) (AE (0<=p)&&AE (p<=4))),[]);cases s with
  |true=>
   simp only[BN,CJ];rfl
  |false=>
   simp only[BC];by_cases hp:0<=p
   .rw[AL (show p>=0 from hp)];rfl
   .rw[AS (show¬p>=0 from hp)];rfl
 .simp[R.get]at h
def ez(o:Option (Int×Int)):Int:=match o with
 |some st=>cond (!(st.1==0)||decide (st.2>200)) 0 st.2
 |none=>0
theorem qH(N:Nat)(l:LI)(K:Out->St->DW)(hl:l.length<=65536)
  (hx:∀x2 x3 x4 x11 x12,K (.exit 0) ⟨[(2,(.i x2)),(3,(.i x3)),(4,(.i x4)),(10,(.list AC EX l)),(11,(.i x11)),(12,(.i x12))],[]⟩=cond (x3 !=0) (AA (.i 0,[])) (cond (AE (x4>200)) (AA (.i 0,[])) (AA (.i x4,[]))))
  (hr:∀x2 x3 x4 x11 x12,K .ret ⟨[(2,(.i x2)),(3,(.i x3)),(4,(.i x4)),(10,(.list AC EX l)),(11,(.i x11)),(12,(.i x12))],[]⟩=AA (.i x2,[])):
  ∀(d i n:Nat) (left most:Int),i+d=l.length->d<n->0<=left->left<=i+1->
   D7 (RG N) (DU U1 [1,1,1,0,1,0,0]) ⟨[2,3,4,10,11,12],[],[]⟩ n ⟨[(2,(.i 0)),(3,(.i left)),(4,(.i most)),(10,(.list AC EX l)),(11,(.i (ic l.length))),(12,(.i (i:Int)))],[]⟩ K=AA (.i (ez (LH (l.drop i) (left,most))),[])
 |d,i,0,_,_,_,h,_,_=>absurd h AG
 |0,i,n+1,left,most,hd,_,_,_=>by
  rw[ED,Sv,I6 AG,DT,hx,C1 AG];show _=AA (V.int .i64 (cond (!(left==0)||decide (most>200)) 0 most),[])
  have:(left !=0)=!(left==0):=rfl
  rw[this];cases left==0<;>cases AE (most>200)<;>rfl
 |d+1,i,n+1,left,most,hd,hn,h0,h1=>by
  have hi:i<l.length:=by omega
  rw[ED,Sv,H0 hi,DS,IG,BX,DS,GQ AG,IK hi,BD hi,LH];unfold OT;have er:K6 (JN (IV.toBool (IV.cell l[i] 0)) (IV.toInt (IV.cell l[i] 1)) (IV.toInt (IV.cell l[i] 2)))=K6 l[i]:=rfl;have es:IV.toBool (IV.cell l[i] 0)=I0 l[i]:=rfl;rw[er,es];generalize l[i]=x;cases hz:(left==0)with
  |true=>rw[DS,hr];rfl
  |false=>
   have hne:left≠0:=by simpa using hz
   rw[DT];cases K6 x with
   |false=>rw[BG,DS,hr];rfl
   |true=>
    rw[A9,DT,Bool.or_false,DT];cases I0 x with
    |true=>
     rw[DS,DS,show AI AJ (left-1)=left-1 from ER AG AG];exact qH N l K hl hx hr d (i+1) n (left-1) most AG AG AG AG
    |false=>
     rw[DT,DT,show AI AJ (left+1)=left+1 from ER AG AG];exact qH N l K hl hx hr d (i+1) n (left+1) _ AG AG AG AG
theorem zeu:D9 PR B0 211 eU:=by
 refine EJ [(244,eV)] [(5,⟨[2,3,4,10,11,12],[],[]⟩)] eU [[.z]] Tryz.func211 rl ⟨zev,trivial⟩ ?_;intro vs r hwf h;unfold eU at h;split at h
 .rename_i l;rw[R.get_ok]at h;refine⟨l.length+1,(zal (l.length+1) l).trans ?_⟩;rw[<-h];unfold MM;by_cases hl:l.length<=65536
  .rw[AS (show¬ic l.length>65536 by simp only[ic];omega),DT,DT]
   have:=qH (l.length+1) l _ hl (λx2 x3 x4 x11 x12=>jo (l.length+1) x2 x3 x4 l x11 x12) (λx2 x3 x4 x11 x12=>jp (l.length+1) x2 x3 x4 l x11 x12) l.length 0 (l.length+1) 1 1 AG AG AG AG
   rw[CA]at this;exact this
  .rw[AL (show ic l.length>65536 by simp only[ic];omega)];rfl
 .simp[R.get]at h
theorem zes:D9 PR B0 173 eR:=by
 refine EJ [(211,eU)] [] eR [[.bool]] Tryz.func173 rj ⟨zeu,trivial⟩ ?_;intro vs r hwf h;unfold eR at h;split at h
 .rename_i l;rw[R.get_ok]at h;exact⟨0,(zak 0 l).trans h⟩
 .simp[R.get]at h
theorem zw(b:Bx)(p:Pt)(t:Int):EB (Wm 6) Aa [.tmp 6] [[.bool]] [b.V,p.V,.i t]=
 cond (!b.s0.has p.p0) (AA (.bool AD,[])) (cond (!b.s1.has p.p1) (AA (.bool AD,[])) (cond (!b.s2.has p.p2) (AA (.bool AD,[])) (cond (!b.s3.has p.p3) (AA (.bool AD,[])) (AA (.bool (b.s4.has t),[]))))):=AF
theorem zdy:D9 PR B0 119 cS:=by
 refine EJ [(127,W4)] [(2,⟨[2,3,6,9,10],[3],[]⟩)] cS [[.bool]] Tryz.func119 nj ⟨Qe,trivial⟩ ?_;intro vs r hwf h;unfold cS at h;split at h
 .rename_i b p t;replace h:=H4 h;obtain⟨b,rfl,h⟩:=h;replace h:=Q7 h;obtain⟨p,rfl,h⟩:=h;rw[R.get_ok]at h;refine⟨6,(zw b p t).trans ?_⟩;rw[<-h];unfold Bx.has;cases b.s0.has p.p0<;>cases b.s1.has p.p1<;>cases b.s2.has p.p2<;>cases b.s3.has p.p3<;>rfl
 .simp[R.get]at h
open Go
theorem P4{s:Sp}{n:Int}:s.has n=AC↔s.lo<=n/\n<=s.hi:=by
 unfold Sp.has;rw[AP,AW,AW]
theorem zeT{s:Sp}:s.emp=AD↔s.lo<=s.hi:=by
 unfold Sp.emp;rw[B6];omega
theorem Qt{lo hi n:Int}:(LT lo hi).has n=AC↔lo<=n/\n<=hi:=by
 unfold LT;cases hd:AE (lo>hi)with
 |true=>
  have:=BB hd
  rw[DS,P4];show(1:Int)<=n/\n<=0↔_;omega
 |false=>rw[DT,P4]
theorem qC{s:Sp}{a n:Int}:(s.cutL a).has n=AC↔s.has n=AC/\n<=a:=by
 unfold Sp.cutL;rw[Qt,P4];omega
theorem qA{s:Sp}{a n:Int}(ha: -9223372036854775808<=a)(hs:s.hi<=9223372036854775807):(s.cutH a).has n=AC↔s.has n=AC/\a<n:=by
 unfold Sp.cutH;cases hd:AE (a>=s.hi)with
 |true=>
  have:=BB hd
  rw[DS,P4,P4];show(1:Int)<=n/\n<=0↔_;omega
 |false=>
  have:=BM hd
  have e:D6 (a+1)=a+1:=ER AG AG;rw[DT,Qt,P4,e];omega
def co(p:Pt)(t:Int):Nat->Int
 |0=>p.p0
 |1=>p.p1
 |2=>p.p2
 |3=>p.p3
 |_=>t
theorem RK{b:Bx}{p:Pt}{t:Int}:b.has p t=AC↔∀i,i<5->(b.g i).has (co p t i)=AC:=by
 unfold Bx.has;simp only[AP];constructor
 .rintro⟨h0,h1,h2,h3,h4⟩ i hi
  match i,hi with
  |0,_=>exact h0
  |1,_=>exact h1
  |2,_=>exact h2
  |3,_=>exact h3
  |4,_=>exact h4
  |i+5,h=>exact absurd h AG
 .intro h;exact⟨h 0 AG,h 1 AG,h 2 AG,h 3 AG,h 4 AG⟩
theorem kP{b:Bx}:b.emp=AD↔∀i,i<5->(b.g i).lo<=(b.g i).hi:=by
 unfold Bx.emp;simp only[vaa,zeT];constructor
 .rintro⟨h0,h1,h2,h3,h4⟩ i hi
  match i,hi with
  |0,_=>exact h0
  |1,_=>exact h1
  |2,_=>exact h2
  |3,_=>exact h3
  |4,_=>exact h4
  |i+5,h=>exact absurd h AG
 .intro h;exact⟨h 0 AG,h 1 AG,h 2 AG,h 3 AG,h 4 AG⟩
theorem LW(b:Bx)(s:Sp):∀{i j:Nat},i<5->j<5->(b.p s i).g j=if j=i then s else b.g j
 |0,0,_,_=>rfl
 |0,1,_,_=>rfl
 |0,2,_,_=>rfl
 |0,3,_,_=>rfl
 |0,4,_,_=>rfl
 |1,0,_,_=>rfl
 |1,1,_,_=>rfl
 |1,2,_,_=>rfl
 |1,3,_,_=>rfl
 |1,4,_,_=>rfl
 |2,0,_,_=>rfl
 |2,1,_,_=>rfl
 |2,2,_,_=>rfl
 |2,3,_,_=>rfl
 |2,4,_,_=>rfl
 |3,0,_,_=>rfl
 |3,1,_,_=>rfl
 |3,2,_,_=>rfl
 |3,3,_,_=>rfl
 |3,4,_,_=>rfl
 |4,0,_,_=>rfl
 |4,1,_,_=>rfl
 |4,2,_,_=>rfl
 |4,3,_,_=>rfl
 |4,4,_,_=>rfl
 |i+5,_,h,_=>absurd h AG
 |_,j+5,_,h=>absurd h AG
def Bx.ok(b:Bx):Prop:=∀i,i<5->(b.g i).hi<=2147483647
theorem ZV(b:Bx)(h:b.emp=AD):b.has b.low b.s4.hi=AC:=by
 rw[kP]at h;rw[RK];intro i hi;rw[P4]
 have:=h i hi
 match i,hi with
 |0,_=>exact⟨DO _,this⟩
 |1,_=>exact⟨DO _,this⟩
 |2,_=>exact⟨DO _,this⟩
 |3,_=>exact⟨DO _,this⟩
 |4,_=>exact⟨this,DO _⟩
 |i+5,h=>exact absurd h AG
theorem kR{b:Bx}{p:Pt}{t:Int}(h:b.has p t=AC):b.emp=AD:=by
 rw[RK]at h;rw[kP];intro i hi
 have:=P4.1 (h i hi)
 omega
theorem qB{b:Bx}{i:Nat}(hi:i<5){a:Int}{p:Pt}{t:Int}:(b.cutL (i:Int) a).has p t=AC↔b.has p t=AC/\co p t i<=a:=by
 unfold Bx.cutL;rw[BH,RK,RK];constructor
 .intro h;refine⟨λj hj=>?_,?_⟩
  .have:=h j hj
   rw[LW b _ hi hj]at this;by_cases e:j=i
   .rw[B3 e,qC]at this;rw[e]at this ⊢;exact this.1
   .rw[BO e]at this;exact this
  .have:=h i hi
   rw[LW b _ hi hi,B3 rfl,qC]at this;exact this.2
 .rintro⟨h,ha⟩ j hj;rw[LW b _ hi hj];by_cases e:j=i
  .rw[B3 e,qC,e];exact⟨h i hi,ha⟩
  .rw[BO e];exact h j hj
theorem p9{b:Bx}(hb:b.ok){i:Nat}(hi:i<5){a:Int}(ha: -2147483648<=a){p:Pt}{t:Int}:(b.cutH (i:Int) a).has p t=AC↔b.has p t=AC/\a<co p t i:=by
 have hs:=hb i hi;unfold Bx.cutH;rw[BH,RK,RK];constructor
 .intro h;refine⟨λj hj=>?_,?_⟩
  .have:=h j hj
   rw[LW b _ hi hj]at this;by_cases e:j=i
   .rw[B3 e,qA AG AG]at this;rw[e]at this ⊢;exact this.1
   .rw[BO e]at this;exact this
  .have:=h i hi
   rw[LW b _ hi hi,B3 rfl,qA AG AG]at this;exact this.2
 .rintro⟨h,ha'⟩ j hj;rw[LW b _ hi hj];by_cases e:j=i
  .rw[B3 e,qA AG AG,e];exact⟨h i hi,ha'⟩
  .rw[BO e];exact h j hj
theorem Qu{lo hi:Int}(h:hi<=2147483647):(LT lo hi).hi<=2147483647:=by
 unfold LT;cases AE (lo>hi)with
 |true=>rw[DS];show(0:Int)<=_;omega
 |false=>exact h
theorem iS{b:Bx}(hb:b.ok){s:Sp}(hs:s.hi<=2147483647){i:Nat}(hi:i<5):(b.p s i).ok:=by
 intro j hj;rw[LW b _ hi hj];split
 .exact hs
 .exact hb j hj
theorem Dr{b:Bx}(hb:b.ok){i:Nat}(hi:i<5)(a:Int):(b.cutL (i:Int) a).ok:=by
 unfold Bx.cutL;rw[BH];refine iS hb ?_ hi;unfold Sp.cutL;exact Qu (by have:=hb i hi;omega)
theorem Dp{b:Bx}(hb:b.ok){i:Nat}(hi:i<5)(a:Int):(b.cutH (i:Int) a).ok:=by
 unfold Bx.cutH;rw[BH];refine iS hb ?_ hi;unfold Sp.cutH;cases AE (a>=(b.g i).hi)with
 |true=>rw[DS];show(0:Int)<=_;omega
 |false=>exact Qu (hb i hi)
theorem JI(b:Bx):EC b.I=b:=rfl
theorem kY(p:Pt)(t:Int):∀{i:Nat},i<4->co p t i=p.g i
 |0,_=>rfl
 |1,_=>rfl
 |2,_=>rfl
 |3,_=>rfl
 |i+4,h=>absurd h AG
abbrev nd(l:LI)(i:Nat):Nd:=DV (l.getD i default).toInt
def X9(l:LI)(k j:Nat):Prop:=(nd l k).lf=AD/\((nd l k).l=(j:Int)\/(nd l k).r=(j:Int))
structure TreeOK (l:LI):Prop where
 len:1<=l.length/\l.length<=31
 node:∀k,k<l.length->FJ (l.getD k default).toInt=AC
 fork:∀k,k<l.length->(nd l k).lf=AD->(0<=(nd l k).f/\(nd l k).f<4)/\EV (nd l k).a=AC/\((k:Int)<(nd l k).l/\(nd l k).l<ic l.length)/\((k:Int)<(nd l k).r/\(nd l k).r<ic l.length)/\(nd l k).l≠(nd l k).r
 parent:∀j,1<=j->j<l.length->∃k,k<l.length/\X9 l k j
 alone:∀j k k',1<=j->j<l.length->k<l.length->k'<l.length->X9 l k j->X9 l k' j->k=k'
theorem zfe{l:List Nat}:∀{k a:Nat},l[k]?=AA a->a<=l.sum:=by
 induction l with
 |nil=>intro k a h;simp at h
 |cons x r ih=>
  intro k a h;cases k with
  |zero=>simp at h;simp;omega
  |succ k=>have:=ih (k:=k) (a:=a) (by simpa using h);simp;omega
theorem Ub{l:List Nat}:∀{k k' a b:Nat},k<k'->l[k]?=AA a->l[k']?=AA b->a+b<=l.sum:=by
 induction l with
 |nil=>intro k k' a b _ h;simp at h
 |cons x r ih=>
  intro k k' a b hk h h';cases k with
  |zero=>
   cases k' with
   |zero=>omega
   |succ k'=>
    have:=zfe (l:=r) (k:=k') (a:=b) (by simpa using h')
    simp at h;simp;omega
  |succ k=>
   cases k' with
   |zero=>omega
   |succ k'=>
    have:=ih (k:=k) (k':=k') (a:=a) (b:=b) AG (by simpa using h) (by simpa using h')
    simp;omega
theorem zfg{l:List Nat}:0<l.sum->∃(k a:Nat),l[k]?=AA a/\0<a:=by
 induction l with
 |nil=>intro h;simp at h
 |cons x r ih=>
  intro h;by_cases hx:0<x
  .exact⟨0,x,rfl,hx⟩
  .obtain⟨k,a,hk,ha⟩:=ih (by simp at h;omega);exact⟨k+1,a,by simpa using hk,ha⟩
theorem tH{x:Nd}{j:Nat}:0<KQ x j↔x.lf=AD/\(x.l=(j:Int)\/x.r=(j:Int)):=by
 unfold KQ;cases x.lf with
 |true=>simp
 |false=>
  rw[DT];by_cases h1:x.l=(j:Int)<;>by_cases h2:x.r=(j:Int)<;>simp[h1,h2]
theorem gS{l:LI}{k:Nat}(h:k<l.length):l.getD k default=l[k]:=by simp[h]
theorem xI{l:LI}(h:F5 l 4=AC):TreeOK l:=by
 have key:∀{dim n:Int} {l:LI} {i k:Nat} (hk:k<l.length),IY dim n i l=AC->FJ (l[k]).toInt=AC/\N2 dim n (i+k) (DV (l[k]).toInt)=AC:=by
  intro dim n l
  induction l with
  |nil=>intro i k hk;exact absurd hk (Nat.not_lt_zero k)
  |cons w r ih=>
   intro i k hk h;rw[IY]at h;simp only[AP]at h;cases k with
   |zero=>exact h.1
   |succ k=>
    have:=ih (k:=k) (by simpa using hk) h.2
    rw[show i+1+k=i+(k+1) by omega]at this;exact this
 unfold F5 at h;simp only[AP]at h;obtain⟨⟨h1,h31⟩,hn,ho⟩:=h;have hlen:=AX h1;have once:∀j,1<=j->j<l.length->G5 l j=1:=λj hj hjl=>by
  unfold VH at ho;rw[CZ]at ho
  have:=ho (j-1) (vaF.2 AG)
  rw[show j-1+1=j by omega]at this;simpa using this
 have at_:∀k (hk:k<l.length) j,(l.map λw=>KQ (DV w.toInt) j)[k]?=AA (KQ (nd l k) j):=λk hk j=>by
  rw[CK,BF hk];unfold nd;rw[gS hk];rfl
 refine⟨⟨hlen,AX h31⟩,λk hk=>by rw[gS hk];exact(key hk hn).1,λk hk hl=>?_,λj hj hjl=>?_,λj k k' hj hjl hk hk' hn1 hn2=>?_⟩
 .have h2:=(key hk hn).2;have h3:=(key hk hn).1;rw[BS]at h2;unfold nd at hl ⊢;rw[gS hk]at hl ⊢;unfold N2 at h2;rw[hl,DT]at h2;simp only[AP,CC,B6,BI]at h2;obtain⟨q1,q2,q3,q4⟩:=h2;have hr:=(iM h3).2;unfold IQ NY at hr;rw[hl,DT]at hr;simp only[AP,AW]at hr;exact⟨⟨hr.2.1,hr.2.2.1⟩,hr.2.2.2.1,⟨by omega,by simp only[ic]at q4 ⊢;omega⟩,⟨by omega,by simp only[ic]at q4 ⊢;omega⟩,q2⟩
 .have h2:=once j hj hjl;unfold G5 at h2;obtain⟨k,a,hk,ha⟩:=zfg (l:=l.map λw=>KQ (DV w.toInt) j) AG;have hkl:k<l.length:=by
   have:=(B2.1 hk).1
   simpa using this
  rw[at_ k hkl j]at hk;simp only[AK]at hk;subst hk;exact⟨k,hkl,tH.1 ha⟩
 .have h2:=once j hj hjl;unfold G5 at h2;have p1:0<KQ (nd l k) j:=tH.2 hn1;have p2:0<KQ (nd l k') j:=tH.2 hn2;rcases Nat.lt_trichotomy k k' with hlt|heq|hlt
  .have:=Ub hlt (at_ k hk j) (at_ k' hk' j)
   omega
  .exact heq
  .have:=Ub hlt (at_ k' hk' j) (at_ k hk j)
   omega
def Q5(l:LI)(p:Pt)(i:Nat):Int:=(HA l p 31 (i:Int)).2.v
theorem lC{l:LI}(h:TreeOK l)(p:Pt){i:Nat}(hi:i<l.length)(n:Nat):HA l p (n+1) (i:Int)=
  cond (nd l i).lf ((i:Int),nd l i) (cond (AE (p.g (nd l i).f.toNat<=(nd l i).a)) (HA l p n (nd l i).l) (HA l p n (nd l i).r)):=by
 rw[HA,AS (show¬(i:Int)>=ic l.length by simp only[ic];omega),DT,BH,h.node i hi,A9,DT]
theorem lD{l:LI}(h:TreeOK l)(p:Pt):∀(n n' i:Nat),i<l.length->l.length-i<=n->l.length-i<=n'->HA l p n (i:Int)=HA l p n' (i:Int)
 |0,_,i,hi,h1,_=>absurd h1 AG
 |_+1,0,i,hi,_,h2=>absurd h2 AG
 |n+1,n'+1,i,hi,h1,h2=>by
  rw[lC h p hi,lC h p hi];cases hl:(nd l i).lf with
  |true=>rfl
  |false=>
   obtain⟨_,_,⟨a1,a2⟩,⟨b1,b2⟩,_⟩:=h.fork i hi hl;simp only[ic]at a2 b2;rw[DT,DT];cases AE (p.g (nd l i).f.toNat<=(nd l i).a)with
   |true=>
    have e:(nd l i).l=(((nd l i).l.toNat:Nat):Int):=by omega
    rw[DS,DS,e];exact lD h p n n' _ AG AG AG
   |false=>
    have e:(nd l i).r=(((nd l i).r.toNat:Nat):Int):=by omega
    rw[DT,DT,e];exact lD h p n n' _ AG AG AG
theorem Vg{l:LI}(h:TreeOK l)(p:Pt){i:Nat}(hi:i<l.length)(hl:(nd l i).lf=AC):Q5 l p i=(nd l i).v:=by
 unfold Q5;rw[lC h p hi,hl,DS]
theorem Vf{l:LI}(h:TreeOK l)(p:Pt){i:Nat}(hi:i<l.length)(hl:(nd l i).lf=AD):Q5 l p i=Q5 l p (cond (AE (p.g (nd l i).f.toNat<=(nd l i).a)) (nd l i).l.toNat (nd l i).r.toNat):=by
 obtain⟨_,_,⟨a1,a2⟩,⟨b1,b2⟩,_⟩:=h.fork i hi hl;have h31:=h.len.2;simp only[ic]at a2 b2;unfold Q5;rw[lC h p hi,hl,DT];cases AE (p.g (nd l i).f.toNat<=(nd l i).a)with
 |true=>
  rw[DS,DS];have e:(nd l i).l=(((nd l i).l.toNat:Nat):Int):=by omega
  rw[e,BH];rw[lD h p 30 31 _ AG AG AG]
 |false=>
  rw[DT,DT];have e:(nd l i).r=(((nd l i).r.toNat:Nat):Int):=by omega
  rw[e,BH];rw[lD h p 30 31 _ AG AG AG]
theorem zfK(l:LI)(p:Pt):G1 l p=Q5 l p 0:=rfl
abbrev JO(own:LI)(j:Nat):Bx:=EC (own.getD j default)
def fr(l:LI)(i j:Nat):Prop:=i<=j/\j<l.length/\(j=0\/∃k,k<i/\X9 l k j)
structure PInv (l:LI) (b:Bx) (i:Nat) (own out:LI):Prop where
 len:own.length=l.length
 val:∀j,fr l i j->∀p t,(JO own j).has p t=AC->b.has p t=AC/\Q5 l p 0=Q5 l p j
 ok:∀j,fr l i j->(JO own j).ok
 all:∀p t,b.has p t=AC->(∃x∈out,(EC x).has p t=AC)\/∃j,fr l i j/\(JO own j).has p t=AC
 out:∀x∈out,(EC x).emp=AD/\(EC x).ok/\∀p t,(EC x).has p t=AC->b.has p t=AC/\G1 l p=FT x
theorem Fx{l:LI}(h:TreeOK l){i:Nat}(hi:i<l.length):fr l i i:=by
 refine⟨A5 _,hi,?_⟩;by_cases h0:i=0
 .exact .inl h0
 .obtain⟨k,hk,hn⟩:=h.parent i AG hi;refine .inr ⟨k,?_,hn⟩;obtain⟨_,_,a,b,_⟩:=h.fork k hk hn.1;rcases hn.2 with e|e<;>omega
theorem vY{own:LI}{a j:Nat}{x:IV}(ha:a<own.length):(own.set a x).getD j default=if j=a then x else own.getD j default:=by
 rw[BK,List.getElem?_set];by_cases e:a=j
 .subst e;rw[B3 rfl,B3 ha,B3 rfl];rfl
 .rw[BO e,BO (λh=>e h.symm),<-BK]
theorem zbX{l:LI}(h:TreeOK l){b:Bx}{i:Nat}(hi:i<l.length){own out:LI}(hp:PInv l b i own out):
  PInv l b (i+1) (K0 (nd l i) i own) (cond ((nd l i).lf&&!(JO own i).emp) (out++[YI (JO own i) (nd l i).v]) out):=by
 have hfi:=Fx h hi;cases hl:(nd l i).lf with
 |true=>
  have e1:K0 (nd l i) i own=own:=by unfold K0;rw[hl,DS]
  have hfr:∀j,fr l (i+1) j->fr l i j:=λj hj=>by
   refine⟨by have:=hj.1;omega,hj.2.1,hj.2.2.imp_right ?_⟩;rintro⟨k,hk,hn⟩;refine⟨k,?_,hn⟩;rcases Nat.lt_succ_iff_lt_or_eq.1 hk with h1|h1
   .exact h1
   .subst h1;rw[hn.1]at hl;cases hl
  have hrf:∀j,fr l i j->j=i\/fr l (i+1) j:=λj hj=>by
   by_cases e:j=i
   .exact .inl e
   .refine .inr ⟨by have:=hj.1;omega,hj.2.1,hj.2.2.imp_right ?_⟩;rintro⟨k,hk,hn⟩;exact⟨k,by omega,hn⟩
  rw[e1,BE];have hv:=λp=>Vg h p hi hl
  cases he:(JO own i).emp with
  |true=>
   rw[A9,DT];refine⟨hp.len,λj hj=>hp.val j (hfr j hj),λj hj=>hp.ok j (hfr j hj),λp t hb=>?_,hp.out⟩;rcases hp.all p t hb with h1|⟨j,hj,hh⟩
   .exact .inl h1
   .rcases hrf j hj with rfl|hj'
    .rw[kR hh]at he;cases he
    .exact .inr ⟨j,hj',hh⟩
  |false=>
   rw[BG,DS];refine⟨hp.len,λj hj=>hp.val j (hfr j hj),λj hj=>hp.ok j (hfr j hj),λp t hb=>?_,λx hx=>?_⟩
   .rcases hp.all p t hb with⟨x,hx,hh⟩|⟨j,hj,hh⟩
    .exact .inl ⟨x,A4.2 (.inl hx),hh⟩
    .rcases hrf j hj with rfl|hj'
     .exact .inl ⟨_,A4.2 (.inr (B7.2 rfl)),hh⟩
     .exact .inr ⟨j,hj',hh⟩
   .rcases A4.1 hx with hx|hx
    .exact hp.out x hx
    .obtain rfl:=B7.1 hx;refine⟨he,hp.ok i hfi,λp t hh=>?_⟩;obtain⟨q1,q2⟩:=hp.val i hfi p t hh;refine⟨q1,?_⟩;rw[zfK,q2,hv p];rfl
 |false=>
  obtain⟨⟨f0,f4⟩,ha,⟨a1,a2⟩,⟨b1,b2⟩,hne⟩:=h.fork i hi hl;simp only[ic]at a2 b2;have ef:(nd l i).f=(((nd l i).f.toNat:Nat):Int):=by omega
  have hf5:(nd l i).f.toNat<5:=by omega
  have e1:K0 (nd l i) i own=(own.set (nd l i).l.toNat ((JO own i).cutL (nd l i).f (nd l i).a).I).set (nd l i).r.toNat ((JO own i).cutH (nd l i).f (nd l i).a).I:=by unfold K0;rw[hl,DT]
  have hlen:=hp.len;have at_:∀j,(K0 (nd l i) i own).getD j default=if j=(nd l i).r.toNat then((JO own i).cutH (nd l i).f (nd l i).a).I else if j=(nd l i).l.toNat then((JO own i).cutL (nd l i).f (nd l i).a).I else own.getD j default:=λj=>by
   rw[e1,vY (by rw[DP];omega)];congr 1;rw[vY AG]
  have fits: -2147483648<=(nd l i).a/\(nd l i).a<=2147483647:=by
   unfold EV at ha;simpa only[AP,AW]using ha
  have hok:=hp.ok i hfi;have cl:∀p t,((JO own i).cutL (nd l i).f (nd l i).a).has p t=AC↔(JO own i).has p t=AC/\p.g (nd l i).f.toNat<=(nd l i).a:=λp t=>by
   have:=qB (b:=JO own i) hf5 (a:=(nd l i).a) (p:=p) (t:=t)
   rw[<-ef,kY p t AG]at this;exact this
  have ch:∀p t,((JO own i).cutH (nd l i).f (nd l i).a).has p t=AC↔(JO own i).has p t=AC/\(nd l i).a<p.g (nd l i).f.toNat:=λp t=>by
   have:=p9 hok hf5 (a:=(nd l i).a) fits.1 (p:=p) (t:=t)
   rw[<-ef,kY p t AG]at this;exact this
  have nl:X9 l i (nd l i).l.toNat:=⟨hl,.inl AG⟩;have nr:X9 l i (nd l i).r.toNat:=⟨hl,.inr AG⟩;have hfr:∀j,fr l (i+1) j->j≠(nd l i).l.toNat->j≠(nd l i).r.toNat->fr l i j:=λj hj h1 h2=>by
   refine⟨by have:=hj.1;omega,hj.2.1,hj.2.2.imp_right ?_⟩;rintro⟨k,hk,hn⟩;refine⟨k,?_,hn⟩;rcases Nat.lt_succ_iff_lt_or_eq.1 hk with h3|h3
   .exact h3
   .subst h3;rcases hn.2 with e|e
    .exact absurd AG h1
    .exact absurd AG h2
  have hnot:∀j,X9 l i j->¬fr l i j:=λj hn hj=>by
   obtain⟨h1,h2,h3⟩:=hj;have hj0:1<=j:=by rcases hn.2 with e|e<;>omega
   rcases h3 with h3|⟨k,hk,hk2⟩
   .omega
   .have:=h.alone j k i hj0 h2 AG hi hk2 hn
    omega
  have fl:fr l (i+1) (nd l i).l.toNat:=⟨by omega,by omega,.inr ⟨i,by omega,nl⟩⟩;have frr:fr l (i+1) (nd l i).r.toNat:=⟨by omega,by omega,.inr ⟨i,by omega,nr⟩⟩;have hup:∀j,fr l i j->j≠i->fr l (i+1) j:=λj hj e=>by
   refine⟨by have:=hj.1;omega,hj.2.1,hj.2.2.imp_right ?_⟩;rintro⟨k,hk,hn⟩;exact⟨k,by omega,hn⟩
  have hvf:=λp=>Vf h p hi hl
  rw[BP,DT];refine⟨by rw[e1,DP,DP];exact hp.len,λj hj p t hh=>?_,λj hj=>?_,λp t hb=>?_,hp.out⟩
  .unfold JO at hh;rw[at_]at hh;by_cases hr:j=(nd l i).r.toNat
   .rw[B3 hr,JI,ch]at hh;obtain⟨q1,q2⟩:=hp.val i hfi p t hh.1;refine⟨q1,?_⟩;rw[q2,hvf p,AS AG,DT,hr]
   .rw[BO hr]at hh;by_cases hlj:j=(nd l i).l.toNat
    .rw[B3 hlj,JI,cl]at hh;obtain⟨q1,q2⟩:=hp.val i hfi p t hh.1;refine⟨q1,?_⟩;rw[q2,hvf p,AL hh.2,DS,hlj]
    .rw[BO hlj]at hh;exact hp.val j (hfr j hj hlj hr) p t hh
  .unfold JO;rw[at_];by_cases hr:j=(nd l i).r.toNat
   .rw[B3 hr,JI,ef];exact Dp hok hf5 _
   .rw[BO hr];by_cases hlj:j=(nd l i).l.toNat
    .rw[B3 hlj,JI,ef];exact Dr hok hf5 _
    .rw[BO hlj];exact hp.ok j (hfr j hj hlj hr)
  .rcases hp.all p t hb with h1|⟨j,hj,hh⟩
   .exact .inl h1
   .refine .inr ?_;by_cases e:j=i
    .subst e;by_cases hd:p.g (nd l j).f.toNat<=(nd l j).a
     .refine⟨_,fl,?_⟩;unfold JO;rw[at_,BO AG,B3 rfl,JI,cl];exact⟨hh,hd⟩
     .refine⟨_,frr,?_⟩;unfold JO;rw[at_,B3 rfl,JI,ch];exact⟨hh,by omega⟩
    .refine⟨j,hup j hj e,?_⟩;unfold JO;rw[at_,BO (λ(er:j=(nd l i).r.toNat)=>hnot j (er▸nr) hj),BO (λ(er:j=(nd l i).l.toNat)=>hnot j (er▸nl) hj)];exact hh
theorem Li{l:LI}(h:TreeOK l){b:Bx}:∀(m i:Nat) (own out:LI),i+m=l.length->PInv l b i own out->∃own',PInv l b l.length own' (JW (l.drop i) i own out)
 |0,i,own,out,hd,hp=>by
  have hi:i=l.length:=by omega
  subst hi;rw[C4,JW];exact⟨own,hp⟩
 |m+1,i,own,out,hd,hp=>by
  have hi:i<l.length:=by omega
  rw[BD hi,JW];have hs:=zbX h hi hp;have e:nd l i=DV (l[i]).toInt:=by unfold nd;rw[gS hi]
  rw[e]at hs;exact Li h m (i+1) _ _ AG hs
theorem uq{l:LI}(ht:F5 l 4=AC){b:Bx}(hb:b.emp=AD)(hok:b.ok):
  (∀x∈GS l b,(EC x).emp=AD/\(EC x).ok/\∀p t,(EC x).has p t=AC->b.has p t=AC/\G1 l p=FT x)/\
   ∀p t,b.has p t=AC->∃x∈GS l b,(EC x).has p t=AC:=by
 have h:=xI ht;have h1:=h.len.1;have hz:((BU l.length QJ.I).set 0 b.I).getD 0 default=b.I:=by rw[vY (by simp;omega),B3 rfl]
 have f0:∀j,fr l 0 j->j=0:=λj hj=>by
  rcases hj.2.2 with e|⟨k,hk,_⟩
  .exact e
  .omega
 have h0:PInv l b 0 ((BU l.length QJ.I).set 0 b.I) []:=by
  refine⟨by simp,λj hj p t hh=>?_,λj hj=>?_,λp t hh=>.inr ⟨0,Fx h AG,?_⟩,λx hx=>by cases hx⟩
  .obtain rfl:=f0 j hj;unfold JO at hh;rw[hz,JI]at hh;exact⟨hh,rfl⟩
  .obtain rfl:=f0 j hj;unfold JO;rw[hz,JI];exact hok
  .unfold JO;rw[hz,JI];exact hh
 obtain⟨own',hp⟩:=Li h l.length 0 _ _ AG h0;have e:GS l b=JW (l.drop 0) 0 ((BU l.length QJ.I).set 0 b.I) []:=by unfold GS;rw[ht,hb];rfl
 rw[e];refine⟨hp.out,λp t hh=>?_⟩;rcases hp.all p t hh with h1|⟨j,hj,_⟩
 .exact h1
 .have:=hj.1
  have:=hj.2.1
  omega
theorem Jf:∀{l:LI} {a:Int},MX l a<=a/\∀x∈l,MX l a<=FT x
 |[],a=>⟨DO _,λx hx=>by cases hx⟩
 |y::r,a=>by
  rw[MX];obtain⟨h1,h2⟩:=Jf (l:=r) (a:=min a (FT y));refine⟨by omega,λx hx=>?_⟩;rcases AY.1 hx with rfl|hx
  .omega
  .exact h2 x hx
theorem Ja:∀{l:LI} {a:Int},a<=MV l a/\∀x∈l,FT x<=MV l a
 |[],a=>⟨DO _,λx hx=>by cases hx⟩
 |y::r,a=>by
  rw[MV];obtain⟨h1,h2⟩:=Ja (l:=r) (a:=max a (FT y));refine⟨by omega,λx hx=>?_⟩;rcases AY.1 hx with rfl|hx
  .omega
  .exact h2 x hx
theorem Je:∀{l:LI} {a:Int},MX l a=a\/∃x∈l,MX l a=FT x
 |[],a=>.inl rfl
 |y::r,a=>by
  rw[MX];rcases Je (l:=r) (a:=min a (FT y))with h|⟨x,hx,h⟩
  .rw[h];by_cases hd:a<=FT y
   .exact .inl AG
   .exact .inr ⟨y,AZ ..,by omega⟩
  .exact .inr ⟨x,A6 _ hx,h⟩
theorem Iz:∀{l:LI} {a:Int},MV l a=a\/∃x∈l,MV l a=FT x
 |[],a=>.inl rfl
 |y::r,a=>by
  rw[MV];rcases Iz (l:=r) (a:=max a (FT y))with h|⟨x,hx,h⟩
  .rw[h];by_cases hd:FT y<=a
   .exact .inl AG
   .exact .inr ⟨y,AZ ..,by omega⟩
  .exact .inr ⟨x,A6 _ hx,h⟩
theorem zcd{ps:LI}(hp:ps≠[]):(∀x∈ps,TT ps<=FT x/\FT x<=TS ps)/\(∃x∈ps,FT x=TT ps)/\∃x∈ps,FT x=TS ps:=by
 unfold TT TS;cases ps with
 |nil=>exact absurd rfl hp
 |cons y r=>
  have e:(y::r).getD 0 default=y:=rfl;rw[e];refine⟨λx hx=>⟨Jf.2 x hx,Ja.2 x hx⟩,?_,?_⟩
  .rcases Je (l:=y::r) (a:=FT y)with h|⟨x,hx,h⟩
   .exact⟨y,AZ ..,h.symm⟩
   .exact⟨x,hx,h.symm⟩
  .rcases Iz (l:=y::r) (a:=FT y)with h|⟨x,hx,h⟩
   .exact⟨y,AZ ..,h.symm⟩
   .exact⟨x,hx,h.symm⟩
theorem YQ{l:LI}(ht:F5 l 4=AC){b:Bx}(hb:b.emp=AD)(hok:b.ok):
  (∀p t,b.has p t=AC->G8 l b<=G1 l p/\G1 l p<=G7 l b)/\(∃p t,b.has p t=AC/\G1 l p=G8 l b)/\∃p t,b.has p t=AC/\G1 l p=G7 l b:=by
 obtain⟨h1,h2⟩:=uq ht hb hok;have hne:GS l b≠[]:=λe=>by
  obtain⟨x,hx,_⟩:=h2 b.low b.s4.hi (ZV b hb);rw[e]at hx;cases hx
 obtain⟨q1,⟨x,hx,q2⟩,⟨y,hy,q3⟩⟩:=zcd hne;have hT:P7 l b=AC:=by
  unfold P7;cases he:GS l b with
  |nil=>exact absurd he hne
  |cons _ _=>rfl
 unfold G8 G7;rw[hT,DS,DS];refine⟨λp t hh=>?_,⟨(EC x).low,(EC x).s4.hi,?_⟩,⟨(EC y).low,(EC y).s4.hi,?_⟩⟩
 .obtain⟨z,hz,hzh⟩:=h2 p t hh;rw[((h1 z hz).2.2 p t hzh).2];exact q1 z hz
 .obtain⟨r1,r2⟩:=(h1 x hx).2.2 _ _ (ZV _ (h1 x hx).1);exact⟨r1,r2.trans q2⟩
 .obtain⟨r1,r2⟩:=(h1 y hy).2.2 _ _ (ZV _ (h1 y hy).1);exact⟨r1,r2.trans q3⟩
open Go
theorem bQ{m:Md}(hm:ET m=AC){t:IV}(ht:t∈m.ts):F5 (EU t) 4=AC:=by
 have h:=JL hm;exact zfw (Ul (CZ.1 h.2.2.2.2 t ht)).2 h.1.2
theorem w9(g:LI->Int)(k:Int)(p:Pt):∀(ts:LI) (s s':Int),(∀t∈ts,g (EU t)<=G1 (EU t) p)->s<=s'->I1 g k ts s<=OU k p ts s'
 |[],_,_,_,h=>h
 |t::r,s,s',hg,h=>by
  rw[I1,OU];have h1:=hg t (AZ ..);refine w9 g k p r _ _ (λu hu=>hg u (A6 _ hu)) ?_;cases(SE t==k)<;>simp only[BN,BC]<;>omega
theorem wZ(g:LI->Int)(k:Int)(p:Pt):∀(ts:LI) (s s':Int),(∀t∈ts,G1 (EU t) p<=g (EU t))->s'<=s->OU k p ts s'<=I1 g k ts s
 |[],_,_,_,h=>h
 |t::r,s,s',hg,h=>by
  rw[I1,OU];have h1:=hg t (AZ ..);refine wZ g k p r _ _ (λu hu=>hg u (A6 _ hu)) ?_;cases(SE t==k)<;>simp only[BN,BC]<;>omega
theorem vT{m:Md}{k:Int}{b:Bx}(h:F9 m k b=AC):ET m=AC/\GR m k=AC/\b.emp=AD:=by
 unfold F9 at h;simp only[AP,CC]at h;exact h
theorem Ey{m:Md}{k:Int}(hm:ET m=AC)(hk:GR m k=AC)(p:Pt):D3 m k p=OU k p m.ts (KU m k):=by
 unfold D3;rw[hm,hk];rfl
theorem zc9{m:Md}{k:Int}{b:Bx}(h:F9 m k b=AC)(hok:b.ok){p:Pt}{t:Int}(hh:b.has p t=AC):EK m k b<=D3 m k p/\D3 m k p<=EE m k b:=by
 obtain⟨hm,hk,hb⟩:=vT h;unfold EK EE;rw[h,DS,DS,Ey hm hk];exact⟨w9 _ k p m.ts _ _ (λt ht=>((YQ (bQ hm ht) hb hok).1 p _ hh).1) (DO _),wZ _ k p m.ts _ _ (λt ht=>((YQ (bQ hm ht) hb hok).1 p _ hh).2) (DO _)⟩
theorem zc8{m:Md}{k:Int}{b:Bx}(h:F9 m k b=AC)(hok:b.ok){p:Pt}{t:Int}(hh:b.has p t=AC)(hc:∀u∈m.ts,∀p' t',b.has p' t'=AC->G1 (EU u) p'=G1 (EU u) p):EK m k b=D3 m k p/\EE m k b=D3 m k p:=by
 obtain⟨hm,hk,hb⟩:=vT h;have h1:=zc9 h hok hh;have h2:D3 m k p<=EK m k b/\EE m k b<=D3 m k p:=by
  unfold EK EE;rw[h,DS,DS,Ey hm hk];refine⟨wZ _ k p m.ts _ _ (λu hu=>?_) (DO _),w9 _ k p m.ts _ _ (λu hu=>?_) (DO _)⟩
  .obtain⟨_,⟨p',t',q1,q2⟩,_⟩:=YQ (bQ hm hu) hb hok;rw[<-hc u hu p' t' q1];exact Int.le_of_eq q2
  .obtain⟨_,_,⟨p',t',q1,q2⟩⟩:=YQ (bQ hm hu) hb hok;rw[<-hc u hu p' t' q1];exact Int.le_of_eq q2.symm
 omega
theorem p7{x:Int}:∀{l:List Int} {p:Int},x∈l->x=p\/x∈KW p l
 |y::r,p,h=>by
  rw[KW];cases hb:(y==p)with
  |true=>
   have hb:=CE.1 hb;rw[DS];rcases AY.1 h with h|h
   .exact .inl (h.trans hb)
   .rcases p7 (p:=y) h with h1|h1
    .exact .inl (h1.trans hb)
    .exact .inr h1
  |false=>
   rw[DT];rcases AY.1 h with h|h
   .exact .inr (h▸AZ ..)
   .rcases p7 (p:=y) h with h1|h1
    .exact .inr (h1▸AZ ..)
    .exact .inr (A6 _ h1)
theorem cw{x:Int}{l:List Int}(h:x∈l):x∈JU l:=by
 cases l with
 |nil=>cases h
 |cons y r=>
  rw[JU];rcases AY.1 h with h|h
  .exact h▸AZ ..
  .rcases p7 (p:=y) h with h1|h1
   .exact h1▸AZ ..
   .exact A6 _ h1
theorem xG{ts:LI}{f a:Int}:a∈J1 ts f↔∃t∈ts,∃w∈EU t,(DV w.toInt).lf=AD/\(DV w.toInt).f=f/\(DV w.toInt).a=a:=by
 have e:a∈J1 ts f↔a∈JH ts f:=by
  unfold J1;exact⟨λh=>(TY _).mem_iff.1 (Dh h),λh=>cw ((TY _).mem_iff.2 h)⟩
 rw[e];unfold JH;simp only[List.mem_flatMap];constructor
 .rintro⟨t,ht,w,hw,h⟩;unfold JR at h;cases hc:(!(DV w.toInt).lf&&(DV w.toInt).f==f)with
  |false=>rw[hc,DT]at h;cases h
  |true=>
   rw[hc,DS]at h;simp only[AP,CC,CE]at hc;exact⟨t,ht,w,hw,hc.1,hc.2,(B7.1 h).symm⟩
 .rintro⟨t,ht,w,hw,h1,h2,h3⟩;refine⟨t,ht,w,hw,?_⟩;unfold JR;rw[h1,h2,DA];exact B7.2 h3.symm
def aF(m:Md)(s:Sp)(f:Int):Prop:=∀a∈J1 m.ts f,¬(s.lo<=a/\a<s.hi)
theorem uh{lo hi a:Int}{l:List Int}:a∈LK lo hi l↔a∈l/\lo<=a/\a<hi:=by
 unfold LK;rw[List.mem_filter];simp only[CC,vaa,B6];constructor
 .rintro⟨h,h1,h2⟩;exact⟨h,by omega,by omega⟩
 .rintro⟨h,h1,h2⟩;exact⟨h,by omega,by omega⟩
theorem S9{m:Md}{q:Qy}{b:Bx}{i:Nat}{a:Int}:a∈E1 m q b i↔0<=IJ q (i:Int)/\a∈J1 m.ts (IJ q (i:Int))/\(b.g i).lo<=a/\a<(b.g i).hi:=by
 unfold E1;cases hd:AE (IJ q (i:Int)<0)with
 |true=>
  have:=BB hd
  rw[DS];constructor
  .intro h;cases h
  .rintro⟨h,_⟩;omega
 |false=>
  have:=BM hd
  rw[DT,uh];constructor
  .intro h;exact⟨by omega,h⟩
  .exact λh=>h.2
theorem Fq{m:Md}{q:Qy}{b:Bx}{i:Nat}(h:E1 m q b i=[])(hf:0<=IJ q (i:Int)):aF m (b.g i) (IJ q (i:Int)):=by
 intro a ha hr
 have:a∈E1 m q b i:=S9.2 ⟨hf,ha,hr⟩
 rw[h]at this;cases this
theorem rB{q:Qy}{i:Nat}(hi:i<4):IJ q (i:Int)=(i:Int):=by
 unfold IJ;rw[AL (show(i:Int)>=0 by omega),AL (show(i:Int)<4 by omega)];rfl
theorem xO{l:LI}{p p':Pt}(h:∀w∈l,FJ w.toInt=AC->(DV w.toInt).lf=AD->(p.g (DV w.toInt).f.toNat<=(DV w.toInt).a↔p'.g (DV w.toInt).f.toNat<=(DV w.toInt).a)):∀(n:Nat) (a:Int),HA l p n a=HA l p' n a
 |0,_=>rfl
 |n+1,a=>by
  rw[HA,HA];cases AE (a>=ic l.length)with
  |true=>rfl
  |false=>
   rw[DT,DT];by_cases hlt:a.toNat<l.length
   .have hw:l.getD a.toNat default∈l:=by rw[gS hlt];exact DC hlt
    generalize l.getD a.toNat default=w at hw ⊢;cases hb:FJ w.toInt with
    |false=>rfl
    |true=>
     rw[A9,DT,DT];cases hl:(DV w.toInt).lf with
     |true=>rfl
     |false=>
      have:=h w hw hb hl
      have ed:AE (p.g (DV w.toInt).f.toNat<=(DV w.toInt).a)=AE (p'.g (DV w.toInt).f.toNat<=(DV w.toInt).a):=by
       rw[vac,AW,AW];exact this
      rw[DT,DT,ed,xO h n _,xO h n _]
   .have e:l.getD a.toNat default=default:=by
     rw[BK,B4 AG];rfl
    rw[e];rfl
theorem mb{m:Md}{b:Bx}(hf:∀f:Nat,f<4->aF m (b.g f) (f:Int)){u:IV}(hu:u∈m.ts){p p':Pt}{t t':Int}(h:b.has p t=AC)(h':b.has p' t'=AC):G1 (EU u) p'=G1 (EU u) p:=by
 unfold G1 gN;rw[xO (p:=p') (p':=p) λw hw hb hl=>?_];obtain⟨⟨f0,f4⟩,_⟩:=VD hb hl;have ef:(DV w.toInt).f=(((DV w.toInt).f.toNat:Nat):Int):=by omega
 have hlt:(DV w.toInt).f.toNat<4:=by omega
 have h1:=P4.1 (RK.1 h _ (show(DV w.toInt).f.toNat<5 by omega));have h2:=P4.1 (RK.1 h' _ (show(DV w.toInt).f.toNat<5 by omega));rw[kY _ _ hlt]at h1 h2;have h3:=hf _ hlt (DV w.toInt).a (xG.2 ⟨u,hu,w,hw,hl,ef,rfl⟩);omega
theorem i9{m:Md}{k:Int}{b:Bx}(h:F9 m k b=AC)(hok:b.ok)(hf:∀f:Nat,f<4->aF m (b.g f) (f:Int)){p:Pt}{t:Int}(hh:b.has p t=AC):EK m k b=D3 m k p/\EE m k b=D3 m k p:=
 zc8 h hok hh λ_ hu _ _ h'=>mb hf hu hh h'
theorem s9{m:Md}{c lo:Int}{b:Bx}:∀(d:Nat) (i a:Int) (z:Bool),(0<NH m c lo b d i a z↔(z=AC\/∃j:Nat,j<d/\i+j≠c)/\(z=AC->0<a)/\∀j:Nat,j<d->i+j≠c->EE m (i+j) b<lo)\/(z=AD/\∀j:Nat,j<d->i+j=c)
 |0,i,a,z=>by
  cases z with
  |false=>exact .inr ⟨rfl,λj hj=>absurd hj (Nat.not_lt_zero j)⟩
  |true=>
   refine .inl ?_;rw[NH];exact⟨λh=>⟨.inl rfl,λ_=>h,λj hj=>absurd hj (Nat.not_lt_zero j)⟩,λh=>h.2.1 rfl⟩
 |d+1,i,a,z=>by
  rw[NH];have sh:∀j:Nat,i+1+(j:Int)=i+((j+1:Nat):Int):=λj=>by omega
  cases hc:(i==c)with
  |true=>
   have hc:=CE.1 hc;rw[DS];rcases s9 (m:=m) (c:=c) (lo:=lo) (b:=b) d (i+1) a z with h|⟨h1,h2⟩
   .refine .inl (h.trans ?_);constructor
    .rintro⟨q1,q2,q3⟩;refine⟨q1.imp_right ?_,q2,λj hj hne=>?_⟩
     .rintro⟨j,hj,hne⟩;exact⟨j+1,by omega,by rw[<-sh j];exact hne⟩
     .cases j with
      |zero=>exact absurd (by simpa using hc) hne
      |succ j=>rw[<-sh j]at hne ⊢;exact q3 j AG hne
    .rintro⟨q1,q2,q3⟩;refine⟨q1.imp_right ?_,q2,λj hj hne=>?_⟩
     .rintro⟨j,hj,hne⟩;cases j with
      |zero=>exact absurd (by simpa using hc) hne
      |succ j=>exact⟨j,by omega,by rw[sh j];exact hne⟩
     .rw[sh j]at hne ⊢;exact q3 (j+1) AG hne
   .refine .inr ⟨h1,λj hj=>?_⟩;cases j with
    |zero=>simpa using hc
    |succ j=>rw[<-sh j];exact h2 j AG
  |false=>
   have hc:i≠c:=λe=>by rw[e,DA]at hc;cases hc
   rw[DT];refine .inl ?_;have key:∀(a':Int),(0<a'↔(z=AC->0<a)/\EE m i b<lo)->(0<NH m c lo b d (i+1) a' AC↔(z=AC\/∃j:Nat,j<d+1/\i+(j:Int)≠c)/\(z=AC->0<a)/\∀j:Nat,j<d+1->i+(j:Int)≠c->EE m (i+j) b<lo):=λa' ha'=>by
    rcases s9 (m:=m) (c:=c) (lo:=lo) (b:=b) d (i+1) a' AC with h|⟨h1,_⟩
    .rw[h];constructor
     .rintro⟨_,q2,q3⟩;obtain⟨r1,r2⟩:=ha'.1 (q2 rfl);refine⟨.inr ⟨0,by omega,by simpa using hc⟩,r1,λj hj hne=>?_⟩;cases j with
      |zero=>simpa using r2
      |succ j=>rw[<-sh j]at hne ⊢;exact q3 j AG hne
     .rintro⟨_,q2,q3⟩;have r2:=q3 0 AG (by simpa using hc);refine⟨.inl rfl,λ_=>ha'.2 ⟨q2,by simpa using r2⟩,λj hj hne=>?_⟩;rw[sh j]at hne ⊢;exact q3 (j+1) AG hne
    .cases h1
   cases z with
   |false=>
    rw[BG,Bool.true_or,DS];exact key _ ⟨λh=>⟨λh=>(by cases h),by omega⟩,λh=>by have:=h.2;omega⟩
   |true=>
    rw[A9,vam];cases hd:AE (lo-EE m i b<a)with
    |true=>
     have hd:=BB hd;rw[DS];exact key _ ⟨λh=>⟨λ_=>by omega,by omega⟩,λh=>by have:=h.2;omega⟩
    |false=>
     have hd:=BM hd;rw[DT];exact key _ ⟨λh=>⟨λ_=>h,by omega⟩,λh=>h.1 rfl⟩
theorem Ix{m:Md}{c:Int}{b:Bx}(h:MW m c b=AC):0<TL m c b↔∀j:Nat,(j:Int)<m.c->(j:Int)≠c->EE m (j:Int) b<EK m c b:=by
 have h0:=h;unfold MW at h0;rw[AP,AW]at h0;obtain⟨hs,h2⟩:=h0;have hc:=Dd (vT hs).2.1;unfold TL;rw[h,DS];rcases s9 (m:=m) (c:=c) (lo:=EK m c b) (b:=b) m.c.toNat 0 0 AD with h1|⟨_,h1⟩
 .rw[h1];simp only[Int.zero_add];constructor
  .rintro⟨_,_,q⟩ j hj hne;exact q j AG hne
  .intro q;refine⟨.inr ?_,λh=>(by cases h),λj hj hne=>q j AG hne⟩;by_cases e:c=0
   .exact⟨1,by omega,by omega⟩
   .exact⟨0,by omega,by omega⟩
 .have q0:=h1 0 AG;have q1:=h1 1 AG;omega
theorem zce(p:Pt)(x t:Int):∀{f i:Nat},f<4->i<5->co (p.p x f) t i=if i=f then x else co p t i
 |0,0,_,_=>rfl
 |0,1,_,_=>rfl
 |0,2,_,_=>rfl
 |0,3,_,_=>rfl
 |0,4,_,_=>rfl
 |1,0,_,_=>rfl
 |1,1,_,_=>rfl
 |1,2,_,_=>rfl
 |1,3,_,_=>rfl
 |1,4,_,_=>rfl
 |2,0,_,_=>rfl
 |2,1,_,_=>rfl
 |2,2,_,_=>rfl
 |2,3,_,_=>rfl
 |2,4,_,_=>rfl
 |3,0,_,_=>rfl
 |3,1,_,_=>rfl
 |3,2,_,_=>rfl
 |3,3,_,_=>rfl
 |3,4,_,_=>rfl
 |f+4,_,h,_=>absurd h AG
 |_,i+5,_,h=>absurd h AG
theorem Dj(p:Pt)(t t':Int):∀{i:Nat},i<4->co p t i=co p t' i
 |0,_=>rfl
 |1,_=>rfl
 |2,_=>rfl
 |3,_=>rfl
 |i+4,h=>absurd h AG
theorem ly{q:Qy}{b:Bx}(hp:F6 q=AC){p:Pt}{t:Int}(h:b.has p t=AC):(JV q b).has p 0=AC:=by
 rw[RK]at h ⊢;intro i hi;unfold JV;rw[hp,DS,LW _ _ AG hi];by_cases e:i=4
 .subst e;rw[B3 rfl];rfl
 .rw[BO e,Dj p 0 t AG];exact h i hi
theorem zdf{q:Qy}{b:Bx}(hp:F6 q=AC){p:Pt}{t:Int}(h:b.has p t=AC):(J0 q b).has (IA q p t) 0=AC:=by
 have hf:q.ft.toNat<4:=by rcases QU hp with e|e|e|e<;>rw[e]<;>decide
 rw[RK]at h ⊢;intro i hi;unfold J0 IA;rw[hp,DS,DS,LW _ _ AG hi];by_cases e:i=4
 .subst e;rw[B3 rfl]
  have:co (p.p t q.ft.toNat) 0 4=0:=rfl
  rw[this];rfl
 .rw[BO e,LW _ _ AG hi,zce p t 0 hf hi];by_cases e2:i=q.ft.toNat
  .rw[B3 e2,B3 e2];exact h 4 AG
  .rw[BO e2,BO e2,Dj p 0 t AG];exact h i hi
theorem lz{q:Qy}{b:Bx}(hb:b.ok):(JV q b).ok:=by
 unfold JV;cases F6 q with
 |true=>exact iS (s:=⟨0,0⟩) (i:=4) hb (show(0:Int)<=2147483647 by omega) AG
 |false=>exact hb
theorem zdg{q:Qy}{b:Bx}(hb:b.ok):(J0 q b).ok:=by
 unfold J0;cases hp:F6 q with
 |true=>
  have hf:q.ft.toNat<5:=by rcases QU hp with e|e|e|e<;>rw[e]<;>decide
  exact iS (s:=⟨0,0⟩) (i:=4) (iS hb (hb 4 AG) hf) (show(0:Int)<=2147483647 by omega) AG
 |false=>exact hb
theorem pY{m:Md}{k:Int}(h0:0<=k)(h1:k<m.c):GR m k=AC:=by
 unfold GR;rw[AL h0,AL h1];rfl
theorem YO{m:Md}{k:Int}{b:Bx}(hm:ET m=AC)(hk:GR m k=AC)(hb:b.emp=AD):F9 m k b=AC:=by
 unfold F9;rw[hm,hk,hb];rfl
theorem nG{m:Md}{q:Qy}(hm:ET m=AC)(hk:q.k=3)(hf:0<=q.ft/\q.ft<m.d):F6 q=AC:=by
 have:=(JL hm).1
 unfold F6;rw[hk,AL (show q.ft>=0 by omega),AL (show q.ft<4 by omega)];rfl
theorem zbJ{m:Md}{q:Qy}{p:Pt}{own:Int}:iQ m q p own=AC↔∃j:Nat,(j:Int)<m.c/\(j:Int)≠q.c/\D3 m (j:Int) p>=own:=by
 unfold iQ;rw[List.any_eq_true];constructor
 .rintro⟨c,hc,h⟩;simp only[AP,CC,BI,AW]at h;exact⟨c,by have:=vaF.1 hc;omega,h.1,h.2⟩
 .rintro⟨j,h1,h2,h3⟩;refine⟨j,vaF.2 AG,?_⟩;simp only[AP,CC,BI,AW];exact⟨h2,h3⟩
theorem cf{m:Md}{q:Qy}{b:Bx}(hr:E8 m q=AC)(hb:b.emp=AD)(hok:b.ok)(hn:∀i,i<5->E1 m q b i=[]):GB m q b=AC\/HK m q b.low b.s4.hi=AC:=by
 obtain⟨hm,⟨c0,c1⟩,_,_,hk⟩:=O6 hr;have hcl:=pY c0 c1;have hs:=YO hm hcl hb;have hh:=ZV b hb;have hfl:∀f:Nat,f<4->aF m (b.g f) (f:Int):=λf hf=>by
  have:=Fq (hn f AG) (by rw[rB hf];omega)
  rwa [rB hf]at this
 unfold GB HK;rw[hr,hb,BE,BE,DT];rcases aM hk with⟨e,_⟩|⟨e,h2,_⟩|⟨e,hf,_⟩
 .rw[e];obtain⟨q1,q2⟩:=i9 hs hok hfl hh;show(F9 m q.c b&&(AE (q.lo<=EK m q.c b)&&AE (EE m q.c b<=q.hi)))=AC\/(!(Sp.has ⟨q.lo,q.hi⟩ (D3 m q.c b.low)))=AC;rw[hs,q1,q2,BE];unfold Sp.has;cases(AE (q.lo<=D3 m q.c b.low)&&AE (D3 m q.c b.low<=q.hi))with
  |true=>exact .inl rfl
  |false=>exact .inr rfl
 .rw[e];show(MW m q.c b&&AE (TL m q.c b>0))=AC\/iQ m q b.low (D3 m q.c b.low)=AC;have hg:MW m q.c b=AC:=by unfold MW;rw[hs,AL (show m.c>=2 from h2)];rfl
  rw[hg,BE];cases ho:iQ m q b.low (D3 m q.c b.low)with
  |true=>exact .inr rfl
  |false=>
   refine .inl (AL ((Ix hg).2 λj hj hne=>?_));have q1:=(i9 hs hok hfl hh).1;have q2:=(i9 (YO hm (pY (k:=(j:Int)) AG hj) hb) hok hfl hh).2;have q3:¬D3 m (j:Int) b.low>=D3 m q.c b.low:=λh=>by
    rw[zbJ.2 ⟨j,hj,hne,h⟩]at ho;cases ho
   omega
 .rw[e];have hp:=nG hm e hf;have hf5:q.ft.toNat<4:=by rcases QU hp with e|e|e|e<;>rw[e]<;>decide
  have ef:q.ft=((q.ft.toNat:Nat):Int):=by omega
  show cond (!(P1 q b)) AC (cond q.fl (KV m q b&&AE (RM m q b<=0)) (KV m q b&&AE (RN m q b>=0)))=AC\/cond (AE (b.low.g q.ft.toNat>=b.s4.hi)) AD (cond q.fl (AE (D3 m q.c (IA q b.low b.s4.hi)>D3 m q.c b.low)) (AE (D3 m q.c (IA q b.low b.s4.hi)<D3 m q.c b.low)))=AC;cases ho:P1 q b with
  |false=>exact .inl rfl
  |true=>
   have hlt:b.low.g q.ft.toNat<b.s4.hi:=by
    unfold P1 at ho;simp only[AP,AW]at ho;have h1:=ho.2.2
    have:b.low.g q.ft.toNat=(b.g q.ft.toNat).lo:=by
     match q.ft.toNat,hf5 with
     |0,_=>rfl
     |1,_=>rfl
     |2,_=>rfl
     |3,_=>rfl
     |n+4,h=>exact absurd h AG
    omega
   have f1:=ly (b:=b) hp hh;have f2:=zdf (b:=b) hp hh;have k1:=YO hm hcl (kR f1);have k2:=YO hm hcl (kR f2);have fl1:∀f:Nat,f<4->aF m ((JV q b).g f) (f:Int):=λf hf=>by
    unfold JV;rw[hp,DS,LW _ _ AG AG,BO AG];exact hfl f hf
   have fl2:∀f:Nat,f<4->aF m ((J0 q b).g f) (f:Int):=λf hf=>by
    unfold J0;rw[hp,DS,LW _ _ AG AG,BO AG,LW _ _ AG AG];by_cases e2:f=q.ft.toNat
    .rw[B3 e2];have e4:IJ q ((4:Nat):Int)=q.ft:=by unfold IJ;rw[e];rfl
     have:=Fq (hn 4 AG) (by rw[e4];omega)
     rw[e4,ef,<-e2]at this;exact this
    .rw[BO e2];exact hfl f hf
   obtain⟨q1,q2⟩:=i9 k1 (lz hok) fl1 f1;obtain⟨q3,q4⟩:=i9 k2 (zdg hok) fl2 f2;have hch:KV m q b=AC:=by unfold KV;rw[hp,k1,k2];rfl
   rw[A9,DT,hch,BE,BE,AS (show¬b.low.g q.ft.toNat>=b.s4.hi by omega),DT];unfold RM RN;rw[hch,DS,DS,q1,q2,q3,q4];cases q.fl with
   |true=>
    rw[DS,DS];by_cases hd:D3 m q.c (IA q b.low b.s4.hi)>D3 m q.c b.low
    .exact .inr (AL hd)
    .exact .inl (AL AG)
   |false=>
    rw[DT,DT];by_cases hd:D3 m q.c (IA q b.low b.s4.hi)<D3 m q.c b.low
    .exact .inr (AL hd)
    .exact .inl (AL AG)
theorem Qw{m:Md}{q:Qy}{b:Bx}:∀(d i:Nat),(KG m q b d i).isSome=AD->∀j,i<=j->j<i+d->E1 m q b j=[]
 |0,i,_,j,h1,h2=>by omega
 |d+1,i,h,j,h1,h2=>by
  rw[KG]at h;cases hc:AE ((E1 m q b i).length>0)with
  |true=>rw[hc,DS]at h;cases h
  |false=>
   rw[hc,DT]at h;have hc:=BM hc;by_cases e:j=i
   .subst e;exact List.length_eq_zero_iff.1 AG
   .exact Qw d (i+1) h j AG AG
theorem zeV{m:Md}{q:Qy}{b:Bx}(h:(EQ m q b).isSome=AD):∀i,i<5->E1 m q b i=[]:=λi hi=>Qw 5 0 h i (CG _) AG
theorem Qx{m:Md}{q:Qy}{b:Bx}:∀(d i:Nat),(KG m q b d i).isSome=AC->∃j:Nat,i<=j/\j<i+d/\HX (KG m q b d i)=(j:Int)/\0<(E1 m q b j).length/\HD (KG m q b d i)=(E1 m q b j).getD (((E1 m q b j).length-1)/2) 0/\∀k,i<=k->k<j->E1 m q b k=[]
 |0,i,h=>by rw[KG]at h;cases h
 |d+1,i,h=>by
  rw[KG]at h ⊢;cases hc:AE ((E1 m q b i).length>0)with
  |true=>exact⟨i,A5 _,by omega,rfl,BB hc,rfl,λk h1 h2=>absurd h1 AG⟩
  |false=>
   rw[hc,DT]at h;rw[DT];have hc:=BM hc;obtain⟨j,h1,h2,h3,h4,h5,h6⟩:=Qx d (i+1) h;refine⟨j,by omega,by omega,h3,h4,h5,λk hk1 hk2=>?_⟩;by_cases e:k=i
   .subst e;exact List.length_eq_zero_iff.1 AG
   .exact h6 k AG hk2
theorem nZ{m:Md}{q:Qy}{b:Bx}(h:(EQ m q b).isSome=AC):∃j:Nat,j<5/\HX (EQ m q b)=(j:Int)/\0<(E1 m q b j).length/\HD (EQ m q b)=(E1 m q b j).getD (((E1 m q b j).length-1)/2) 0/\HD (EQ m q b)∈E1 m q b j:=by
 obtain⟨j,_,h2,h3,h4,h5,_⟩:=Qx 5 0 h;refine⟨j,by omega,h3,h4,h5,?_⟩;have hlt:((E1 m q b j).length-1)/2<(E1 m q b j).length:=by omega
 have:HD (EQ m q b)=(E1 m q b j)[((E1 m q b j).length-1)/2]:=by
  refine Eq.trans h5 ?_;simp[hlt]
 rw[this];exact DC hlt
open Go
abbrev ue:List Kd:=[.z,.list AD [.z],.list AD [.z],.list AD [.z],.list AD [.z]]
structure Ft where
 d:Int
 c:Int
 bias:LI
 ts:LI
def Ft.cs(f:Ft):List FM.V:=[.i f.d,.i f.c,.list AD [.z] f.bias,.list AC ue f.ts]
def Ft.V(f:Ft):FM.V:=.agg f.cs
def Ft.M(f:Ft):Md:=mW f.d f.c f.bias f.ts
def ftOf?:List FM.V->Option Ft
 |[.i d,.i c,.list AD [.z] b,.list AC [.z,.list AD [.z],.list AD [.z],.list AD [.z],.list AD [.z]] t]=>AA ⟨d,c,b,t⟩
 |_=>AB
def akOf?:List FM.V->Option Ak
 |[.i k,.i c,.i lo,.i size,.i ft,.i bu,.bool fl,.list AD [.z] sp]=>AA ⟨k,c,lo,size,ft,bu,fl,sp⟩
 |_=>AB
abbrev xZ(v:FM.V)(k:Ft->R):R:=SH ftOf? v k
abbrev Vp(v:FM.V)(k:Ak->R):R:=SH akOf? v k
theorem Vq{v:FM.V}{k:Ft->R}{z:FM.V×List (List FM.V)}(h:(xZ v k).get=AA z):∃x:Ft,v=x.V/\(k x).get=AA z:=by
 obtain⟨l,x,rfl,hx,h⟩:=VZ h;unfold ftOf? at hx;split at hx
 .simp only[AK]at hx;subst hx;exact⟨_,rfl,h⟩
 .cases hx
theorem zfQ{v:FM.V}{k:Ak->R}{z:FM.V×List (List FM.V)}(h:(Vp v k).get=AA z):∃x:Ak,v=x.V/\(k x).get=AA z:=by
 obtain⟨l,x,rfl,hx,h⟩:=VZ h;unfold akOf? at hx;split at hx
 .simp only[AK]at hx;subst hx;exact⟨_,rfl,h⟩
 .cases hx
def JC(a:Ak)(m:Md):Qy:=JZ a m.d m.c
def P0(m:Md):Bool:=(AE (1<=m.d)&&AE (m.d<=4))&&(AE (1<=m.c)&&AE (m.c<=3))
def fO:D5
 |[f]=>xZ f λf=>.ok f.M.V []
 |_=>.no
def fN:D5
 |[a,m]=>Vp a λa=>ID m λm=>.br (P0 m) (.ok (JC a m).V []) .no
 |_=>.no
def Qy.bud(q:Qy)(b:Int):Qy:=⟨q.k,q.c,q.a0,q.b0,q.a1,q.b1,q.a2,q.b2,q.a3,q.b3,q.a4,q.b4,q.lo,q.hi,q.ft,q.fl,b⟩
theorem Zg{vs:List FM.V}{z:FM.V×List (List FM.V)}(h:(fO vs).get=AA z):(j9 vs).get=AA z:=by
 unfold fO at h;split at h
 .replace h:=Vq h;obtain⟨f,rfl,h⟩:=h;exact h
 .simp[R.get]at h
theorem Zh{vs:List FM.V}{z:FM.V×List (List FM.V)}(h:(fN vs).get=AA z):(j8 vs).get=AA z:=by
 unfold fN at h;split at h
 .replace h:=zfQ h;obtain⟨a,rfl,h⟩:=h;replace h:=IH h;obtain⟨m,rfl,h⟩:=h;exact h
 .simp[R.get]at h
open Go
def Bx.good(b:Bx):Prop:=∀i,i<5-> -2147483648<=(b.g i).lo/\(b.g i).lo<=(b.g i).hi/\(b.g i).hi<=2147483647
theorem Bx.good.emp{b:Bx}(h:b.good):b.emp=AD:=kP.2 λi hi=>(h i hi).2.1
theorem Bx.good.ok{b:Bx}(h:b.good):b.ok:=λi hi=>(h i hi).2.2
def Sp.good(s:Sp):Prop:= -2147483648<=s.lo/\s.lo<=s.hi/\s.hi<=2147483647
theorem VI{b:Bx}(hb:b.good){s:Sp}(hs:s.good){i:Nat}(hi:i<5):(b.p s i).good:=by
 intro j hj;rw[LW b s hi hj];by_cases h:j=i
 .rw[B3 h];exact hs
 .rw[BO h];exact hb j hj
theorem Qs{lo hi:Int}(h0: -2147483648<=lo)(h1:lo<=hi)(h2:hi<=2147483647):(LT lo hi).good:=by
 unfold LT;rw[AS AG,DT];exact⟨h0,h1,h2⟩
theorem Dq{b:Bx}(hb:b.good){i:Nat}(hi:i<5){a:Int}(h1:(b.g i).lo<=a)(h2:a<(b.g i).hi):(b.cutL (i:Int) a).good:=by
 unfold Bx.cutL;rw[BH];have h:=hb i hi;refine VI hb (Qs h.1 ?_ ?_) hi<;>omega
theorem Dm{b:Bx}(hb:b.good){i:Nat}(hi:i<5){a:Int}(h1:(b.g i).lo<=a)(h2:a<(b.g i).hi):(b.cutH (i:Int) a).good:=by
 unfold Bx.cutH;rw[BH];have h:=hb i hi;have e:D6 (a+1)=a+1:=ER AG AG;refine VI hb ?_ hi;unfold Sp.cutH;rw[AS AG,DT,e];exact Qs AG AG h.2.2
theorem jI{d i:Int}{s:Sp}(h:IB d i s=AC):s.good:=by
 unfold IB at h;simp only[AP,CC,EV,Sp.emp,AW,B6]at h;obtain⟨_,h1,h2,h3⟩:=h;exact⟨h2.1,by omega,h3.2⟩
theorem TU{m:Md}{q:Qy}(h:E8 m q=AC):ET m=AC/\(0<=q.c/\q.c<m.c)/\(0<=q.bu/\q.bu<=65536)/\QW q.bx m.d=AC/\MR m q=AC:=by
 unfold E8 at h;simp only[AP,AW]at h;exact⟨h.1,⟨h.2.1,h.2.2.1⟩,⟨h.2.2.2.1,h.2.2.2.2.1⟩,h.2.2.2.2.2.1,h.2.2.2.2.2.2⟩
theorem zcB{b:Bx}{d:Int}(h:QW b d=AC):b.good:=by
 unfold QW at h;simp only[AP]at h;intro i hi
 match i,hi with
 |0,_=>exact jI h.1
 |1,_=>exact jI h.2.1
 |2,_=>exact jI h.2.2.1
 |3,_=>exact jI h.2.2.2.1
 |4,_=>exact jI h.2.2.2.2
 |n+5,hi=>omega
theorem wW{m:Md}{q:Qy}(h:E8 m q=AC):(GG q).good:=by
 have hb:=zcB (TU h).2.2.2.1;unfold GG;refine VI hb ?_ AG;cases hp:F6 q with
 |false=>rw[DT];exact⟨by decide,by decide,by decide⟩
 |true=>
  rw[DS];unfold F6 at hp;simp only[AP,AW]at hp;exact hb q.ft.toNat AG
def aP(s:Sr):Prop:=∀x∈s.left,(EC x).good
theorem oI{s:Sr}(h:aP s)(hl:0<s.left.length):(EA s.left).good:=by
 unfold EA;refine h _ ?_;rw[BK,BF AG];exact DC _
theorem wc{m:Md}{q:Qy}(h:E8 m q=AC):aP ⟨[(GG q).I],[],Vd.none,0⟩:=by
 intro x hx;obtain rfl:=B7.1 hx;rw[JI];exact wW h
theorem Tq{m:Md}{q:Qy}{s:Sr}(hr:E8 m q=AC)(hg:aP s)(hl:0<s.left.length)(h1:GB m q (EA s.left)=AD)(h2:HK m q (EA s.left).low (EA s.left).s4.hi=AD):
  (EQ m q (EA s.left)).isSome=AC:=by
 have ht:=oI hg hl;cases hs:(EQ m q (EA s.left)).isSome with
 |true=>rfl
 |false=>
  rcases cf hr ht.emp ht.ok (zeV hs)with h|h
  .rw[h1]at h;cases h
  .rw[h2]at h;cases h
theorem a7{l:LI}{x:IV}(h:x∈FR l):x∈l:=vav h
theorem ze7{m:Md}{q:Qy}{s:Sr}(hg:aP s)(hl:0<s.left.length):aP (FF m q s):=by
 have hp:∀x∈FR s.left,(EC x).good:=λx hx=>hg x (a7 hx)
 unfold FF;cases GB m q (EA s.left)with
 |true=>exact hp
 |false=>
  cases HK m q (EA s.left).low (EA s.left).s4.hi with
  |true=>exact hp
  |false=>
   cases hs:(EQ m q (EA s.left)).isSome with
   |false=>exact hp
   |true=>
    obtain⟨j,hj,ei,_,_,hm⟩:=nZ hs;have hc:=S9.1 hm;have ht:=oI hg hl;intro x hx;rw[DT,DT,DS]at hx;rcases A4.1 hx with hx|hx
    .exact hp x hx
    .rw[ei]at hx;rcases AY.1 hx with rfl|hx
     .rw[JI];exact Dm ht hj hc.2.2.1 hc.2.2.2
     .obtain rfl:=B7.1 hx;rw[JI];exact Dq ht hj hc.2.2.1 hc.2.2.2
theorem T6(n lo hi:Int)(h:lo<=hi)(h0: -2000000000000000000<=lo)(h1:hi<=2000000000000000000):lo<=D2 n lo hi/\D2 n lo hi<=hi:=
 (HZ (n:=n) (lo:=lo) (hi:=hi) AG AG AG).2
theorem yM(f:Ft):ET f.M=AC:=vx _ _ _ _
theorem yL(f:Ft):P0 f.M=AC:=by
 have hd:1<=f.M.d/\f.M.d<=3:=Z8 f.d;have hc:1<=f.M.c/\f.M.c<=3:=gF f.c;unfold P0;rw[AL hd.1,AL (show f.M.d<=4 by omega),AL hc.1,AL hc.2];rfl
theorem nK(d:Int)(l:LI)(i:Nat):IB d (i:Int) ⟨F7 d l (i:Int),F8 d l (i:Int)⟩=AC:=by
 have h1:=T6 (E0 l (2*(i:Int))) (-2) 9 AG AG AG;have h2:=T6 (E0 l (2*(i:Int)+1)) 0 11 AG AG AG;unfold IB Sp.emp F7 F8 EV;by_cases h:(i:Int)<d
 .rw[AL h,DS,DS,AS (show¬(i:Int)>=d by omega)];simp only[BP,BG,BE,AP,CC,AW,B6];omega
 .rw[AS h,DT,DT];simp
theorem ui(a:Ak)(c:Int):FU a c=1\/(FU a c=2/\2<=c)\/FU a c=3:=by
 have h:=T6 a.k 1 3 AG AG AG;unfold FU;cases h2:(D2 a.k 1 3==2)with
 |true=>
  have h2':D2 a.k 1 3=2:=by simpa using h2
  by_cases hc:c<2
  .rw[AL hc];exact .inl rfl
  .rw[AS hc];exact .inr (.inl ⟨h2',by omega⟩)
 |false=>
  have h2':D2 a.k 1 3≠2:=by simpa using h2
  rw[BP,DT];omega
theorem ae(f:Ft)(a:Ak){w:Int}(h0:0<=w)(h1:w<=65536):E8 f.M ((JC a f.M).bud w)=AC:=by
 have hd:1<=f.M.d/\f.M.d<=3:=Z8 f.d;have hc:1<=f.M.c/\f.M.c<=3:=gF f.c;have hm:=yM f;generalize f.M=m at hd hc hm ⊢;have hcl:=T6 a.c 0 (m.c-1) AG AG AG;have hlo:=T6 a.size 0 18000 AG AG AG;have hft:=T6 a.ft 0 (m.d-1) AG AG AG;have hreg:QW ((JC a m).bud w).bx m.d=AC:=by
  unfold QW;simp only[AP];refine⟨nK m.d a.sp 0,nK m.d a.sp 1,nK m.d a.sp 2,nK m.d a.sp 3,?_⟩;show IB m.d 4 ⟨0,0⟩=AC;unfold IB;simp[Sp.emp,EV]
 have hkind:MR m ((JC a m).bud w)=AC:=by
  unfold MR;show cond (FU a m.c==1) (AE (cond (FU a m.c==1) (KZ a) 0<=cond (FU a m.c==1) (KZ a+D2 a.size 0 18000) 0)&&((cond (FU a m.c==3) (D2 a.ft 0 (m.d-1)) 0==0)&&!(cond (FU a m.c==3) a.fl AD)))
   (cond (FU a m.c==2) (AE (m.c>=2)&&((cond (FU a m.c==1) (KZ a) 0==0)&&((cond (FU a m.c==1) (KZ a+D2 a.size 0 18000) 0==0)&&((cond (FU a m.c==3) (D2 a.ft 0 (m.d-1)) 0==0)&&!(cond (FU a m.c==3) a.fl AD)))))
    (cond (FU a m.c==3) (AE (cond (FU a m.c==3) (D2 a.ft 0 (m.d-1)) 0>=0)&&(AE (cond (FU a m.c==3) (D2 a.ft 0 (m.d-1)) 0<m.d)&&((cond (FU a m.c==1) (KZ a) 0==0)&&(cond (FU a m.c==1) (KZ a+D2 a.size 0 18000) 0==0)))) AD))=AC
  rcases ui a m.c with h|⟨h,h2⟩|h
  .rw[h];show(AE (KZ a<=KZ a+D2 a.size 0 18000)&&AC)=AC;rw[AL AG];rfl
  .rw[h];show(AE (m.c>=2)&&AC)=AC;rw[AL h2];rfl
  .rw[h];show(AE (D2 a.ft 0 (m.d-1)>=0)&&(AE (D2 a.ft 0 (m.d-1)<m.d)&&AC))=AC;rw[AL hft.1,AL AG];rfl
 unfold E8;rw[hm,hreg,hkind,AL (show((JC a m).bud w).c>=0 from hcl.1),AL (show((JC a m).bud w).c<m.c by show D2 a.c 0 (m.c-1)<m.c;omega),AL (show((JC a m).bud w).bu>=0 from h0),AL (show((JC a m).bud w).bu<=65536 from h1)];rfl
open Go
abbrev mA:List Kd:=[.z,.z,.z,.z,.z,.z,.z,.z,.z,.z,.z]
def Q6(a:Int)(b:Bx):IV:=.agg [.int a,.int b.s0.lo,.int b.s0.hi,.int b.s1.lo,.int b.s1.hi,.int b.s2.lo,.int b.s2.hi,.int b.s3.lo,.int b.s3.hi,.int b.s4.lo,.int b.s4.hi]
abbrev IS(x:IV):Int:=cI x 0
def KJ(x:IV):Bx:=⟨⟨cI x 1,cI x 2⟩,⟨cI x 3,cI x 4⟩,⟨cI x 5,cI x 6⟩,⟨cI x 7,cI x 8⟩,⟨cI x 9,cI x 10⟩⟩
theorem YV(a:Int)(b:Bx):IS (Q6 a b)=a:=rfl
theorem T3(a:Int)(b:Bx):KJ (Q6 a b)=b:=rfl
structure En where
 todo:LI
 lo:Int
 hi:Int
 any:Bool
def FI(l:LI):IV:=l.getD (l.length-1) default
def FH(l:LI)(e:En):Nd:=DV (l.getD (IS (FI e.todo)).toNat default).toInt
def gM(l:LI)(e:En):En:=
 cond (!(FJ (l.getD (IS (FI e.todo)).toNat default).toInt)||(KJ (FI e.todo)).emp) ⟨FR e.todo,e.lo,e.hi,e.any⟩
  (cond (!(FH l e).lf)
   ⟨FR e.todo++[Q6 (FH l e).l ((KJ (FI e.todo)).cutL (FH l e).f (FH l e).a),Q6 (FH l e).r ((KJ (FI e.todo)).cutH (FH l e).f (FH l e).a)],e.lo,e.hi,e.any⟩
   ⟨FR e.todo,min (cond e.any e.lo (FH l e).v) (FH l e).v,max (cond e.any e.hi (FH l e).v) (FH l e).v,AC⟩)
def qN(b:Bx):En:=⟨[Q6 0 b],0,0,AD⟩
structure EnI (l:LI) (b:Bx) (e:En):Prop where
 at_:∀(j:Nat) (x:IV),e.todo[j]?=AA x->(j:Int)<=IS x/\IS x<ic l.length
 ok:∀x∈e.todo,(KJ x).ok
 val:∀x∈e.todo,∀p t,(KJ x).has p t=AC->b.has p t=AC/\G1 l p=Q5 l p (IS x).toNat
 all:∀p t,b.has p t=AC->(∃x∈e.todo,(KJ x).has p t=AC)\/(e.any=AC/\e.lo<=G1 l p/\G1 l p<=e.hi)
 lo:e.any=AC->∃p t,b.has p t=AC/\G1 l p=e.lo
 hi:e.any=AC->∃p t,b.has p t=AC/\G1 l p=e.hi
theorem iV{l:LI}{j:Nat}{x:IV}(h:(FR l)[j]?=AA x):l[j]?=AA x:=by
 unfold FR at h;rw[C2]at h;split at h
 .exact h
 .cases h
theorem wQ{l:LI}{x:IV}(hl:0<l.length)(h:x∈l):x∈FR l\/x=FI l:=by
 obtain⟨j,hj⟩:=List.getElem?_of_mem h;have hjl:=(B2.1 hj).1;by_cases hc:j<l.length-1
 .refine .inl (vab (i:=j) ?_);unfold FR;rw[C2,B3 hc];exact hj
 .have:j=l.length-1:=by omega
  subst this;refine .inr ?_;unfold FI;rw[BK,hj];rfl
theorem VU{l:LI}(hl:0<l.length):FI l∈l/\l[l.length-1]?=AA (FI l):=by
 unfold FI;rw[BK,BF AG];exact⟨DC _,rfl⟩
theorem VJ(l:LI):(FR l).length=l.length-1:=by
 unfold FR;rw[BJ];omega
theorem fy{l:LI}(ht:TreeOK l){b:Bx}{e:En}(h:EnI l b e)(hl:0<e.todo.length):EnI l b (gM l e):=by
 obtain⟨hm,hg⟩:=VU hl;have ha:=h.at_ _ _ hg;have h31:=ht.len.2;have hpm:∀x∈FR e.todo,x∈e.todo:=λx hx=>a7 hx
 have e0:((IS (FI e.todo)).toNat:Int)=IS (FI e.todo):=by omega
 have hlt:(IS (FI e.todo)).toNat<l.length:=by have:=ha.2;simp only[ic]at this;omega
 have hn:=ht.node _ hlt;have hv:=h.val _ hm;have hok:=h.ok _ hm;unfold gM;rw[hn,A9,vam];cases he:(KJ (FI e.todo)).emp with
 |true=>
  rw[DS];refine⟨λj x hj=>h.at_ j x (iV hj),λx hx=>h.ok x (hpm x hx),λx hx=>h.val x (hpm x hx),λp t hh=>?_,h.lo,h.hi⟩;rcases h.all p t hh with⟨x,hx,hxh⟩|hr
  .rcases wQ hl hx with hx|rfl
   .exact .inl ⟨x,hx,hxh⟩
   .have:=kR hxh
    rw[he]at this;cases this
  .exact .inr hr
 |false=>
  rw[DT];cases hlf:(FH l e).lf with
  |true=>
   rw[A9,DT];have hvl:∀p t,(KJ (FI e.todo)).has p t=AC->b.has p t=AC/\G1 l p=(FH l e).v:=λp t hh=>by
    obtain⟨h1,h2⟩:=hv p t hh;exact⟨h1,h2.trans (Vg ht p hlt hlf)⟩
   have hlow:=hvl _ _ (ZV _ he);refine⟨λj x hj=>h.at_ j x (iV hj),λx hx=>h.ok x (hpm x hx),λx hx=>h.val x (hpm x hx),λp t hh=>?_,λ_=>?_,λ_=>?_⟩
   .rcases h.all p t hh with⟨x,hx,hxh⟩|⟨h1,h2,h3⟩
    .rcases wQ hl hx with hx|rfl
     .exact .inl ⟨x,hx,hxh⟩
     .refine .inr ⟨rfl,?_,?_⟩
      .rw[(hvl p t hxh).2];show min _ _<=_;omega
      .rw[(hvl p t hxh).2];show _<=max _ _;omega
    .refine .inr ⟨rfl,?_,?_⟩
     .show min (cond e.any e.lo _) _<=_;rw[h1,DS];omega
     .show _<=max (cond e.any e.hi _) _;rw[h1,DS];omega
   .show∃p t,b.has p t=AC/\G1 l p=min (cond e.any e.lo (FH l e).v) (FH l e).v;cases hany:e.any with
    |false=>exact⟨_,_,hlow.1,by rw[hlow.2,DT];omega⟩
    |true=>
     rw[DS];by_cases hc:e.lo<=(FH l e).v
     .obtain⟨p,t,h1,h2⟩:=h.lo hany;exact⟨p,t,h1,by omega⟩
     .exact⟨_,_,hlow.1,by rw[hlow.2];omega⟩
   .show∃p t,b.has p t=AC/\G1 l p=max (cond e.any e.hi (FH l e).v) (FH l e).v;cases hany:e.any with
    |false=>exact⟨_,_,hlow.1,by rw[hlow.2,DT];omega⟩
    |true=>
     rw[DS];by_cases hc:(FH l e).v<=e.hi
     .obtain⟨p,t,h1,h2⟩:=h.hi hany;exact⟨p,t,h1,by omega⟩
     .exact⟨_,_,hlow.1,by rw[hlow.2];omega⟩
  |false=>
   rw[BG,DS];obtain⟨⟨f0,f4⟩,fa,⟨l1,l2⟩,⟨r1,r2⟩,_⟩:=ht.fork _ hlt hlf;replace f0:0<=(FH l e).f:=f0;replace f4:(FH l e).f<4:=f4;replace l1:((IS (FI e.todo)).toNat:Int)<(FH l e).l:=l1;replace l2:(FH l e).l<ic l.length:=l2;replace r1:((IS (FI e.todo)).toNat:Int)<(FH l e).r:=r1;replace r2:(FH l e).r<ic l.length:=r2;have ef:(FH l e).f=(((FH l e).f.toNat:Nat):Int):=by omega
   have hfl:(FH l e).f.toNat<5:=by omega
   have fa': -2147483648<=(FH l e).a:=by
    have:EV (FH l e).a=AC:=fa
    unfold EV at this;simp only[AP,AW]at this;exact this.1
   have vf:∀p:Pt,Q5 l p (IS (FI e.todo)).toNat=Q5 l p (cond (AE (p.g (FH l e).f.toNat<=(FH l e).a)) (FH l e).l.toNat (FH l e).r.toNat):=λp=>Vf ht p hlt hlf
   have hL:∀p t,((KJ (FI e.todo)).cutL (FH l e).f (FH l e).a).has p t=AC↔(KJ (FI e.todo)).has p t=AC/\co p t (FH l e).f.toNat<=(FH l e).a:=λp t=>by
    have:=qB (b:=KJ (FI e.todo)) hfl (a:=(FH l e).a) (p:=p) (t:=t)
    rwa [<-ef]at this
   have hH:∀p t,((KJ (FI e.todo)).cutH (FH l e).f (FH l e).a).has p t=AC↔(KJ (FI e.todo)).has p t=AC/\(FH l e).a<co p t (FH l e).f.toNat:=λp t=>by
    have:=p9 hok hfl fa' (p:=p) (t:=t)
    rwa [<-ef]at this
   have okL:((KJ (FI e.todo)).cutL (FH l e).f (FH l e).a).ok:=by
    have:=Dr hok hfl (FH l e).a
    rwa [<-ef]at this
   have okH:((KJ (FI e.todo)).cutH (FH l e).f (FH l e).a).ok:=by
    have:=Dp hok hfl (FH l e).a
    rwa [<-ef]at this
   have hco:∀p t,co p t (FH l e).f.toNat=p.g (FH l e).f.toNat:=λp t=>kY p t AG
   refine⟨λj x hj=>?_,λx hx=>?_,λx hx=>?_,λp t hh=>?_,h.lo,h.hi⟩
   .rw[vai,VJ]at hj;split at hj
    .exact h.at_ j x (iV hj)
    .rename_i hc;have h1:=ha.1;rcases DN (j-(e.todo.length-1)) 1 with h0|h0
     .have:j-(e.todo.length-1)=0:=by omega
      rw[this]at hj;simp only[CB,AK]at hj;subst hj;rw[YV];omega
     .rcases DN (j-(e.todo.length-1)) 2 with h2|h2
      .have:j-(e.todo.length-1)=1:=by omega
       rw[this]at hj;simp only[C5,CB,AK]at hj;subst hj;rw[YV];omega
      .rw[B4 (by simpa using h2)]at hj;cases hj
   .rcases A4.1 hx with hx|hx
    .exact h.ok x (hpm x hx)
    .rcases AY.1 hx with rfl|hx
     .rw[T3];exact okL
     .obtain rfl:=B7.1 hx;rw[T3];exact okH
   .rcases A4.1 hx with hx|hx
    .exact h.val x (hpm x hx)
    .rcases AY.1 hx with rfl|hx
     .intro p t hh;rw[T3]at hh;obtain⟨h1,h2⟩:=(hL p t).1 hh;obtain⟨h3,h4⟩:=hv p t h1;rw[hco]at h2;rw[YV];exact⟨h3,by rw[h4,vf,AL h2,DS]⟩
     .obtain rfl:=B7.1 hx;intro p t hh;rw[T3]at hh;obtain⟨h1,h2⟩:=(hH p t).1 hh;obtain⟨h3,h4⟩:=hv p t h1;rw[hco]at h2;rw[YV];exact⟨h3,by rw[h4,vf,AS AG,DT]⟩
   .rcases h.all p t hh with⟨x,hx,hxh⟩|hr
    .rcases wQ hl hx with hx|rfl
     .exact .inl ⟨x,A4.2 (.inl hx),hxh⟩
     .by_cases hc:co p t (FH l e).f.toNat<=(FH l e).a
      .exact .inl ⟨_,A4.2 (.inr (AZ ..)),by rw[T3];exact(hL p t).2 ⟨hxh,hc⟩⟩
      .exact .inl ⟨_,A4.2 (.inr (A6 _ (AZ ..))),by rw[T3];exact(hH p t).2 ⟨hxh,by omega⟩⟩
    .exact .inr hr
theorem fx{l:LI}(ht:TreeOK l){b:Bx}(hb:b.ok):EnI l b (qN b):=by
 have h1:=ht.len.1;refine⟨λj x hj=>?_,λx hx=>?_,λx hx=>?_,λp t hh=>.inl ⟨_,AZ ..,by rw[T3];exact hh⟩,(λh=>by cases h),(λh=>by cases h)⟩
 .match j,hj with
  |0,hj=>
   obtain rfl:Q6 0 b=x:=by simpa[qN]using hj
   rw[YV];simp only[ic];omega
  |j+1,hj=>simp[qN]at hj
 .obtain rfl:=B7.1 hx;rw[T3];exact hb
 .obtain rfl:=B7.1 hx;intro p t hh;rw[T3]at hh;exact⟨hh,rfl⟩
def QP(l:LI):Nat:=(l.map λx=>3^(31-(IS x).toNat)).sum
theorem EnI.depth{l:LI}(ht:TreeOK l){b:Bx}{e:En}(h:EnI l b e):e.todo.length<=31:=by
 by_cases hc:e.todo.length<=31
 .exact hc
 .obtain⟨x,hx⟩:∃x,e.todo[31]?=AA x:=⟨_,BF AG⟩
  have:=h.at_ 31 x hx
  have h2:=ht.len.2;simp only[ic]at this;omega
theorem fq{l:LI}(hl:0<l.length):QP l=QP (FR l)+3^(31-(IS (FI l)).toNat):=by
 have e:l=FR l++[FI l]:=by
  have h2:=(VU hl).2;have h3:l[l.length-1]=FI l:=CI ((BF AG).symm.trans h2);unfold FR;rw[<-h3,List.take_append_getElem,C9 AG]
 unfold QP
 conv=>lhs;rw[e]
 rw[va5,List.sum_append];simp
theorem zfp{a b c:Nat}(h1:a<b)(h2:a<c)(ha:a<31):3^(31-b)+3^(31-c)+1<=3^(31-a):=by
 have e:3^(31-a)=3*3^(30-a):=by
  rw[show 31-a=(30-a)+1 by omega,Nat.pow_succ];omega
 have e1:3^(31-b)<=3^(30-a):=vaS AG AG;have e2:3^(31-c)<=3^(30-a):=vaS AG AG;have e3:0<3^(30-a):=Nat.pow_pos AG;omega
theorem fw{l:LI}(ht:TreeOK l){b:Bx}{e:En}(h:EnI l b e)(hl:0<e.todo.length):QP (gM l e).todo+1<=QP e.todo:=by
 obtain⟨hm,hg⟩:=VU hl;have ha:=h.at_ _ _ hg;have h31:=ht.len.2;have hlt:(IS (FI e.todo)).toNat<l.length:=by have:=ha.2;simp only[ic]at this;omega
 have hpos:0<3^(31-(IS (FI e.todo)).toNat):=Nat.pow_pos AG;rw[fq hl];unfold gM;cases !FJ (l.getD (IS (FI e.todo)).toNat default).toInt||(KJ (FI e.todo)).emp with
 |true=>rw[DS];show QP (FR e.todo)+1<=_;omega
 |false=>
  rw[DT];cases hlf:(FH l e).lf with
  |true=>rw[A9,DT];show QP (FR e.todo)+1<=_;omega
  |false=>
   rw[BG,DS];obtain⟨_,_,⟨l1,l2⟩,⟨r1,r2⟩,_⟩:=ht.fork _ hlt hlf;replace l1:((IS (FI e.todo)).toNat:Int)<(FH l e).l:=l1;replace r1:((IS (FI e.todo)).toNat:Int)<(FH l e).r:=r1
   have:=zfp (a:=(IS (FI e.todo)).toNat) (b:=(FH l e).l.toNat) (c:=(FH l e).r.toNat) AG AG AG
   unfold QP at*;rw[va5,List.sum_append];simp only[A8,CN,vbc,List.sum_nil,YV];omega
theorem fu{l:LI}(hT:F5 l 4=AC){b:Bx}(hb:b.emp=AD)(hok:b.ok){e:En}(h:EnI l b e)(hl:e.todo=[]):e.lo=G8 l b/\e.hi=G7 l b:=by
 obtain⟨t1,⟨p1,u1,q1,q2⟩,⟨p2,u2,q3,q4⟩⟩:=YQ hT hb hok;have hall:∀p t,b.has p t=AC->e.any=AC/\e.lo<=G1 l p/\G1 l p<=e.hi:=λp t hh=>by
  rcases h.all p t hh with⟨x,hx,_⟩|hr
  .rw[hl]at hx;cases hx
  .exact hr
 have hany:=(hall _ _ q1).1;obtain⟨p3,u3,q5,q6⟩:=h.lo hany;obtain⟨p4,u4,q7,q8⟩:=h.hi hany;have a1:=hall _ _ q1;have a2:=hall _ _ q3;have a3:=t1 _ _ q5;have a4:=t1 _ _ q7;omega
theorem zfj{l:LI}(hT:F5 l 4=AC){b c:Bx}(hb:b.emp=AD)(hok:b.ok)(hc:c.emp=AD)(hokc:c.ok)(h:∀p,(∃t,b.has p t=AC)↔∃t,c.has p t=AC):G8 l b=G8 l c/\G7 l b=G7 l c:=by
 obtain⟨t1,⟨p1,u1,q1,q2⟩,⟨p2,u2,q3,q4⟩⟩:=YQ hT hb hok;obtain⟨s1,⟨p3,u3,q5,q6⟩,⟨p4,u4,q7,q8⟩⟩:=YQ hT hc hokc;obtain⟨v1,w1⟩:=(h p1).1 ⟨u1,q1⟩;obtain⟨v2,w2⟩:=(h p2).1 ⟨u2,q3⟩;obtain⟨v3,w3⟩:=(h p3).2 ⟨u3,q5⟩;obtain⟨v4,w4⟩:=(h p4).2 ⟨u4,q7⟩;have a1:=s1 _ _ w1;have a2:=s1 _ _ w2;have a3:=t1 _ _ w3;have a4:=t1 _ _ w4;omega
open Go
theorem uT:∀{l:LI} {st st':LI×LI} {x:IV},JX l st=AA st'->JX (l++[x]) st=O3 st' x
 |[],st,st',x,h=>by
  obtain rfl:=CI h;rw[DK,JX];cases O3 st x<;>rfl
 |y::r,st,st',x,h=>by
  rw[C0,JX];rw[JX]at h;cases hs:O3 st y with
  |none=>rw[hs]at h;cases h
  |some s1=>rw[hs]at h;exact uT h
theorem qI:∀{l:LI} {st st':Int×Int} {x:IV},LH l st=AA st'->LH (l++[x]) st=OT st' x
 |[],st,st',x,h=>by
  obtain rfl:=CI h;rw[DK,LH];cases OT st x<;>rfl
 |y::r,st,st',x,h=>by
  rw[C0,LH];rw[LH]at h;cases hs:OT st y with
  |none=>rw[hs]at h;cases h
  |some s1=>rw[hs]at h;exact qI h
def L3(m:Md)(q:Qy)(b:Bx):Nat:=(E1 m q b 0).length+(E1 m q b 1).length+(E1 m q b 2).length+(E1 m q b 3).length+(E1 m q b 4).length
theorem Fi{α:Type}{p q:α->Bool}:∀{l:List α},(∀x∈l,p x=AC->q x=AC)->(l.filter p).length<=(l.filter q).length
 |[],_=>A5 _
 |x::l,h=>by
  have ih:=Fi (l:=l) (p:=p) (q:=q) λy hy=>h y (A6 _ hy)
  have hx:=h x (AZ ..);rw[vba,vba];cases hp:p x with
  |true=>rw[hx hp,B3 rfl,B3 rfl];simp only[AV];omega
  |false=>
   rw[BO (by decide)];cases q x with
   |true=>rw[B3 rfl];simp only[AV];omega
   |false=>rw[BO (by decide)];exact ih
theorem Fj{α:Type}{p q:α->Bool}{a:α}:∀{l:List α},a∈l->p a=AD->q a=AC->(∀x∈l,p x=AC->q x=AC)->(l.filter p).length<(l.filter q).length
 |[],h,_,_,_=>by cases h
 |x::l,hm,h1,h2,h=>by
  have hx:=h x (AZ ..);have hr:=λy hy=>h y (A6 _ hy)
  rw[vba,vba];rcases AY.1 hm with rfl|hm
  .rw[h1,h2,BO (by decide),B3 rfl]
   have:=Fi hr
   simp only[AV];omega
  .have ih:=Fj hm h1 h2 hr;cases hp:p x with
   |true=>rw[hx hp,B3 rfl,B3 rfl];simp only[AV];omega
   |false=>
    rw[BO (by decide)];cases q x with
    |true=>rw[B3 rfl];simp only[AV];omega
    |false=>rw[BO (by decide)];exact ih
theorem dt{m:Md}{q:Qy}{b c:Bx}{i:Nat}(h:c.g i=b.g i):E1 m q c i=E1 m q b i:=by unfold E1;rw[h]
theorem Dw{m:Md}{q:Qy}{b c:Bx}{i:Nat}{a:Int}(ha:a∈E1 m q b i)(h1:(b.g i).lo<=(c.g i).lo)(h2:(c.g i).hi<=(b.g i).hi)(h3:a<(c.g i).lo\/(c.g i).hi<=a):(E1 m q c i).length<(E1 m q b i).length:=by
 obtain⟨hf,hm,hl,hh⟩:=S9.1 ha;unfold E1;rw[AS AG,DT,DT];unfold LK;refine Fj hm ?_ ?_ ?_
 .simp only[Bool.not_eq_false',vap,AW];omega
 .simp only[CC,vaa,B6];omega
 .intro x _;simp only[CC,vaa,B6];omega
theorem Lm{m:Md}{q:Qy}{b c:Bx}{j:Nat}(hj:j<5)(h1:(E1 m q c j).length<(E1 m q b j).length)(h2:∀i,i<5->i≠j->c.g i=b.g i):L3 m q c<L3 m q b:=by
 have e:∀i,i<5->i≠j->(E1 m q c i).length=(E1 m q b i).length:=λi hi hn=>by rw[dt (h2 i hi hn)]
 unfold L3
 match j,hj with
 |0,_=>have:=e 1 AG AG;have:=e 2 AG AG;have:=e 3 AG AG;have:=e 4 AG AG;omega
 |1,_=>have:=e 0 AG AG;have:=e 2 AG AG;have:=e 3 AG AG;have:=e 4 AG AG;omega
 |2,_=>have:=e 0 AG AG;have:=e 1 AG AG;have:=e 3 AG AG;have:=e 4 AG AG;omega
 |3,_=>have:=e 0 AG AG;have:=e 1 AG AG;have:=e 2 AG AG;have:=e 4 AG AG;omega
 |4,_=>have:=e 0 AG AG;have:=e 1 AG AG;have:=e 2 AG AG;have:=e 3 AG AG;omega
 |n+5,h=>omega
theorem Qr{lo hi:Int}(h:lo<=hi):LT lo hi=⟨lo,hi⟩:=by unfold LT;rw[AS AG,DT]
theorem Ll{m:Md}{q:Qy}{b:Bx}{j:Nat}(hj:j<5){a:Int}(ha:a∈E1 m q b j):L3 m q (b.cutL (j:Int) a)<L3 m q b:=by
 obtain⟨hf,hm,hl,hh⟩:=S9.1 ha;have e:∀i,i<5->(b.cutL (j:Int) a).g i=if i=j then⟨(b.g j).lo,a⟩else b.g i:=λi hi=>by
  unfold Bx.cutL;rw[BH,LW b _ hj hi];unfold Sp.cutL;rw[show min (b.g j).hi a=a by omega,Qr hl]
 refine Lm hj (Dw ha ?_ ?_ ?_) λi hi hn=>by rw[e i hi,BO hn]
 .rw[e j hj,B3 rfl];exact DO _
 .rw[e j hj,B3 rfl];show a<=_;omega
 .rw[e j hj,B3 rfl];exact .inr (DO _)
theorem zbY{m:Md}{q:Qy}{b:Bx}(hb:b.good){j:Nat}(hj:j<5){a:Int}(ha:a∈E1 m q b j):L3 m q (b.cutH (j:Int) a)<L3 m q b:=by
 obtain⟨hf,hm,hl,hh⟩:=S9.1 ha;have hg:=hb j hj;have e:∀i,i<5->(b.cutH (j:Int) a).g i=if i=j then⟨a+1,(b.g j).hi⟩else b.g i:=λi hi=>by
  unfold Bx.cutH;rw[BH,LW b _ hj hi];unfold Sp.cutH;rw[AS AG,DT,show D6 (a+1)=a+1 from ER AG AG,show max (b.g j).lo (a+1)=a+1 by omega,Qr AG]
 refine Lm hj (Dw ha ?_ ?_ ?_) λi hi hn=>by rw[e i hi,BO hn]
 .rw[e j hj,B3 rfl];show _<=a+1;omega
 .rw[e j hj,B3 rfl];exact DO _
 .rw[e j hj,B3 rfl];exact .inl (by show a<a+1;omega)
structure Rp (m:Md) (q:Qy) (s:Sr):Prop where
 left:aP s
 pt:∀(j:Nat) (x:IV),s.left[j]?=AA x->L3 m q (EC x)+j<=L3 m q (GG q)
 ps:∃outs,JX s.proof ([(GG q).I],[])=AA (s.left,outs)/\∀x∈outs,GB m q (EC x)=AC
 dp:∃most,LH s.proof (1,1)=AA (ic s.left.length,most)/\1<=most/\most<=(L3 m q (GG q):Int)+1
theorem zcT{m:Md}{q:Qy}(h:E8 m q=AC):Rp m q ⟨[(GG q).I],[],Vd.none,0⟩ where
 left:=wc h
 pt j x hj:=by
  match j,hj with
  |0,hj=>
   obtain rfl:(GG q).I=x:=by simpa using hj
   rw[JI];omega
  |j+1,hj=>simp at hj
 ps:=⟨[],rfl,λx hx=>by cases hx⟩
 dp:=⟨1,rfl,by omega,by omega⟩
theorem Nv{m:Md}{q:Qy}{s:Sr}(hr:E8 m q=AC)(h:Rp m q s)(hl:0<s.left.length)(hn:GB m q (EA s.left)=AD->HK m q (EA s.left).low (EA s.left).s4.hi=AD):Rp m q (FF m q s):=by
 obtain⟨outs,hps,hout⟩:=h.ps;obtain⟨most,hdp,hm1,hm2⟩:=h.dp;have hg:=ze7 (m:=m) (q:=q) h.left hl;have ht:=oI h.left hl;have htop:s.left[s.left.length-1]?=AA (FI s.left):=(VU hl).2;have ept:EA s.left=EC (FI s.left):=rfl;have hpt:=h.pt _ _ htop;rw[<-ept]at hpt;cases hc:GB m q (EA s.left)with
 |true=>
  have e:(FF m q s).left=FR s.left/\(FF m q s).proof=s.proof++[JN AC 0 0]:=by
   unfold FF;rw[hc,DS];exact⟨rfl,rfl⟩
  refine⟨hg,λj x hj=>?_,⟨outs++[(EA s.left).I],?_,λx hx=>?_⟩,⟨most,?_,hm1,hm2⟩⟩
  .rw[e.1]at hj;exact h.pt j x (iV hj)
  .rw[e.2,uT hps,e.1];rfl
  .rcases A4.1 hx with hx|hx
   .exact hout x hx
   .obtain rfl:=B7.1 hx;rw[JI];exact hc
  .rw[e.2,qI hdp,e.1,VJ];unfold OT;have h1:(ic s.left.length==0)=AD:=BI.2 (by simp only[ic];omega);show cond ((ic s.left.length==0)||!true) AB (AA (ic s.left.length-1,most))=_;rw[h1];show AA (ic s.left.length-1,most)=_;rw[show ic s.left.length-1=ic (s.left.length-1) by simp only[ic];omega]
 |false=>
  have hb:=hn hc;have hs:=Tq hr h.left hl hc hb;obtain⟨j,hj,ei,_,_,hm⟩:=nZ hs;have hcut:=S9.1 hm;have e:(FF m q s).left=FR s.left++[((EA s.left).cutH (j:Int) (HD (EQ m q (EA s.left)))).I,((EA s.left).cutL (j:Int) (HD (EQ m q (EA s.left)))).I]/\(FF m q s).proof=s.proof++[JN AD (j:Int) (HD (EQ m q (EA s.left)))]:=by
   unfold FF;rw[hc,DT,hb,DT,hs,DS,ei];exact⟨rfl,rfl⟩
  generalize HD (EQ m q (EA s.left))=a at hm hcut e;refine⟨hg,λk x hk=>?_,⟨outs,?_,hout⟩,⟨max most (ic s.left.length+1),?_,by omega,?_⟩⟩
  .rw[e.1,vai,VJ]at hk;split at hk
   .exact h.pt k x (iV hk)
   .rcases DN (k-(s.left.length-1)) 1 with h0|h0
    .rw[show k-(s.left.length-1)=0 by omega]at hk;simp only[CB,AK]at hk;subst hk;rw[JI]
     have:=zbY ht hj hm
     omega
    .rcases DN (k-(s.left.length-1)) 2 with h2|h2
     .rw[show k-(s.left.length-1)=1 by omega]at hk;simp only[C5,CB,AK]at hk;subst hk;rw[JI]
      have:=Ll (q:=q) hj hm
      omega
     .rw[B4 (by simpa using h2)]at hk;cases hk
  .rw[e.2,uT hps,e.1];unfold O3;show cond AD _ (cond (AE (a<((EA s.left).g ((j:Int)).toNat).lo)||decide (a>=((EA s.left).g ((j:Int)).toNat).hi)) AB _)=_;rw[DT,BH,AS AG,AS AG];rfl
  .rw[e.2,qI hdp,e.1];unfold OT;have h1:(ic s.left.length==0)=AD:=BI.2 (by simp only[ic];omega);have h2:K6 (JN AD (j:Int) a)=AC:=by
    show(AE ((0:Int)<=(j:Int))&&AE ((j:Int)<=4))=AC;rw[AL AG,AL AG];rfl
   show cond ((ic s.left.length==0)||!(K6 (JN AD (j:Int) a))) AB (AA (ic s.left.length+1,max most (ic s.left.length+1)))=_;rw[h1,h2];show AA (ic s.left.length+1,max most (ic s.left.length+1))=_;rw[A2,VJ]
   have:ic (s.left.length-1+[((EA s.left).cutH (j:Int) a).I,((EA s.left).cutL (j:Int) a).I].length)=ic s.left.length+1:=by simp only[ic,AV,BL];omega
   rw[this]
  .have h3:0<L3 m q (EA s.left):=Nat.lt_of_le_of_lt (CG _) (Ll (q:=q) hj hm);simp only[ic];omega
open Go
def OZ(ts:LI):Nat:=(ts.map λt=>(EU t).length).sum
theorem zfn(w:IV):(JR 0 w).length+(JR 1 w).length+(JR 2 w).length+(JR 3 w).length<=1:=by
 unfold JR;cases(DV w.toInt).lf with
 |true=>simp
 |false=>
  generalize(DV w.toInt).f=f;by_cases h0:f=0
  .subst h0;exact A5 _
  by_cases h1:f=1
  .subst h1;exact A5 _
  by_cases h2:f=2
  .subst h2;exact A5 _
  by_cases h3:f=3
  .subst h3;exact A5 _
  rw[BI.2 h0,BI.2 h1,BI.2 h2,BI.2 h3];simp
theorem zfm(f:Int)(w:IV):(JR f w).length<=1:=by
 unfold JR;cases(!(DV w.toInt).lf&&(DV w.toInt).f==f)<;>simp
theorem Ka:∀(l:LI),(l.flatMap (JR 0)).length+(l.flatMap (JR 1)).length+(l.flatMap (JR 2)).length+(l.flatMap (JR 3)).length<=l.length
 |[]=>A5 _
 |w::l=>by
  have:=Ka l
  have:=zfn w
  simp only[var,A2,AV];omega
theorem Jy(f:Int):∀(l:LI),(l.flatMap (JR f)).length<=l.length
 |[]=>A5 _
 |w::l=>by
  have:=Jy f l
  have:=zfm f w
  simp only[var,A2,AV];omega
theorem Ms:∀(ts:LI),(JH ts 0).length+(JH ts 1).length+(JH ts 2).length+(JH ts 3).length<=OZ ts
 |[]=>A5 _
 |t::ts=>by
  have:=Ms ts
  have:=Ka (EU t)
  unfold JH OZ at*;simp only[var,A2,A8,vbc];omega
theorem Mr(f:Int):∀(ts:LI),(JH ts f).length<=OZ ts
 |[]=>A5 _
 |t::ts=>by
  have:=Mr f ts
  have:=Jy f (EU t)
  unfold JH OZ at*;simp only[var,A2,A8,vbc];omega
theorem gH(m:Md)(q:Qy)(b:Bx)(i:Nat):(E1 m q b i).length<=(JH m.ts (IJ q (i:Int))).length:=by
 unfold E1;cases AE (IJ q (i:Int)<0)with
 |true=>rw[DS];exact CG _
 |false=>
  rw[DT];unfold LK J1;refine DF (List.length_filter_le ..) ?_;rw[<-(TY (JH m.ts (IJ q (i:Int)))).length_eq];exact kX _
theorem zbZ(m:Md)(q:Qy)(b:Bx):L3 m q b<=2*OZ m.ts:=by
 have h0:=gH m q b 0;have h1:=gH m q b 1;have h2:=gH m q b 2;have h3:=gH m q b 3;have h4:=gH m q b 4;have h5:=Mr (IJ q ((4:Nat):Int)) m.ts;have h6:=Ms m.ts;rw[rB AG]at h0 h1 h2 h3;unfold L3;simp only[Int.natCast_zero]at*;have e1:((1:Nat):Int)=1:=rfl;have e2:((2:Nat):Int)=2:=rfl;have e3:((3:Nat):Int)=3:=rfl;rw[e1]at h1;rw[e2]at h2;rw[e3]at h3;omega
theorem Fu(f:Ft):OZ f.M.ts<=60:=by
 have hd:=Z8 f.d;have key:∀(l:LI),OZ (l.map (bP f.d f.c))<=15*l.length:=by
  intro l
  induction l with
  |nil=>exact A5 _
  |cons t l ih=>
   obtain⟨i,hi,hn⟩:=Kg (t.cell 1).toList (t.cell 2).toList (t.cell 3).toList (t.cell 4).toList (dim:=OS f.d) ⟨hd.1,by omega⟩;have e:(EU (bP f.d f.c t)).length=2*i+1:=by
    show((PY (t.cell 1).toList (t.cell 2).toList (t.cell 3).toList (t.cell 4).toList (OS f.d)).nodes.map TR).length=_;rw[B8,hn.len]
   unfold OZ at*;simp only[A8,vbc,AV];rw[e];omega
 have h4:(f.ts.take 4).length<=4:=by rw[BJ];omega
 have:=key (f.ts.take 4)
 show OZ ((f.ts.take 4).map (bP f.d f.c))<=60;omega
open Go
def zfd(q:Qy)(s:Sr):Prop:=∀x∈s.left,∀p t,(EC x).has p t=AC->(GG q).has p t=AC
structure Ri (m:Md) (q:Qy) (s:Sr):Prop where
 sp:0<=s.spent/\s.spent<=q.bu
 opn:s.v.kind=0->Rp m q s/\0<s.left.length/\s.spent=ic s.proof.length/\s.v.proof=[]/\zfd q s
 holds:s.v.kind=1->Rp m q s/\s.left=[]/\s.spent=ic s.proof.length/\s.v.proof=s.proof
 fails:s.v.kind=2->s.v.proof=[]/\1<=s.spent/\(GG q).has ⟨s.v.w0,s.v.w1,s.v.w2,s.v.w3⟩ s.v.twin=AC/\HK m q ⟨s.v.w0,s.v.w1,s.v.w2,s.v.w3⟩ s.v.twin=AC
 kinds:s.v.kind=0\/s.v.kind=1\/s.v.kind=2
theorem Nk{m:Md}{q:Qy}(h:E8 m q=AC):Ri m q ⟨[(GG q).I],[],Vd.none,0⟩ where
 sp:=⟨DO _,(TU h).2.2.1.1⟩
 opn _:=⟨zcT h,by simp,rfl,rfl,λx hx p t hh=>by
  obtain rfl:=B7.1 hx;rw[JI]at hh;exact hh⟩
 holds h:=absurd (show(0:Int)=1 from h) (by decide)
 fails h:=absurd (show(0:Int)=2 from h) (by decide)
 kinds:=.inl rfl
theorem zcF{m:Md}{q:Qy}{s:Sr}(hr:E8 m q=AC)(h:Ri m q s)(ho:H8 q s=AD):Ri m q (FF m q s):=by
 unfold H8 at ho;rw[vaa]at ho;have hk:s.v.kind=0:=by simpa using ho.1
 have hs:¬s.spent>=q.bu:=BM ho.2;obtain⟨hrp,hl,hsp,hvp,hsub⟩:=h.opn hk;have hsp0:=h.sp;have ht:=oI hrp.left hl;have htm:FI s.left∈s.left:=(VU hl).1;have ept:EA s.left=EC (FI s.left):=rfl;cases hc:GB m q (EA s.left)with
 |true=>
  have hrp':=Nv hr hrp hl (λh=>by rw[hc]at h;cases h);have e:FF m q s=⟨FR s.left,s.proof++[JN AC 0 0],cond (ic (s.left.length-1)==0) ⟨1,s.proof++[JN AC 0 0],0,0,0,0,0,0⟩ s.v,s.spent+1⟩:=by
   unfold FF;rw[hc,DS]
  rw[e]at hrp' ⊢;have hlen:s.spent+1=ic (s.proof++[JN AC 0 0]).length:=by
   rw[hsp];simp only[ic,A2,AV,BL];omega
  cases he:(ic (s.left.length-1)==0)with
  |true=>
   rw[he]at hrp';have h1:s.left.length=1:=by
    have:ic (s.left.length-1)=0:=by simpa using he
    simp only[ic]at this;omega
   have hnil:FR s.left=[]:=List.length_eq_zero_iff.1 (by rw[VJ];omega);exact⟨⟨by show 0<=s.spent+1;omega,by show s.spent+1<=_;omega⟩,λh=>absurd (show(1:Int)=0 from h) (by decide),λ_=>⟨hrp',hnil,hlen,rfl⟩,λh=>absurd (show(1:Int)=2 from h) (by decide),.inr (.inl rfl)⟩
  |false=>
   rw[he]at hrp';have h1:s.left.length-1≠0:=λh=>by rw[h]at he;exact absurd he (by decide)
   refine⟨⟨by show 0<=s.spent+1;omega,by show s.spent+1<=_;omega⟩,λ_=>⟨hrp',?_,hlen,hvp,λx hx=>hsub x (a7 hx)⟩,λh=>?_,λh=>?_,.inl hk⟩
   .show 0<(FR s.left).length;rw[VJ];omega
   .replace h:s.v.kind=1:=h;omega
   .replace h:s.v.kind=2:=h;omega
 |false=>
  cases hb:HK m q (EA s.left).low (EA s.left).s4.hi with
  |true=>
   have e:FF m q s=⟨FR s.left,s.proof,⟨2,[],(EA s.left).s0.lo,(EA s.left).s1.lo,(EA s.left).s2.lo,(EA s.left).s3.lo,(EA s.left).s4.hi,0⟩,s.spent+1⟩:=by
    unfold FF;rw[hc,DT,hb,DS]
   rw[e];refine⟨⟨by show 0<=s.spent+1;omega,by show s.spent+1<=_;omega⟩,λh=>absurd (show(2:Int)=0 from h) (by decide),λh=>absurd (show(2:Int)=1 from h) (by decide),λ_=>⟨rfl,by show 1<=s.spent+1;omega,?_,hb⟩,.inr (.inr rfl)⟩;exact hsub _ htm _ _ (by rw[<-ept];exact ZV _ ht.emp)
  |false=>
   have hrp':=Nv hr hrp hl (λ_=>hb);have hs2:=Tq hr hrp.left hl hc hb;obtain⟨j,hj,ei,_,_,hm⟩:=nZ hs2;have hcut:=S9.1 hm;have hg:=ht j hj;have e:FF m q s=⟨FR s.left++[((EA s.left).cutH (j:Int) (HD (EQ m q (EA s.left)))).I,((EA s.left).cutL (j:Int) (HD (EQ m q (EA s.left)))).I],
     s.proof++[JN AD (j:Int) (HD (EQ m q (EA s.left)))],s.v,s.spent+1⟩:=by
    unfold FF;rw[hc,DT,hb,DT,hs2,DS,ei]
   rw[e]at hrp' ⊢;generalize HD (EQ m q (EA s.left))=a at hm hcut hrp';refine⟨⟨by show 0<=s.spent+1;omega,by show s.spent+1<=_;omega⟩,λ_=>⟨hrp',by simp,?_,hvp,λx hx p t hh=>?_⟩,λh=>?_,λh=>?_,.inl hk⟩
   .show s.spent+1=_;rw[hsp];simp only[ic,A2,AV,BL];omega
   .rcases A4.1 hx with hx|hx
    .exact hsub x (a7 hx) p t hh
    .rcases AY.1 hx with rfl|hx
     .rw[JI]at hh;exact hsub _ htm p t (by rw[<-ept];exact((p9 ht.ok hj AG).1 hh).1)
     .obtain rfl:=B7.1 hx;rw[JI]at hh;exact hsub _ htm p t (by rw[<-ept];exact((qB hj).1 hh).1)
   .replace h:s.v.kind=1:=h;omega
   .replace h:s.v.kind=2:=h;omega
theorem vL{m:Md}{q:Qy}(hr:E8 m q=AC):∀(d:Nat) (s:Sr),Ri m q s->q.bu<s.spent+d->Ri m q (I9 m q d s)/\H8 q (I9 m q d s)=AC
 |0,s,h,hd=>⟨h,by
  unfold H8
  have:I9 m q 0 s=s:=rfl
  rw[this,AL (show s.spent>=q.bu by omega)];simp⟩
 |d+1,s,h,hd=>by
  rw[I9];cases ho:H8 q s with
  |true=>rw[DS];exact⟨h,ho⟩
  |false=>
   rw[DT];refine vL hr d (FF m q s) (zcF hr h ho) ?_
   have:(FF m q s).spent=s.spent+1:=by
    unfold FF;cases GB m _ _<;>cases HK m _ _ _<;>cases(EQ m _ _).isSome<;>rfl
   omega
theorem zc7{m:Md}{q:Qy}(hr:E8 m q=AC)(hp:L3 m q (GG q)<=199):
  ((FP m q).kind=1->P2 m q (FP m q)=AC/\ic (FP m q).proof.length=(FP m q).spent/\0<MM (FP m q).proof)/\
  ((FP m q).kind=2->P2 m q (FP m q)=AC/\(FP m q).proof=[]/\1<=(FP m q).spent)/\
  ((FP m q).kind=3->(FP m q).spent=q.bu/\(FP m q).proof=[])/\
  ((FP m q).kind=1\/(FP m q).kind=2\/(FP m q).kind=3)/\0<=(FP m q).spent/\(FP m q).spent<=q.bu:=by
 have h3:=(TU hr).2.2.1;have hnew:O2 m q=⟨[(GG q).I],[],Vd.none,0⟩:=by unfold O2;rw[hr,DS]
 obtain⟨hi,ho⟩:=vL hr (q.bu.toNat+1) _ (Nk hr) (by show q.bu<0+_;omega);unfold FP;rw[hnew];generalize I9 m q (q.bu.toNat+1) _=s at hi ho;rcases hi.kinds with hk|hk|hk
 .have ek:(GH s).kind=3:=by simp[GH,hk]
  have hsp:s.spent=q.bu:=by
   unfold H8 at ho;rw[hk]at ho
   have:s.spent>=q.bu:=by simpa using ho
   have:=hi.sp
   omega
  exact⟨λh=>by omega,λh=>by omega,λ_=>⟨hsp,(hi.opn hk).2.2.2.1⟩,.inr (.inr ek),hi.sp.1,hi.sp.2⟩
 .have ek:(GH s).kind=1:=by simp[GH,hk]
  obtain⟨hrp,hl,hsp,hvp⟩:=hi.holds hk;obtain⟨outs,hps,hout⟩:=hrp.ps;obtain⟨most,hdp,hm1,hm2⟩:=hrp.dp;have hlen:=hi.sp;rw[hl]at hps hdp;have hdeep:MM s.proof=most:=by
   unfold MM;rw[AS AG,DT,hdp];show cond (!((ic ([]:LI).length)==0)||decide (most>200)) 0 most=most;rw[AS AG];rfl
  have epr:(GH s).proof=s.proof:=hvp;refine⟨λ_=>⟨?_,?_,?_⟩,λh=>by omega,λh=>by omega,.inl ek,hi.sp.1,hi.sp.2⟩
  .unfold P2;rw[hr,ek,epr];show(AC&&cond AC (match L4 (GG q) s.proof with|some l=>l.all λx=>GB m q (EC x)|none=>AD) _)=AC;unfold L4;rw[hdeep,AL (show most>0 by omega),DS,hps];show(AC&&(outs.all λx=>GB m q (EC x)))=AC;rw[BE,CZ];exact hout
  .rw[epr];exact hsp.symm
  .rw[epr,hdeep];omega
 .have ek:(GH s).kind=2:=by simp[GH,hk]
  obtain⟨hvp,hsp,hh,hb⟩:=hi.fails hk;refine⟨λh=>by omega,λ_=>⟨?_,hvp,hsp⟩,λh=>by omega,.inr (.inl ek),hi.sp.1,hi.sp.2⟩;unfold P2;rw[hr,ek];show(AC&&((GG q).has ⟨s.v.w0,s.v.w1,s.v.w2,s.v.w3⟩ s.v.twin&&HK m q ⟨s.v.w0,s.v.w1,s.v.w2,s.v.w3⟩ s.v.twin))=AC;rw[hh,hb];rfl
open Go
theorem mi{s:Sp}:XV s=AC↔s.good:=by
 unfold XV Sp.good;simp only[AP,AW]
theorem aG{b:Bx}:goodB b=AC↔b.good:=by
 unfold goodB;simp only[AP,mi];constructor
 .rintro⟨h0,h1,h2,h3,h4⟩ i hi
  match i,hi with
  |0,_=>exact h0
  |1,_=>exact h1
  |2,_=>exact h2
  |3,_=>exact h3
  |4,_=>exact h4
  |n+5,hi=>omega
 .intro h;exact⟨h 0 AG,h 1 AG,h 2 AG,h 3 AG,h 4 AG⟩
theorem zfG{b:Bx}(h4:b.s4.lo<=b.s4.hi)(p:Pt):(∃t,(b.p ⟨0,0⟩ 4).has p t=AC)↔∃t,b.has p t=AC:=by
 constructor
 .rintro⟨t,h⟩;refine⟨b.s4.lo,?_⟩;unfold Bx.has at h ⊢;simp only[AP]at h ⊢;exact⟨h.1,h.2.1,h.2.2.1,h.2.2.2.1,P4.2 ⟨DO _,h4⟩⟩
 .rintro⟨t,h⟩;refine⟨0,?_⟩;unfold Bx.has at h ⊢;simp only[AP]at h ⊢;exact⟨h.1,h.2.1,h.2.2.1,h.2.2.2.1,P4.2 ⟨DO _,DO _⟩⟩
theorem wY{g g':LI->Int}(k:Int):∀(ts:LI) (s:Int),(∀t∈ts,g (EU t)=g' (EU t))->I1 g k ts s=I1 g' k ts s
 |[],_,_=>rfl
 |t::ts,s,h=>by
  rw[I1,I1,h t (AZ ..)];exact wY k ts _ λu hu=>h u (A6 _ hu)
theorem Oe{m:Md}(hm:ET m=AC)(k:Int){b:Bx}(hb:b.good):EK m k (b.p ⟨0,0⟩ 4)=EK m k b/\EE m k (b.p ⟨0,0⟩ 4)=EE m k b:=by
 have hg:(b.p ⟨0,0⟩ 4).good:=VI hb ⟨by decide,by decide,by decide⟩ AG;have ht:∀t∈m.ts,G8 (EU t) (b.p ⟨0,0⟩ 4)=G8 (EU t) b/\G7 (EU t) (b.p ⟨0,0⟩ 4)=G7 (EU t) b:=λt ht=>
  zfj (bQ hm ht) hg.emp hg.ok hb.emp hb.ok (zfG (hb 4 AG).2.1)
 have es:F9 m k (b.p ⟨0,0⟩ 4)=F9 m k b:=by unfold F9;rw[hg.emp,hb.emp]
 unfold EK EE;rw[es];cases F9 m k b with
 |false=>exact⟨rfl,rfl⟩
 |true=>
  rw[DS,DS,DS,DS];exact⟨wY k m.ts _ λt h=>(ht t h).1,wY k m.ts _ λt h=>(ht t h).2⟩
def XE(m:Md)(q:Qy)(b:Bx):Nat->Nat->Bool
 |0,_=>AC
 |d+1,i=>cond (!((i:Int)==q.c)&&AE (EE m (i:Int) b>=EK m q.c b)) AD (XE m q b d (i+1))
def LQ(q:Qy)(b:Bx):Bx:=b.p b.s4 q.ft.toNat
def v6(m:Md)(q:Qy)(b:Bx):Bool:=
 cond b.emp AC
  (cond (q.k==1) (AE (q.lo<=EK m q.c b)&&AE (EE m q.c b<=q.hi))
   (cond (q.k==2) (XE m q b m.c.toNat 0)
    (cond (AE ((b.g q.ft.toNat).lo>=b.s4.hi)) AC
     (cond q.fl (AE (EE m q.c (LQ q b)<=EK m q.c b)) (AE (EK m q.c (LQ q b)>=EE m q.c b))))))
theorem zE{m:Md}{q:Qy}{b:Bx}:∀(d i:Nat),XE m q b d i=AC↔∀j:Nat,i<=j->j<i+d->(j:Int)≠q.c->EE m (j:Int) b<EK m q.c b
 |0,i=>⟨λ_ j h1 h2=>by omega,λ_=>rfl⟩
 |d+1,i=>by
  rw[XE];cases hc:(!((i:Int)==q.c)&&AE (EE m (i:Int) b>=EK m q.c b))with
  |true=>
   rw[DS];simp only[AP,CC,BI,AW]at hc;refine⟨(λh=>by cases h),λh=>?_⟩
   have:=h i (A5 _) AG hc.1
   omega
  |false=>
   rw[DT,zE d (i+1)];rw[Bool.and_eq_false_iff,Bool.not_eq_false',CE,B6]at hc;constructor
   .intro h j h1 h2 hn;rcases DN i j with h3|h3
    .exact h j h3 AG hn
    .have:j=i:=by omega
     subst this;rcases hc with hc|hc
     .exact absurd hc hn
     .omega
   .intro h j h1 h2 hn;exact h j AG AG hn
theorem zdi{m:Md}{q:Qy}{b:Bx}(hr:E8 m q=AC)(hb:b.emp=AC\/b.good):v6 m q b=GB m q b:=by
 unfold v6 GB;rw[hr,BE];cases he:b.emp with
 |true=>rfl
 |false=>
  rw[DT,DT];have hg:b.good:=by
   rcases hb with h|h
   .rw[he]at h;cases h
   .exact h
  obtain⟨hm,⟨c0,c1⟩,_,_,hk⟩:=TU hr;have hcl:=pY c0 c1;have hs:=YO hm hcl he;rcases aM hk with⟨e,_⟩|⟨e,h2,_⟩|⟨e,hf,_⟩
  .rw[e];show(AE (q.lo<=EK m q.c b)&&AE (EE m q.c b<=q.hi))=(F9 m q.c b&&(AE (q.lo<=EK m q.c b)&&AE (EE m q.c b<=q.hi)));rw[hs,BE]
  .rw[e];show XE m q b m.c.toNat 0=(MW m q.c b&&AE (TL m q.c b>0));have hmg:MW m q.c b=AC:=by unfold MW;rw[hs,AL AG];rfl
   rw[hmg,BE,vac,zE,AW]
   have:=Ix hmg
   constructor
   .intro h;exact this.2 λj hj hn=>h j (CG _) AG hn
   .intro h j _ h2 hn;exact this.1 h j AG hn
  .rw[e];have hp:=nG hm e hf;have h44:=hg 4 AG;have hg2:(LQ q b).good:=VI hg h44 (by have:=hf;have:=(TU hr).1;rcases QU hp with e|e|e|e<;>rw[e]<;>decide);have s1:=Oe hm q.c hg;have s2:=Oe hm q.c hg2;have f1:JV q b=b.p ⟨0,0⟩ 4:=by unfold JV;rw[hp,DS]
   have f2:J0 q b=(LQ q b).p ⟨0,0⟩ 4:=by unfold J0;rw[hp,DS];rfl
   have hch:KV m q b=AC:=by
    unfold KV;rw[hp,f1,f2,YO hm hcl (VI hg ⟨by decide,by decide,by decide⟩ AG).emp,YO hm hcl (VI hg2 ⟨by decide,by decide,by decide⟩ AG).emp];rfl
   have e1:RM m q b=EE m q.c (LQ q b)-EK m q.c b:=by unfold RM;rw[hch,DS,f1,f2,s1.1,s2.2]
   have e2:RN m q b=EK m q.c (LQ q b)-EE m q.c b:=by unfold RN;rw[hch,DS,f1,f2,s1.2,s2.1]
   have eo:P1 q b=!decide ((b.g q.ft.toNat).lo>=b.s4.hi):=by
    unfold P1;rw[hp,he];by_cases h:(b.g q.ft.toNat).lo<b.s4.hi
    .rw[AL h,AS AG];rfl
    .rw[AS h,AL AG];rfl
   show cond (AE ((b.g q.ft.toNat).lo>=b.s4.hi)) AC _=cond (!(P1 q b)) AC (cond q.fl (KV m q b&&AE (RM m q b<=0)) (KV m q b&&AE (RN m q b>=0)));rw[eo,Bool.not_not,hch,BE,BE,e1,e2];have d1:AE (EE m q.c (LQ q b)-EK m q.c b<=0)=AE (EE m q.c (LQ q b)<=EK m q.c b):=by
    rw[vac,AW,AW];omega
   have d2:AE (EK m q.c (LQ q b)-EE m q.c b>=0)=AE (EK m q.c (LQ q b)>=EE m q.c b):=by
    rw[vac,AW,AW];omega
   rw[d1,d2]
open Go
theorem qJ{x:IV}{left most:Int}{st:Int×Int}(h:OT (left,most) x=AA st):left≠0/\K6 x=AC/\((I0 x=AC/\st=(left-1,most))\/(I0 x=AD/\st=(left+1,max most (left+1)))):=by
 unfold OT at h;cases hz:(left==0)with
 |true=>simp only[hz,Bool.true_or,BN]at h;cases h
 |false=>
  have hne:left≠0:=by simpa using hz
  simp only[hz,vam]at h;cases hr:K6 x with
  |false=>rw[hr]at h;cases h
  |true=>
   rw[hr]at h;simp only[A9,BC]at h;cases hs:I0 x with
   |true=>rw[hs]at h;exact⟨hne,rfl,.inl ⟨rfl,(CI h).symm⟩⟩
   |false=>rw[hs]at h;exact⟨hne,rfl,.inr ⟨rfl,(CI h).symm⟩⟩
theorem vM{x:IV}(h:K6 x=AC)(hs:I0 x=AD):0<=FW x/\FW x<=4:=by
 unfold K6 at h;rw[hs,DT,AP,AW,AW]at h;exact h
theorem Ma{x:IV}{left out:LI}{most:Int}{st:Int×Int}{lo:LI×LI}(hl:∀y∈left,(EC y).good)(ho:∀y∈out,(EC y).good)(hd:OT (ic left.length,most) x=AA st)(hp:O3 (left,out) x=AA lo):
  (∀y∈lo.1,(EC y).good)/\(∀y∈lo.2,(EC y).good)/\st.1=ic lo.1.length:=by
 obtain⟨hne,hr,hd⟩:=qJ hd;have hlen:0<left.length:=by simp only[ic]at hne;omega
 have ht:(EA left).good:=hl _ (VU hlen).1;unfold O3 at hp;rcases hd with⟨hs,rfl⟩|⟨hs,rfl⟩
 .rw[hs]at hp;obtain rfl:=CI hp;refine⟨λy hy=>hl y (a7 hy),λy hy=>?_,?_⟩
  .rcases A4.1 hy with hy|hy
   .exact ho y hy
   .obtain rfl:=B7.1 hy;rw[JI];exact ht
  .show ic left.length-1=ic (FR left).length;rw[VJ];simp only[ic];omega
 .rw[hs]at hp;have hpl:=vM hr hs;have ej:FW x=(((FW x).toNat:Nat):Int):=by omega
  cases hc:(AE (GY x<((EA left).g (FW x).toNat).lo)||decide (GY x>=((EA left).g (FW x).toNat).hi))with
  |true=>simp only[hc,BC,BN]at hp;cases hp
  |false=>
   simp only[hc,BC]at hp;obtain rfl:=CI hp;simp only[vaa,B6]at hc;refine⟨λy hy=>?_,ho,?_⟩
   .rcases A4.1 hy with hy|hy
    .exact hl y (a7 hy)
    .rcases AY.1 hy with rfl|hy
     .rw[JI,ej];exact Dm ht AG AG AG
     .obtain rfl:=B7.1 hy;rw[JI,ej];exact Dq ht AG AG AG
   .show ic left.length+1=ic (FR left++[_,_]).length;rw[A2,VJ];simp only[ic,AV,BL];omega
theorem Ly:∀{l:LI} {left out:LI} {most:Int} {st:Int×Int} {lo:LI×LI},(∀y∈left,(EC y).good)->(∀y∈out,(EC y).good)->LH l (ic left.length,most)=AA st->JX l (left,out)=AA lo->∀y∈lo.2,(EC y).good
 |[],left,out,most,st,lo,_,ho,_,hp=>by
  obtain rfl:=CI hp;exact ho
 |x::l,left,out,most,st,lo,hl,ho,hd,hp=>by
  rw[LH]at hd;rw[JX]at hp;cases h1:OT (ic left.length,most) x with
  |none=>rw[h1]at hd;cases hd
  |some s1=>
   cases h2:O3 (left,out) x with
   |none=>rw[h2]at hp;cases hp
   |some l1=>
    rw[h1]at hd;rw[h2]at hp;obtain⟨g1,g2,g3⟩:=Ma hl ho h1 h2;obtain⟨a,b⟩:=l1;obtain⟨c,d⟩:=s1;obtain rfl:c=ic a.length:=g3;exact Ly g1 g2 hd hp
theorem Eb{l:LI}(h:MM l>0):∃st,LH l (1,1)=AA st:=by
 unfold MM at h;cases hc:AE (ic l.length>65536)with
 |true=>rw[hc,DS]at h;omega
 |false=>
  rw[hc,DT]at h;cases hd:LH l (1,1)with
  |none=>rw[hd]at h;exact absurd h (by decide)
  |some st=>exact⟨st,rfl⟩
theorem zb9{b:Bx}(hb:b.good){l outs:LI}(h:L4 b l=AA outs):∀y∈outs,(EC y).good:=by
 unfold L4 at h;cases hd:AE (MM l>0)with
 |false=>rw[hd,DT]at h;cases h
 |true=>
  rw[hd,DS]at h;obtain⟨st,hst⟩:=Eb (BB hd);cases hp:JX l ([b.I],[])with
  |none=>rw[hp]at h;cases h
  |some lo=>
   rw[hp]at h;obtain rfl:=CI h;refine Ly (left:=[b.I]) (out:=[]) (most:=1) (λy hy=>?_) (λy hy=>by cases hy) hst hp;obtain rfl:=B7.1 hy;rw[JI];exact hb
open Go Go.Proofs
def Y8(N:Nat):Env:=EI [(124,QG),(174,LV),(51,M8)] [(3,⟨[0,4,5,6,7,8,9],[500],[⟨.tmp 9,500,273,AC,mA⟩]⟩)] 88 N
open Go Go.Proofs
set_option maxRecDepth 100000
def RQ(l O:LI)(n:Nat)(lo hi:Int)(any:Bool):St:=⟨[(0,.list AD [.int .u64] l),(4,.i 0),(5,.i 0),(6,.i lo),(7,.i hi),(8,.bool any),(9,.row 500 0 n)],[(500,AA (.row AC 273 AC mA O))]⟩
abbrev sF:KP:=⟨[0,4,5,6,7,8,9],[500],[⟨.tmp 9,500,273,AC,mA⟩]⟩
noncomputable abbrev r7(N:Nat):Out->St->DW:=DZ 0 (D1 (Y8 N) (DU ZW [1,1,1,1]) (D4 (Y8 N) AB [.tmp 4,.tmp 5] [[.z],[.z]]))
def eW(n:Nat):Int:=AI AJ (ic (n-0)-1)
def eX(O:LI)(n:Nat):IV:=O.getD (0+(eW n).toNat) default
def KB(l:LI)(x:IV):Int:=(l.getD (IS x).toNat default).toInt
theorem zn(N:Nat)(l:LI)(b:Bx):EB (Y8 N) ZW [.tmp 4,.tmp 5] [[.z],[.z]] [.list AD [.int .u64] l,b.V]=
 D7 (Y8 N) (DU ZW [1,1,1,0,0,0]) sF N (RQ l [Q6 0 b] 1 0 0 AD) (r7 N):=AF
theorem Sl(N:Nat)(l O:LI)(n:Nat)(lo hi:Int)(any:Bool)(again:St->DW)(k:Out->St->DW):E3 (Y8 N) (DU ZW [1,1,1,0,0,0]) (RQ l O n lo hi any) (ES again sF k)=
 cond (AE (ic (n-0)>0)) (cond (AE (0<=eW n)&&AE (eW n<ic (n-0))) (cond (AE (0<=eW n)&&AE (eW n<=ic (n-0)))
 (cond (AE (0<=IS (eX O n))&&AE (IS (eX O n)<ic l.length))
 (cond (!(FJ (KB l (eX O n)))) (again (RQ l O (0+(eW n).toNat) lo hi any))
 (cond (KJ (eX O n)).emp (again (RQ l O (0+(eW n).toNat) lo hi any))
 (cond (!(DV (KB l (eX O n))).lf)
 (cond (GZ (DV (KB l (eX O n))).f) (cond (AE ((0+(eW n).toNat+2)*88<=EM))
 (again (RQ l (O.take (0+(eW n).toNat)++[Q6 (DV (KB l (eX O n))).l ((KJ (eX O n)).cutL (DV (KB l (eX O n))).f (DV (KB l (eX O n))).a),Q6 (DV (KB l (eX O n))).r ((KJ (eX O n)).cutH (DV (KB l (eX O n))).f (DV (KB l (eX O n))).a)]) (0+(eW n).toNat+2) lo hi any)) AB) AB)
 (cond (!any) (again (RQ l O (0+(eW n).toNat) (min (DV (KB l (eX O n))).v (DV (KB l (eX O n))).v) (max (DV (KB l (eX O n))).v (DV (KB l (eX O n))).v) AC))
 (again (RQ l O (0+(eW n).toNat) (min lo (DV (KB l (eX O n))).v) (max hi (DV (KB l (eX O n))).v) any)))))) AB) AB) AB)
 (k (.exit 0) (RQ l O n lo hi any)):=AF
theorem jf(N:Nat)(l O:LI)(n:Nat)(lo hi:Int)(any:Bool):r7 N (.exit 0) (RQ l O n lo hi any)=AA (.tup [.i lo,.i hi],[]):=AF
theorem aC(N:Nat){l:LI}(hT:F5 l 4=AC){b:Bx}(hb:b.good):∀(c:Nat) (O:LI) (n:Nat) (lo hi:Int) (any:Bool),n<=O.length->EnI l b ⟨O.take n,lo,hi,any⟩->QP (O.take n)<c->
  D7 (Y8 N) (DU ZW [1,1,1,0,0,0]) sF c (RQ l O n lo hi any) (r7 N)=AA (.tup [.i (G8 l b),.i (G7 l b)],[])
 |0,_,_,_,_,_,_,_,h=>absurd h AG
 |c+1,O,0,lo,hi,any,hn,h,hc=>by
  obtain⟨e1,e2⟩:=fu hT hb.emp hb.ok h rfl;replace e1:lo=G8 l b:=e1;replace e2:hi=G7 l b:=e2;rw[ED,Sl,show AE (ic (0-0)>0)=AD from rfl,DT,jf,e1,e2]
 |c+1,O,j+1,lo,hi,any,hn,h,hc=>by
  have ht:=xI hT;have hlen:(O.take (j+1)).length=j+1:=by rw[BJ];omega
  have hl:0<(En.mk (O.take (j+1)) lo hi any).todo.length:=by show 0<(O.take (j+1)).length;omega
  have hd:=h.depth ht;replace hd:(O.take (j+1)).length<=31:=hd;have hs:=fy ht h hl;have hw:=fw ht h hl;have htop:FI (O.take (j+1))=O.getD j default:=by
   unfold FI;rw[hlen,BK,BK,C2,B3 AG];rfl
  have hpop:FR (O.take (j+1))=O.take j:=by
   unfold FR;rw[hlen,List.take_take];congr 1;omega
  have ew:eW (j+1)=(j:Int):=by
   unfold eW;rw[show ic (j+1-0)-1=(j:Int) by simp only[ic];omega];exact ER AG AG
  have ej:0+(eW (j+1)).toNat=j:=by rw[ew];omega
  have ex:eX O (j+1)=FI (O.take (j+1)):=by unfold eX;rw[ej,htop]
  have ha:=h.at_ _ _ (VU hl).2;replace ha:((((O.take (j+1)).length-1:Nat)):Int)<=IS (FI (O.take (j+1)))/\IS (FI (O.take (j+1)))<ic l.length:=ha;have i1:AE (ic (j+1-0)>0)=AC:=AL (by simp only[ic];omega);have i2:(AE (0<=eW (j+1))&&AE (eW (j+1)<ic (j+1-0)))=AC:=by rw[ew,AL AG,AL (by simp only[ic];omega)];rfl
  have i3:(AE (0<=eW (j+1))&&AE (eW (j+1)<=ic (j+1-0)))=AC:=by rw[ew,AL AG,AL (by simp only[ic];omega)];rfl
  rw[ED,Sl,i1,DS,i2,DS,i3,DS,ej,ex,AL (show 0<=IS (FI (O.take (j+1))) by omega),AL ha.2,BX,DS];unfold gM at hs hw;simp only[FH,hpop]at hs hw;have eWdef:KB l (FI (O.take (j+1)))=(l.getD (IS (FI (O.take (j+1)))).toNat default).toInt:=rfl;rw[<-eWdef]at hs hw;have hfk:(DV (KB l (FI (O.take (j+1))))).lf=AD->GZ (DV (KB l (FI (O.take (j+1))))).f=AC:=λhf=>by
   have hk:(IS (FI (O.take (j+1)))).toNat<l.length:=by have:=ha.2;simp only[ic]at this;omega
   have:=(ht.fork _ hk hf).1
   replace this:0<=(DV (KB l (FI (O.take (j+1))))).f/\(DV (KB l (FI (O.take (j+1))))).f<4:=this;unfold GZ;rw[AL this.1,AL AG];rfl
  generalize KB l (FI (O.take (j+1)))=wd at hs hw hfk ⊢;generalize KJ (FI (O.take (j+1)))=vb at hs hw ⊢;cases hnb:FJ wd with
  |false=>
   rw[BG,DS];simp only[hnb,BG,Bool.true_or,BN]at hs hw;exact aC N hT hb c O j lo hi any AG hs AG
  |true=>
   rw[A9,DT];simp only[hnb,A9,vam]at hs hw;cases he:vb.emp with
   |true=>
    rw[DS];simp only[he,BN]at hs hw;exact aC N hT hb c O j lo hi any AG hs AG
   |false=>
    rw[DT];simp only[he,BC]at hs hw;cases hlf:(DV wd).lf with
    |true=>
     rw[A9,DT];simp only[hlf,A9,BC]at hs hw;cases any with
     |false=>
      rw[BG,DS];exact aC N hT hb c O j _ _ AC AG hs AG
     |true=>
      rw[A9,DT];exact aC N hT hb c O j _ _ AC AG hs AG
    |false=>
     rw[BG,DS];simp only[hlf,BG,BN]at hs hw;have e2:∀v1 v2:IV,(O.take j++[v1,v2]).take (j+2)=O.take j++[v1,v2]:=λv1 v2=>C9 (by simp only[A2,BJ,AV,BL];omega)
     rw[hfk hlf,DS,AL (show(j+2)*88<=EM by unfold EM;omega),DS];refine aC N hT hb c _ (j+2) lo hi any (by simp only[A2,BJ,AV,BL];omega) ?_ ?_
     .rw[e2];exact hs
     .rw[e2];omega
theorem zdF:D9 PR B0 212 cZ:=by
 refine EJ [(124,QG),(174,LV),(51,M8)] [(3,⟨[0,4,5,6,7,8,9],[500],[⟨.tmp 9,500,273,AC,mA⟩]⟩)] cZ [[.z],[.z]] Tryz.func212 ny ⟨nT,YP,bK,trivial⟩ ?_;intro vs r hwf h;unfold cZ at h;split at h
 .rename_i l b;replace h:=H4 h;obtain⟨b,rfl,h⟩:=h;cases hg:(F5 l 4&&goodB b)with
  |false=>rw[hg]at h;simp[R.get]at h
  |true=>
  rw[hg,R.get_br,DS,R.get_ok]at h;rw[AP]at hg;refine⟨3^31+1,(zn (3^31+1) l b).trans ?_⟩;rw[<-h];have hgd:=aG.1 hg.2;refine aC (3^31+1) hg.1 hgd (3^31+1) [Q6 0 b] 1 0 0 AD (A5 _) (fx (xI hg.1) hgd.ok) ?_;show QP [Q6 0 b]<3^31+1;unfold QP;simp only[A8,CN,vbc,List.sum_nil,YV];show 3^31+0<3^31+1;omega
 .simp[R.get]at h
open Go Go.Proofs
def ZE(N:Nat):Env:=EI [(124,QG),(173,eR)] [(6,⟨[4,5,6,7,19,20,21],[500,501],[⟨.tmp 6,500,37,AC,E5⟩,⟨.tmp 7,501,37,AC,E5⟩]⟩)] 75 N
open Go Go.Proofs
set_option maxRecDepth 100000
def R7(l L:LI)(n:Nat)(out:LI)(m:Nat)(i:Int):St:=⟨[(4,.zs),(5,.bool AD),(6,.row 500 0 n),(7,.row 501 0 m),(19,.list AC EX l),(20,.i (ic l.length)),(21,.i i)],[(500,AA (.row AC 37 AC E5 L)),(501,AA (.row AC 37 AC E5 out))]⟩
abbrev sJ:KP:=⟨[4,5,6,7,19,20,21],[500,501],[⟨.tmp 6,500,37,AC,E5⟩,⟨.tmp 7,501,37,AC,E5⟩]⟩
def uL(p:Int)(f:Nat->DW):DW:=cond (AE (p=ic 0)) (f 0) (cond (AE (p=ic 1)) (f 1) (cond (AE (p=ic 2)) (f 2) (cond (AE (p=ic 3)) (f 3) (cond (AE (p=ic 4)) (f 4) AB))))
def LJ(n:Nat):Int:=AI AJ (ic (n-0)-1)
def pX(L:LI)(n:Nat):IV:=L.getD (0+(LJ n).toNat) default
noncomputable abbrev lY(N:Nat):Out->St->DW:=DZ 0 (D1 (ZE N) (DU Z2 [1,1,1,1,1]) (D4 (ZE N) AB [.tmp 4,.tmp 5] [[.list AC E5],[.bool]]))
theorem zan(N:Nat)(l:LI)(b:Bx):EB (ZE N) Z2 [.tmp 4,.tmp 5] [[.list AC E5],[.bool]] [b.V,.list AC EX l]=
 cond (!decide (MM l>0)) (AA (.tup [.list AC E5 [],.bool AD],[])) (D7 (ZE N) (DU Z2 [1,1,1,1,0,1,0,0]) sJ N (R7 l [b.I] 1 [] 0 0) (lY N)):=AF
theorem jq(N:Nat)(l L out:LI)(n m:Nat)(i:Int):lY N (.exit 0) (R7 l L n out m i)=AA (.tup [.list AC E5 (AU m out),.bool AC],[]):=AF
theorem Fa(N:Nat)(l L out:LI)(n m:Nat)(i:Int):lY N .ret (R7 l L n out m i)=AA (.tup [.list AC E5 [],.bool AD],[]):=AF
theorem Sw(N:Nat)(l L out:LI)(n m:Nat)(i:Int)(again:St->DW)(k:Out->St->DW):E3 (ZE N) (DU Z2 [1,1,1,1,0,1,0,0]) (R7 l L n out m i) (ES again sJ k)=
 cond (AE (i<ic l.length)) (cond (AE (0<=i)&&AE (i<ic l.length)) (cond (AE (0<=LJ n)&&AE (LJ n<ic (n-0))) (cond (AE (0<=LJ n)&&AE (LJ n<=ic (n-0)))
 (cond (I0 (l.getD i.toNat default)) (cond (AE ((m+1)*80<=EM)) (again (R7 l L (0+(LJ n).toNat) (out.take m++[(EC (pX L n)).I]) (m+1) (D6 (i+1)))) AB)
 (uL (FW (l.getD i.toNat default)) λj=>cond (AE (GY (l.getD i.toNat default)<cI (pX L n) (2*j))) (k .ret (R7 l L (0+(LJ n).toNat) out m i))
 (uL (FW (l.getD i.toNat default)) λj=>cond (AE (GY (l.getD i.toNat default)>=cI (pX L n) (2*j+1))) (k .ret (R7 l L (0+(LJ n).toNat) out m i))
 (cond (GZ (FW (l.getD i.toNat default))) (cond (AE ((0+(LJ n).toNat+2)*80<=EM))
 (again (R7 l (L.take (0+(LJ n).toNat)++[((EC (pX L n)).cutH (FW (l.getD i.toNat default)) (GY (l.getD i.toNat default))).I,((EC (pX L n)).cutL (FW (l.getD i.toNat default)) (GY (l.getD i.toNat default))).I]) (0+(LJ n).toNat+2) out m (D6 (i+1)))) AB) AB)))) AB) AB) AB)
 (k (.exit 0) (R7 l L n out m i)):=AF
theorem Lj{p:Int}{a:Nat}(h:p=(a:Int))(ha:a<5)(f:Nat->DW):uL p f=f a:=by
 subst h
 match a,ha with
 |0,_=>rfl
 |1,_=>rfl
 |2,_=>rfl
 |3,_=>rfl
 |4,_=>rfl
 |n+5,h=>omega
theorem bg(x:IV):∀{a:Nat},a<5->(EC x).g a=⟨cI x (2*a),cI x (2*a+1)⟩
 |0,_=>rfl
 |1,_=>rfl
 |2,_=>rfl
 |3,_=>rfl
 |4,_=>rfl
 |n+5,h=>by omega
def uS(o:Option (List IV×LI)):DW:=match o with
 |some lo=>AA (.tup [.list AC E5 lo.2,.bool AC],[])
 |none=>AA (.tup [.list AC E5 [],.bool AD],[])
theorem uU(N:Nat)(l:LI)(hl:l.length<=65536):∀(d c i:Nat) (L:LI) (n:Nat) (out:LI) (most:Int) (st:Int×Int),i+d=l.length->d<c->n<=L.length->n<=i+1->out.length<=i->LH (l.drop i) (ic n,most)=AA st->
  D7 (ZE N) (DU Z2 [1,1,1,1,0,1,0,0]) sJ c (R7 l L n out out.length (i:Int)) (lY N)=uS (JX (l.drop i) (L.take n,out))
 |d,0,_,_,_,_,_,_,_,h,_,_,_,_=>absurd h AG
 |0,c+1,i,L,n,out,most,st,hd,_,_,_,_,_=>by
  rw[ED,Sw,I6 AG,DT,C1 AG,jq,BW];rfl
 |d+1,c+1,i,L,n,out,most,st,hd,hc,hn,hn2,ho,hdp=>by
  have hi:i<l.length:=by omega
  rw[BD hi,LH]at hdp;rw[ED,Sw,H0 hi,DS,IG,BX,DS,IK hi,BD hi,JX];have ei:D6 ((i:Int)+1)=((i+1:Nat):Int):=GQ AG;rw[ei];generalize l[i]=x at hdp ⊢;cases h1:OT (ic n,most) x with
  |none=>rw[h1]at hdp;cases hdp
  |some s1=>
   rw[h1]at hdp;obtain⟨hne,hr,hcase⟩:=qJ h1;obtain⟨j,rfl⟩:∃j,n=j+1:=⟨n-1,by simp only[ic]at hne;omega⟩;have hlen:(L.take (j+1)).length=j+1:=by rw[BJ];omega
   have htop:FI (L.take (j+1))=L.getD j default:=by
    unfold FI;rw[hlen,BK,BK,C2,B3 AG];rfl
   have hpop:FR (L.take (j+1))=L.take j:=by
    unfold FR;rw[hlen,List.take_take];congr 1;omega
   have ew:LJ (j+1)=(j:Int):=by
    unfold LJ;rw[show ic (j+1-0)-1=(j:Int) by simp only[ic];omega];exact ER AG AG
   have ej:0+(LJ (j+1)).toNat=j:=by rw[ew];omega
   have ex:pX L (j+1)=FI (L.take (j+1)):=by unfold pX;rw[ej,htop]
   have i2:(AE (0<=LJ (j+1))&&AE (LJ (j+1)<ic (j+1-0)))=AC:=by rw[ew,AL AG,AL (by simp only[ic];omega)];rfl
   have i3:(AE (0<=LJ (j+1))&&AE (LJ (j+1)<=ic (j+1-0)))=AC:=by rw[ew,AL AG,AL (by simp only[ic];omega)];rfl
   have et:EA (L.take (j+1))=EC (FI (L.take (j+1))):=rfl;rw[i2,DS,i3,DS,ej,ex];unfold O3;simp only[hpop,et];generalize FI (L.take (j+1))=y;rcases hcase with⟨hs,rfl⟩|⟨hs,rfl⟩
   .rw[hs,DS,DS,AL (show(out.length+1)*80<=EM by unfold EM;omega),DS,BW]
    have:=uU N l hl d c (i+1) L j (out++[(EC y).I]) most st AG AG AG AG (by simp only[A2,AV,BL];omega) (by rw[show ic j=ic (j+1)-1 by simp only[ic];omega];exact hdp)
    rw[show(out++[(EC y).I]).length=out.length+1 by simp]at this;exact this
   .have hpl:=vM hr hs;obtain⟨a,ha⟩:∃a:Nat,FW x=(a:Int):=⟨(FW x).toNat,by omega⟩;have ha5:a<5:=by omega
    rw[hs,DT,DT,Lj ha ha5,Lj ha ha5];have eg:=bg y ha5;rw[show(FW x).toNat=a by omega,eg];show cond (AE (GY x<cI y (2*a))) _ _=uS (match cond (AE (GY x<cI y (2*a))||decide (GY x>=cI y (2*a+1))) AB _ with|some st'=>JX (l.drop (i+1)) st'|none=>AB);cases AE (GY x<cI y (2*a))with
    |true=>rw[DS,Fa,Bool.true_or,DS];rfl
    |false=>
     rw[DT,vam];cases AE (GY x>=cI y (2*a+1))with
     |true=>rw[DS,Fa,DS];rfl
     |false=>
      have hin:GZ (FW x)=AC:=by unfold GZ;rw[AL hpl.1,AL AG];rfl
      rw[DT,DT,hin,DS,AL (show(j+2)*80<=EM by unfold EM;omega),DS];have e2:∀v1 v2:IV,(L.take j++[v1,v2]).take (j+2)=L.take j++[v1,v2]:=λv1 v2=>C9 (by simp only[A2,BJ,AV,BL];omega)
      have:=uU N l hl d c (i+1) (L.take j++[((EC y).cutH (FW x) (GY x)).I,((EC y).cutL (FW x) (GY x)).I]) (j+2) out (max most (ic (j+1)+1)) st AG AG (by simp only[A2,BJ,AV,BL];omega) AG AG (by rw[show ic (j+2)=ic (j+1)+1 by simp only[ic];omega];exact hdp)
      rw[e2]at this;exact this
theorem zet:D9 PR B0 117 eT:=by
 refine EJ [(124,QG),(173,eR)] [(6,⟨[4,5,6,7,19,20,21],[500,501],[⟨.tmp 6,500,37,AC,E5⟩,⟨.tmp 7,501,37,AC,E5⟩]⟩)] eT [[.list AC [.z,.z,.z,.z,.z,.z,.z,.z,.z,.z]],[.bool]] Tryz.func117 rk ⟨nT,zes,trivial⟩ ?_;intro vs r hwf h;unfold eT at h;split at h
 .rename_i b l;replace h:=H4 h;obtain⟨b,rfl,h⟩:=h;rw[R.get_br]at h;refine⟨l.length+1,(zan (l.length+1) l b).trans ?_⟩;cases hd:AE (MM l>0)with
  |false=>
   have e:L4 b l=AB:=by unfold L4;rw[hd,DT]
   rw[e]at h;rw[BG,DS];exact h
  |true=>
   obtain⟨st,hst⟩:=Eb (BB hd);have hl:l.length<=65536:=by
    have:=BB hd
    unfold MM at this;by_cases hc:ic l.length>65536
    .rw[AL hc,DS]at this;omega
    .simp only[ic]at hc;omega
   have run:=uU (l.length+1) l hl l.length (l.length+1) 0 [b.I] 1 [] 1 st AG AG (A5 _) AG (A5 _) hst;rw[CA]at run;have e:L4 b l=(JX l ([b.I],[])).map (·.2):=by unfold L4;rw[hd,DS]
   rw[A9,DT];refine Eq.trans run ?_;show uS (JX l ([b.I],[]))=_;rw[e]at h;cases hp:JX l ([b.I],[])with
   |none=>rw[hp]at h;exact h
   |some lo=>rw[hp]at h;exact h
 .simp[R.get]at h
open Go Go.Proofs
theorem pT(N:Nat)(ts:LI)(b:Bx)(k:Int)(hts:ts.length<=8)(hT:∀t∈ts,F5 (EU t) 4=AC)(hb:goodB b=AC):∀(m i n:Nat) (lo hi:Int),i+m=ts.length->m<n->(-2147483648*(i+1)<=lo/\lo<=2147483648*(i+1))->(-2147483648*(i+1)<=hi/\hi<=2147483648*(i+1))->
  D7 (HJ N) (DU JK [1,1,1,0,1,0,0]) ⟨[1,5,6,7,8,9,40,41,42],[5],[]⟩ n ⟨[(1,(.i k)),(5,(.ptr 5 0 0)),(6,(.i 0)),(7,(.i 0)),(8,(.i lo)),(9,(.i hi)),(40,(.list AC G3 ts)),(41,(.i (ic ts.length))),(42,(.i (i:Int)))],[(5,(AA (.box (Bx.cs b))))]⟩ (DZ 0 (D1 (HJ N) (DU JK [1,1,1,1]) (D4 (HJ N) AB [(B9 6),(B9 7)] [[.z],[.z]])))=
   AA (.tup [.i (I1 (λl=>G8 l b) k (ts.drop i) lo),.i (I1 (λl=>G7 l b) k (ts.drop i) hi)],[])
 |m,i,0,_,_,_,h,_,_=>absurd h AG
 |0,i,n+1,lo,hi,hd,_,_,_=>by
  have hlt:i=ts.length:=by omega
  subst hlt;rw[ED,Ru,I6 (A5 _),DT,C4];exact gv N b _ _ _ _ _ _ _ _
 |m+1,i,n+1,lo,hi,hd,hn,h1,h2=>by
  have hlt:i<ts.length:=by omega
  have ei:AI AJ ((i:Int)+1)=((i+1:Nat):Int):=GQ AG;rw[ED,Ru,ei,H0 hlt,DS,IG,BX,DS,IK hlt,BD hlt,I1,I1];obtain⟨q1,q2⟩:=jM (EU ts[i]) b;have q1:=LX q1;have q2:=LX q2;have hti:F5 (IV.toList (IV.cell ts[i] 1)) 4=AC:=hT _ (DC hlt);cases((ts[i].cell 0).toInt==k)with
  |true=>
   rw[DS,DS,DS,hti,hb,BX,DS];have ew:AI AJ (lo+G8 (EU ts[i]) b)=lo+G8 (EU ts[i]) b:=ER AG AG;have ew2:AI AJ (hi+G7 (EU ts[i]) b)=hi+G7 (EU ts[i]) b:=ER AG AG;have ih:=pT N ts b k hts hT hb m (i+1) n (lo+G8 (EU ts[i]) b) (hi+G7 (EU ts[i]) b) AG AG AG AG;rw[<-ew,<-ew2]at ih;refine Eq.trans ih ?_;rw[ew,ew2]
  |false=>
   rw[DT,DT,DT];exact pT N ts b k hts hT hb m (i+1) n lo hi AG AG AG AG
theorem zdE:D9 PR B0 175 cY:=by
 refine EJ [(174,LV),(212,cZ),(49,M7)] [(5,⟨[1,5,6,7,8,9,40,41,42],[5],[]⟩)] cY [[.z],[.z]] Tryz.func175 nx ⟨YP,zdF,bJ,trivial⟩ ?_;intro vs r hwf h;unfold cY at h;split at h
 .rename_i m k b;replace h:=IH h;obtain⟨m,rfl,h⟩:=h;replace h:=H4 h;obtain⟨b,rfl,h⟩:=h;cases hg:(b.emp||goodB b)with
  |false=>rw[hg]at h;simp[R.get]at h
  |true=>
  rw[hg,R.get_br,DS,R.get_ok]at h;refine⟨10,?_⟩;rw[<-h];refine(xe 10 m k b).trans ?_;unfold EK EE F9;cases hm:ET m with
  |false=>rfl
  |true=>
   rw[A9,DT];cases h0:AE (k<0)with
   |true=>
    have:GR m k=AD:=by unfold GR;rw[AS (show¬ 0<=k by have:=BB h0;omega)];rfl
    rw[this];rfl
   |false=>
    rw[DT];cases h1:AE (k>=m.c)with
    |true=>
     have:GR m k=AD:=by unfold GR;rw[AS (show¬k<m.c by have:=BB h1;omega),DB]
     rw[this];rfl
    |false=>
     have hc:GR m k=AC:=by unfold GR;rw[AL (show 0<=k by have:=BM h0;omega),AL (show k<m.c by have:=BM h1;omega)];rfl
     rw[DT,hc];cases he:b.emp with
     |true=>rfl
     |false=>
      rw[he,vam]at hg;have hb:=ZS hm k;have run:=pT 10 m.ts b k (JL hm).2.2.1 (λt ht=>bQ hm ht) hg m.ts.length 0 10 (KU m k) (KU m k) AG (by have:=(JL hm).2.2.1;omega) AG AG;rw[DT];rcases gG hm hc with rfl|rfl|rfl<;>exact run
 .simp[R.get]at h
theorem v7(N:Nat)(m:Md)(q:Qy)(b:Bx)(hb:(b.emp||goodB b)=AC):∀(d i n:Nat),((i+d:Nat):Int)=m.c->d<n->m.c<1000->
  D7 (MC N) (DU ON [1,1,1,0,1,0,1,1,1,0,0,1,0,0]) ⟨[3,4,5,6,7,42,43],[3,4,5],[]⟩ n ⟨[(3,(.ptr 3 0 0)),(4,(.ptr 4 0 0)),(5,(.ptr 5 0 0)),(6,(.bool AD)),(7,(.i (EK m q.c b))),(42,(.i m.c)),(43,(.i (i:Int)))],[(3,(AA (.box (Md.cs m)))),(4,(AA (.box (Qy.cs q)))),(5,(AA (.box (Bx.cs b))))]⟩ (DZ 1 (D1 (MC N) (DU ON [1,1,1,0,1,0,1,1,1,0,1]) (DZ 0 (D1 (MC N) (DU ON [1,1,1,1]) (D4 (MC N) AB [(B9 6)] [[.bool]])))))=AA (.bool (XE m q b d i),[])
 |d,i,0,_,h,_=>absurd h AG
 |0,i,n+1,hd,_,_=>by
  rw[ED,Rv,AS (show¬(i:Int)<m.c by omega),DT];exact gw N m q b _ _ _ _
 |d+1,i,n+1,hd,hn,hc=>by
  have ei:AI AJ ((i:Int)+1)=((i+1:Nat):Int):=GQ AG;rw[ED,Rv,ei,AL (show(i:Int)<m.c by omega),DS,hb,DS,XE];have en:((i:Int)!=q.c)=!((i:Int)==q.c):=rfl;rw[en];cases((i:Int)==q.c)with
  |true=>
   rw[A9,DT,BP,DT];exact v7 N m q b hb d (i+1) n AG AG hc
  |false=>
   rw[BG,DS,BE];cases AE (EE m (i:Int) b>=EK m q.c b)with
   |true=>
    rw[DS,DS];exact gx N m q b _ _ _ _
   |false=>
    rw[DT,DT];exact v7 N m q b hb d (i+1) n AG AG hc
theorem zdG:D9 PR B0 118 c5:=by
 refine EJ [(174,LV),(175,cY)] [(9,⟨[3,4,5,6,7,42,43],[3,4,5],[]⟩)] c5 [[.bool]] Tryz.func118 nz ⟨YP,zdE,trivial⟩ ?_;intro vs r hwf h;unfold c5 at h;split at h
 .rename_i m q b;replace h:=IH h;obtain⟨m,rfl,h⟩:=h;replace h:=I2 h;obtain⟨q,rfl,h⟩:=h;replace h:=H4 h;obtain⟨b,rfl,h⟩:=h;cases hg:(E8 m q&&(b.emp||goodB b))with
  |false=>rw[hg]at h;simp[R.get]at h
  |true=>
  rw[hg,R.get_br,DS,R.get_ok]at h;rw[AP]at hg;obtain⟨hr,hb⟩:=hg;have hb':b.emp=AC\/b.good:=by
   rw[vap]at hb;exact hb.imp id aG.1
  refine⟨1000,?_⟩;rw[<-h,<-zdi hr hb'];refine(xf 1000 m q b).trans ?_;obtain⟨hm,_,_,_,hk⟩:=TU hr;unfold v6;cases he:b.emp with
  |true=>rfl
  |false=>
   have hgd:goodB b=AC:=by rw[he,vam]at hb;exact hb
   rw[DT,DT,hgd,vam,DS];rcases aM hk with⟨e,_⟩|⟨e,h2,_⟩|⟨e,hf,_⟩
   .rw[e];show cond (AE (q.lo<=EK m q.c b)) (AA (V.bool (AE (EE m q.c b<=q.hi)),[])) (AA (V.bool AD,[]))=AA (V.bool (AE (q.lo<=EK m q.c b)&&AE (EE m q.c b<=q.hi)),[]);cases AE (q.lo<=EK m q.c b)<;>rfl
   .rw[e];have hc:=(JL hm).2.1;exact v7 1000 m q b (by rw[he,hgd];rfl) m.c.toNat 0 1000 AG AG AG
   .rw[e];have hp:=nG hm e hf;have hg2:goodB (LQ q b)=AC:=aG.2 (VI (aG.1 hgd) ((aG.1 hgd) 4 AG) (by rcases QU hp with e|e|e|e<;>rw[e]<;>decide));have fin:(cond (AE ((b.g q.ft.toNat).lo>=b.s4.hi)) (AA (V.bool AC,[])) (cond ((LQ q b).emp||goodB (LQ q b)) (cond q.fl (AA (V.bool (AE (EE m q.c (LQ q b)<=EK m q.c b)),[])) (AA (V.bool (AE (EK m q.c (LQ q b)>=EE m q.c b)),[]))) AB):DW)=
      AA (V.bool (cond (AE ((b.g q.ft.toNat).lo>=b.s4.hi)) AC (cond q.fl (AE (EE m q.c (LQ q b)<=EK m q.c b)) (AE (EK m q.c (LQ q b)>=EE m q.c b)))),[]):=by
     rw[hg2,Bool.or_true,DS];cases AE ((b.g q.ft.toNat).lo>=b.s4.hi)<;>cases q.fl<;>rfl
    refine Eq.trans ?_ fin;unfold LQ;rcases QU hp with e|e|e|e<;>rw[e]<;>rfl
 .simp[R.get]at h
theorem Lx(N:Nat)(m:Md)(q:Qy)(hr:E8 m q=AC)(l:LI)(hl:l.length<100000)(hg:∀y∈l,(EC y).good):∀(d i n:Nat),i+d=l.length->d<n->
  D7 (KL N) (DU MJ [1,1,1,0,1,0,1,0,1,0,1,0,0]) ⟨[3,4,6,9,29,30,31],[3,4],[]⟩ n ⟨[(3,(.ptr 3 0 0)),(4,(.ptr 4 0 0)),(6,(.bool AD)),(9,(.bool AC)),(29,(.list AC E5 l)),(30,(.i (ic l.length))),(31,(.i (i:Int)))],[(3,(AA (.box (Md.cs m)))),(4,(AA (.box (Qy.cs q))))]⟩ (DZ 1 (D1 (KL N) (DU MJ [1,1,1,0,1,0,1,0,1,1]) (DZ 0 (D1 (KL N) (DU MJ [1,1,1,1]) (D4 (KL N) AB [(B9 6)] [[.bool]])))))=
   AA (.bool ((l.drop i).all λx=>GB m q (EC x)),[])
 |d,i,0,_,h=>absurd h AG
 |0,i,n+1,hd,_=>by
  rw[ED,wT,I6 AG,DT,C1 AG];exact Ez N m q _ _ l _ _
 |d+1,i,n+1,hd,hn=>by
  have hi:i<l.length:=by omega
  have hgi:=hg _ (DC hi);rw[ED,wT,H0 hi,DS,IG,BX,DS,GQ AG,IK hi,BD hi,van,hr,aG.2 hgi,Bool.or_true,BX,DS];cases GB m q (EC l[i])with
  |false=>
   rw[BG,DS];exact gu N m q _ _ l _ _
  |true=>
   rw[A9,DT,BE];exact Lx N m q hr l hl hg d (i+1) n AG AG
theorem zca{b:Bx}{l outs:LI}(h:L4 b l=AA outs):outs.length<=65536:=by
 have key:∀{l:LI} {st lo:LI×LI},JX l st=AA lo->lo.2.length<=st.2.length+l.length:=by
  intro l
  induction l with
  |nil=>intro st lo h;obtain rfl:=CI h;exact A5 _
  |cons x l ih=>
   intro st lo h;rw[JX]at h;cases h1:O3 st x with
   |none=>rw[h1]at h;cases h
   |some s1=>
    rw[h1]at h
    have:=ih h
    have h2:s1.2.length<=st.2.length+1:=by
     unfold O3 at h1;cases hs:I0 x with
     |true=>rw[hs]at h1;obtain rfl:=CI h1;simp
     |false=>
      rw[hs,DT]at h1;cases hc:(AE (GY x<((EA st.1).g (FW x).toNat).lo)||decide (GY x>=((EA st.1).g (FW x).toNat).hi))with
      |true=>rw[hc]at h1;cases h1
      |false=>rw[hc]at h1;obtain rfl:=CI h1;exact Nat.le_succ _
    simp only[AV];omega
 unfold L4 at h;cases hd:AE (MM l>0)with
 |false=>rw[hd,DT]at h;cases h
 |true=>
  rw[hd,DS]at h;have hl:l.length<=65536:=by
   have:=BB hd
   unfold MM at this;by_cases hc:ic l.length>65536
   .rw[AL hc,DS]at this;omega
   .simp only[ic]at hc;omega
  cases hp:JX l ([b.I],[])with
  |none=>rw[hp]at h;cases h
  |some lo=>
   rw[hp]at h;obtain rfl:=CI h
   have:=key hp
   simp only[BL]at this;show lo.2.length<=65536;omega
theorem zdD:D9 PR B0 54 cX:=by
 refine EJ [(119,cS),(118,c5),(117,eT),(62,W0),(93,OK),(38,W1)] [(8,⟨[3,4,6,9,29,30,31],[3,4],[]⟩)] cX [[.bool]] Tryz.func54 nw ⟨zdy,zdG,zet,Qa,jH,Qb,trivial⟩ ?_;intro vs r hwf h;unfold cX at h;split at h
 .rename_i m q v;replace h:=IH h;obtain⟨m,rfl,h⟩:=h;replace h:=I2 h;obtain⟨q,rfl,h⟩:=h;replace h:=zfR h;obtain⟨v,rfl,h⟩:=h;rw[R.get_ok]at h;refine⟨70000,?_⟩;rw[<-h];refine(xd 70000 m q v).trans ?_;unfold P2;cases hr:E8 m q with
  |false=>rfl
  |true=>
   rw[A9,DT,BE];cases v.kind==1 with
   |true=>
    rw[DS,DS];cases hp:L4 (GG q) v.proof with
    |none=>
     show cond AD _ _=_;rw[DT,ED,wT];exact Ez 70000 m q _ _ [] _ _
    |some l=>
     show cond AC _ _=_;rw[DS];have hl:=zca hp
     have:=Lx 70000 m q hr l AG (zb9 (wW hr) hp) l.length 0 70000 AG AG
     rw[CA]at this;exact this
   |false=>
    rw[DT,DT];cases v.kind==2 with
    |false=>rfl
    |true=>
     rw[DS,DS];show cond ((GG q).has v.p v.twin) (AA (V.bool (HK m q v.p v.twin),[])) (AA (V.bool AD,[]))=AA (V.bool ((GG q).has v.p v.twin&&HK m q v.p v.twin),[]);cases(GG q).has v.p v.twin<;>rfl
 .simp[R.get]at h
open Go Go.Proofs
def RC(N:Nat):Env:=EI [] [(4,⟨[2,13,14,15],[],[]⟩)] 37 N
abbrev PF(b2:Bool)(l13:LI)(x14 x15:Int):St:=⟨[(2,(.bool b2)),(13,(.list AC [.bool,.z,.z] l13)),(14,(.i x14)),(15,(.i x15))],[]⟩
theorem xc(N:Nat)(l:LI):EB (RC N) UV [.tmp 2] [[.bool]] [.list AC [.bool,.z,.z] l]=(cond (AE (ic (AN l)<1)) (AA (.bool AD,[])) (cond (AE (ic (AN l)>65536)) (AA (.bool AD,[])) (D7 (RC N) (DU UV [1,1,0,1,0,0]) ⟨[2,13,14,15],[],[]⟩ N (PF AD l (ic (AN l)) 0) (DZ 0 (D1 (RC N) (DU UV [1,1,1]) (D4 (RC N) AB [.tmp 2] [[.bool]])))))):=AF
theorem Rt(N:Nat)(b2:Bool)(l13:LI)(x14 x15:Int)(again:St->DW)(k:Out->St->DW):E3 (RC N) (DU UV [1,1,0,1,0,0]) (PF b2 l13 x14 x15) (ES again ⟨[2,13,14,15],[],[]⟩ k)=(cond (AE (x15<x14)) (cond (AE (0<=x15)&&AE (x15<ic (AN l13))) (cond (IV.toBool (IV.cell (AQ l13 (AM x15) default) 0)) (cond (! (IV.toBool (IV.cell (AQ l13 (AM x15) default) 0)==AC&&(IV.toInt (IV.cell (AQ l13 (AM x15) default) 1)==0&&(IV.toInt (IV.cell (AQ l13 (AM x15) default) 2)==0&&AC)))) (k .ret (PF AD l13 x14 x15)) (cond (AE (IV.toInt (IV.cell (AQ l13 (AM x15) default) 1)<0)) (k .ret (PF AD l13 x14 x15)) (cond (AE (IV.toInt (IV.cell (AQ l13 (AM x15) default) 1)>4)) (k .ret (PF AD l13 x14 x15)) (again (PF b2 l13 x14 (AI AJ (x15+1))))))) (cond (AE (IV.toInt (IV.cell (AQ l13 (AM x15) default) 1)<0)) (k .ret (PF AD l13 x14 x15)) (cond (AE (IV.toInt (IV.cell (AQ l13 (AM x15) default) 1)>4)) (k .ret (PF AD l13 x14 x15)) (again (PF b2 l13 x14 (AI AJ (x15+1))))))) AB) (k (.exit 0) (PF b2 l13 x14 x15))):=AF
theorem gq(N:Nat)(b2:Bool)(l13:LI)(x14 x15:Int):(DZ 0 (D1 (RC N) (DU UV [1,1,1]) (D4 (RC N) AB [.tmp 2] [[.bool]]))) (.exit 0) (PF b2 l13 x14 x15)=(AA (.bool AC,[])):=AF
theorem gt(N:Nat)(b2:Bool)(l13:LI)(x14 x15:Int):(DZ 0 (D1 (RC N) (DU UV [1,1,1]) (D4 (RC N) AB [.tmp 2] [[.bool]]))) .ret (PF b2 l13 x14 x15)=(AA (.bool b2,[])):=AF
def Wo(N:Nat):Env:=EI [(104,cW)] [] 47 N
theorem xa(N:Nat)(u00:Int)(u01:LI)(u04 u05 u06 u07 u03 u02:Int):EB (Wo N) Ac [.tmp 2] [[.bool]] [.agg [.i u00,.list AC [.bool,.z,.z] u01,.i u04,.i u05,.i u06,.i u07,.i u03,.i u02]]=(cond (AE (u02<0)) (AA (.bool AD,[])) (cond (AE (u02>65536)) (AA (.bool AD,[])) (cond (u04==0&&(u05==0&&(u06==0&&(u07==0&&AC)))) (cond (u00==1) (cond (u03==0) (AA (.bool (TZ u01),[])) (AA (.bool AD,[]))) (cond (u00==2) (AA (.bool (ic (AN u01)==0),[])) (cond (u00==3) (cond (u03==0) (AA (.bool (ic (AN u01)==0),[])) (AA (.bool AD,[]))) (cond (u00==4) (cond (u03==0) (AA (.bool (ic (AN u01)==0),[])) (AA (.bool AD,[]))) (AA (.bool AD,[])))))) (cond (u00==1) (AA (.bool AD,[])) (cond (u00==2) (AA (.bool (ic (AN u01)==0),[])) (cond (u00==3) (AA (.bool AD,[])) (cond (u00==4) (AA (.bool AD,[])) (AA (.bool AD,[]))))))))):=AF
def UI(N:Nat):Env:=EI [(42,RI),(105,ZH),(94,UN)] [(2,⟨[0,11,12,13],[900000],[]⟩)] 26 N
abbrev cC(l11:LI)(x12 x13:Int)(u00:BA):St:=⟨[(0,(.ptr 900000 0 0)),(11,(.list AD [.z] l11)),(12,(.i x12)),(13,(.i x13))],[(900000,(AA (.bld u00)))]⟩
theorem xb(N:Nat)(b word:BA)(l:LI):EB (UI N) XG [] [] [.bor [.bld b],.str word,.list AD [.z] l]=(cond (AE (AR b+AR word<=strMax)) (D7 (UI N) (DU XG [1,0,1,0,0]) ⟨[0,11,12,13],[900000],[]⟩ N (cC l (ic (AN l)) 0 (b++word)) (DZ 0 (D1 (UI N) (DU XG [1,1]) (D4 (UI N) (AA [.bld b]) [] [])))) AB):=AF
theorem Rs(N:Nat)(l11:LI)(x12 x13:Int)(u00:BA)(again:St->DW)(k:Out->St->DW):E3 (UI N) (DU XG [1,0,1,0,0]) (cC l11 x12 x13 u00) (ES again ⟨[0,11,12,13],[900000],[]⟩ k)=(cond (AE (x13<x12)) (cond (AE (0<=x13)&&AE (x13<ic (AN l11))) (cond (AE (AR u00+1<=strMax)) (cond (AE (AR (ByteArray.push u00 (NW 32))+AR (D0 (IV.toInt (AQ l11 (AM x13) default)))<=strMax)) (again (cC l11 x12 (AI AJ (x13+1)) (ByteArray.push u00 (NW 32)++D0 (IV.toInt (AQ l11 (AM x13) default))))) AB) AB) AB) (k (.exit 0) (cC l11 x12 x13 u00))):=AF
theorem gn(N:Nat)(b:BA)(l11:LI)(x12 x13:Int)(u00:BA):(DZ 0 (D1 (UI N) (DU XG [1,1]) (D4 (UI N) (AA [.bld b]) [] []))) (.exit 0) (cC l11 x12 x13 u00)=(cond (AE (AR u00+1<=strMax)) (AA (.tup [],[[.bld (ByteArray.push u00 (NW 10))]])) AB):=AF
open Go Go.Proofs
theorem Tt(N:Nat)(l:LI)(K:Out->St->DW)(hl:l.length<=65536)
  (hx:∀b2 x14 x15,K (.exit 0) ⟨[(2,(.bool b2)),(13,(.list AC [.bool,.z,.z] l)),(14,(.i x14)),(15,(.i x15))],[]⟩=AA (.bool AC,[]))
  (hr:∀b2 x14 x15,K .ret ⟨[(2,(.bool b2)),(13,(.list AC [.bool,.z,.z] l)),(14,(.i x14)),(15,(.i x15))],[]⟩=AA (.bool b2,[])):
  ∀(d i n:Nat),i+d=l.length->d<n->D7 (RC N) (DU UV [1,1,0,1,0,0]) ⟨[2,13,14,15],[],[]⟩ n ⟨[(2,(.bool AD)),(13,(.list AC [.bool,.z,.z] l)),(14,(.i (ic l.length))),(15,(.i (i:Int)))],[]⟩ K=AA (.bool ((l.drop i).all bN),[])
 |0,i,n+1,hd,_=>by
  rw[ED,Rt];rw[I6 AG,C1 AG];simp only[BC,List.all_nil];exact hx ..
 |d+1,i,n+1,hd,hn=>by
  rw[ED,Rt];have hi:i<l.length:=by omega
  rw[H0 hi,IG,GQ AG,IK hi,BD hi,van];generalize l[i]=x;have ih:=Tt N l K hl hx hr d (i+1) n AG AG;rw[ih];generalize(A3 (i+1) l).all bN=rest;unfold bN I0 FW GY;simp only[BN,CJ,qE,qF,UQ];cases hs:IV.toBool (IV.cell x 0)<;>cases hp0:AE (IV.toInt (IV.cell x 1)<0)<;>cases hp4:AE (4<IV.toInt (IV.cell x 1))<;>cases hz:AE (IV.toInt (IV.cell x 1)=0)<;>cases ha:AE (IV.toInt (IV.cell x 2)=0)<;>
   (simp only[BN,BC,A9,BG,CJ,DB,BE,BP,DA,hr]
    try rfl)
 |0,_,0,_,h=>by omega
 |_+1,_,0,_,h=>by omega
theorem zdC:D9 PR B0 104 cW:=by
 refine EJ [] [(4,⟨[2,13,14,15],[],[]⟩)] cW [[.bool]] Tryz.func104 nv trivial ?_;intro vs r hwf h;unfold cW at h;split at h
 .rename_i l;refine⟨l.length+1,?_⟩;rw[<-h];refine(xc (l.length+1) l).trans ?_;simp only[R.get_ok];unfold TZ;by_cases h1:l.length<1
  .have e1:AE (ic l.length<1)=AC:=AL (by show((l.length:Nat):Int)<1;omega);have e2:AE (1<=l.length)=AD:=AS AG;rw[e1,e2];rfl
  .have e1:AE (ic l.length<1)=AD:=AS (by show¬((l.length:Nat):Int)<1;omega);have e2:AE (1<=l.length)=AC:=AL AG;rw[e1,e2];simp only[BC,BE];by_cases h3:l.length<=65536
   .have e3:AE (ic l.length>65536)=AD:=AS (by show¬((l.length:Nat):Int)>65536;omega);have e4:AE (l.length<=65536)=AC:=AL h3;rw[e3,e4];simp only[BC,BE]
    have:=Tt (l.length+1) l _ h3 (λb2 x14 x15=>gq (l.length+1) b2 l x14 x15) (λb2 x14 x15=>gt (l.length+1) b2 l x14 x15) l.length 0 (l.length+1) AG AG
    rw[CA]at this;exact this
   .have e3:AE (ic l.length>65536)=AC:=AL (by show((l.length:Nat):Int)>65536;omega);have e4:AE (l.length<=65536)=AD:=AS h3;rw[e3,e4];rfl
 .simp[R.get]at h
theorem ut(l:LI):(ic l.length==0)=l.isEmpty:=by
 cases l with
 |nil=>rfl
 |cons a l=>
  simp only[ic,List.isEmpty_cons,AV];rw[BI];omega
theorem zdA:D9 PR B0 45 cU:=by
 refine EJ [(104,cW)] [] cU [[.bool]] Tryz.func45 nq ⟨zdC,trivial⟩ ?_;intro vs r hwf h;unfold cU at h;split at h
 .rename_i k p a b c d t s;refine⟨0,?_⟩;rw[<-h];refine(xa 0 k p a b c d t s).trans ?_;simp only[R.get_ok,ut];unfold Vd.right Vd.bare;simp only[qE,qF,CJ];generalize TZ p=sp;generalize p.isEmpty=pe;cases AE (s<0)<;>cases AE (65536<s)<;>simp only[BN,BC,A9,BG,BE,BP]
  by_cases k1:k=1
  .subst k1;cases a==0<;>cases b==0<;>cases c==0<;>cases d==0<;>cases t==0<;>cases sp<;>cases pe<;>rfl
  by_cases k2:k=2
  .subst k2;cases a==0<;>cases b==0<;>cases c==0<;>cases d==0<;>cases t==0<;>cases sp<;>cases pe<;>rfl
  by_cases k3:k=3
  .subst k3;cases a==0<;>cases b==0<;>cases c==0<;>cases d==0<;>cases t==0<;>cases sp<;>cases pe<;>rfl
  by_cases k4:k=4
  .subst k4;cases a==0<;>cases b==0<;>cases c==0<;>cases d==0<;>cases t==0<;>cases sp<;>cases pe<;>rfl
  simp only[BI.2 k1,BI.2 k2,BI.2 k3,BI.2 k4,BC,BP,Bool.or_false,Bool.cond_self]
 .simp[R.get]at h
theorem m6:∀(l:LI) (s:BA),s.size<=(PZ s l).size
 |[],s=>A5 _
 |x::l,s=>by
  simp only[PZ];refine DF ?_ (m6 l _);simp only[A7,va6];omega
theorem Ie(N:Nat)(l:LI)(K:Out->St->DW)(hl:l.length<=strMax)(z:DW)
  (hx:∀s x12 x13,s=PZ s []->K (.exit 0) ⟨[(0,(.ptr 900000 0 0)),(11,(.list AD [.z] l)),(12,(.i x12)),(13,(.i x13))],[(900000,(AA (.bld s)))]⟩=cond (AE (s.size+1<=strMax)) (AA (.tup [],[[.bld (s.push (NW 10))]])) AB):
  ∀(d i n:Nat) (s:BA),i+d=l.length->d<n->(PZ s (l.drop i)).size<=strMax->D7 (UI N) (DU XG [1,0,1,0,0]) ⟨[0,11,12,13],[900000],[]⟩ n ⟨[(0,(.ptr 900000 0 0)),(11,(.list AD [.z] l)),(12,(.i (ic l.length))),(13,(.i (i:Int)))],[(900000,(AA (.bld s)))]⟩ K=
   cond (AE ((PZ s (l.drop i)).size+1<=strMax)) (AA (.tup [],[[.bld ((PZ s (l.drop i)).push (NW 10))]])) AB
 |0,i,n+1,s,hd,_,_=>by
  rw[ED,Rs,I6 AG,C1 AG];simp only[BC,PZ];exact hx s _ _ rfl
 |d+1,i,n+1,s,hd,hn,hs=>by
  have hi:i<l.length:=by omega
  unfold strMax at hl;rw[ED,Rs,H0 hi,IG,GQ AG,IK hi];rw[BD hi]at hs ⊢;simp only[PZ]at hs ⊢;have e32:NW 32=32:=rfl;rw[e32];have hsz:=m6 (l.drop (i+1)) (s.push 32++D0 l[i].toInt);have h1:AE (s.size+1<=strMax)=AC:=AL (by
   simp only[A7,va6]at hsz;omega)
  have h2:AE ((s.push 32).size+(D0 l[i].toInt).size<=strMax)=AC:=AL (by
   simp only[A7]at hsz;omega)
  rw[h1,h2];simp only[BN,CJ];exact Ie N l K (by unfold strMax;omega) z hx d (i+1) n _ AG AG hs
 |0,_,0,_,_,h,_=>by omega
 |_+1,_,0,_,_,h,_=>by omega
theorem zdB:D9 PR B0 46 cV:=by
 refine EJ [(42,RI),(105,ZH),(94,UN)] [(2,⟨[0,11,12,13],[900000],[]⟩)] cV [] Tryz.func46 nu ⟨nV,Qh,wN,trivial⟩ ?_;intro vs r hwf h;unfold cV at h;split at h
 .rename_i s w l;refine⟨l.length+1,?_⟩;rw[<-h];refine(xb (l.length+1) s w l).trans ?_;simp only[R.get_br,R.get_ok,R.get_no];have hwf:=hwf (by simp[K4,FX]);simp only[T5,QC,wfLs,wfL]at hwf;rw[R.get_br,R.get_ok,R.get_no]at h;cases hc:AE ((HL s w l).size<=strMax)with
  |false=>rw[hc]at h;cases h
  |true=>
   have hle:=BB hc;unfold HL at hle ⊢;rw[va6]at hle;have h1:=m6 l (s++w);have e1:AE (s.size+w.size<=strMax)=AC:=AL (by rw[A7]at h1;omega);rw[e1];simp only[BN]
   have:=Ie (l.length+1) l _ hwf.2.2.1.1 AB (λs' x12 x13 _=>gn (l.length+1) s l x12 x13 s') l.length 0 (l.length+1) (s++w) AG AG (by rw[CA];omega)
   rw[CA]at this;refine this.trans ?_;rw[AL hle];rfl
 .simp[R.get]at h
open Go Go.Proofs
def UH(N:Nat):Env:=EI [(45,cU),(46,cV),(47,UM)] [(9,⟨[2,3,25,26,27],[3],[]⟩)] 61 N
abbrev Y2(s2:BA)(l25:LI)(x26 x27:Int)(so3:BA):St:=⟨[(2,(.str s2)),(3,(.ptr 3 0 0)),(25,(.list AC EX l25)),(26,(.i x26)),(27,(.i x27))],[(3,(AA (.bld so3)))]⟩
theorem wz(N:Nat)(v:Vd):EB (UH N) XF [.tmp 2] [[.str]] [(Vd.V v)]=(cond (!Vd.right v) (AA ((.str ({data:=#[]})),[])) (cond (Vd.kind v==1) (cond (AE (AR (HL CQ {data:=#[104,111,108,100,115]} [IV.int (Vd.spent v),IV.int (ic (AN (Vd.proof v)))])<=strMax)) (D7 (UH N) (DU XF [1,1,1,0,1,0,1,0,1,1,0,0]) ⟨[2,3,25,26,27],[3],[]⟩ N (Y2 ({data:=#[]}) (Vd.proof v) (ic (AN (Vd.proof v))) 0 (HL CQ {data:=#[104,111,108,100,115]} [IV.int (Vd.spent v),IV.int (ic (AN (Vd.proof v)))])) (DZ 1 (DZ 0 (D1 (UH N) (DU XF [1,1,1,1]) (D4 (UH N) AB [.tmp 2] [[.str]]))))) AB) (cond (Vd.kind v==2) (cond (AE (AR (HL CQ {data:=#[102,97,105,108,115]} (A3 0 (AU (1+4+1) (AU (1+4) (AU 1 [IV.int (Vd.spent v)]++[IV.int (Vd.w0 v),IV.int (Vd.w1 v),IV.int (Vd.w2 v),IV.int (Vd.w3 v)])++[IV.int (Vd.twin v)]))))<=strMax)) (AA ((.str (HL CQ {data:=#[102,97,105,108,115]} (A3 0 (AU (1+4+1) (AU (1+4) (AU 1 [IV.int (Vd.spent v)]++[IV.int (Vd.w0 v),IV.int (Vd.w1 v),IV.int (Vd.w2 v),IV.int (Vd.w3 v)])++[IV.int (Vd.twin v)]))))),[])) AB) (cond (Vd.kind v==3) (cond (AE (AR (HL CQ {data:=#[117,110,107,110,111,119,110]} [IV.int (Vd.spent v)])<=strMax)) (AA ((.str (HL CQ {data:=#[117,110,107,110,111,119,110]} [IV.int (Vd.spent v)])),[])) AB) (cond (AE (AR (HL CQ {data:=#[119,114,111,110,103]} [IV.int (Vd.spent v)])<=strMax)) (AA ((.str (HL CQ {data:=#[119,114,111,110,103]} [IV.int (Vd.spent v)])),[])) AB))))):=AF
theorem Rr(N:Nat)(s2:BA)(l25:LI)(x26 x27:Int)(so3:BA)(again:St->DW)(k:Out->St->DW):E3 (UH N) (DU XF [1,1,1,0,1,0,1,0,1,1,0,0]) (Y2 s2 l25 x26 x27 so3) (ES again ⟨[2,3,25,26,27],[3],[]⟩ k)=(cond (AE (x27<x26)) (cond (AE (0<=x27)&&AE (x27<ic (AN l25))) (cond (IV.toBool (IV.cell (AQ l25 (AM x27) default) 0)) (cond (AE (AR (HL so3 {data:=#[115,117,109]} [])<=strMax)) (again (Y2 s2 l25 x26 (AI AJ (x27+1)) (HL so3 {data:=#[115,117,109]} []))) AB) (cond (AE (AR (HL so3 {data:=#[99,117,116]} [IV.int (IV.toInt (IV.cell (AQ l25 (AM x27) default) 1)),IV.int (IV.toInt (IV.cell (AQ l25 (AM x27) default) 2))])<=strMax)) (again (Y2 s2 l25 x26 (AI AJ (x27+1)) (HL so3 {data:=#[99,117,116]} [IV.int (IV.toInt (IV.cell (AQ l25 (AM x27) default) 1)),IV.int (IV.toInt (IV.cell (AQ l25 (AM x27) default) 2))]))) AB)) AB) (k (.exit 1) (Y2 s2 l25 x26 x27 so3))):=AF
theorem gl(N:Nat)(s2:BA)(l25:LI)(x26 x27:Int)(so3:BA):(DZ 1 (DZ 0 (D1 (UH N) (DU XF [1,1,1,1]) (D4 (UH N) AB [.tmp 2] [[.str]])))) (.exit 1) (Y2 s2 l25 x26 x27 so3)=(AA (.str so3,[])):=AF
end Go.FM
