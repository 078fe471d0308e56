/-
  A small machine that reads a function of the program and reckons what a call of it comes to; what Go's library on the road comes to; the functions of the program, one by one. No conditions beyond each specification's own. (NORMAL FORMS: what the functions' runs come to (written by a, NORMAL FORMS: what the functions' runs come to (written by a, THE FUNCTIONS OF span, box, tree, model, query, couple, ON T, and so on.)
-/
import Derived.Test.YteobmdbbmamadaaGreatDoorPc

namespace Go.FM
open Go Go.Proofs
def z10 (N:Nat):Env:=mkI [(39,z1u),(88,z1y)] [(101,zlw),(100,y6b)] [(5,⟨[1,4,5,16,17,18],[500],[⟨.tmp 5,500,3,false,[.int .i64]⟩]⟩),(8,⟨[1,4,5,16,17,18,23,24,25],[500],[⟨.tmp 5,500,3,false,[.int .i64]⟩]⟩)] 54 N
theorem zjr (N:Nat) (m:Md) (feature:Int):z16 (z10 N) z14 [.tmp 4] [] [(Md.V m),(.int .i64 feature)] =
 (cond (!z1s m)
 (some (.any,[]))
 (lpE (z10 N) (z0l z14 [1,1,1,0,1,0,0]) ⟨[1,4,5,16,17,18],[500],[⟨(.tmp 5),500,3,false,[(.int .i64)]⟩]⟩ N ⟨[(1,(.int .i64 feature)),(4,.zs),(5,(.row 500 0 0)),(16,(.list true z30 (Md.ts m))),(17,(.int .i64 (ic (List.length (Md.ts m))))),(18,(.int .i64 0))],[(500,(some (.row true 3 false [(.int .i64)] [])))]⟩ (z08 0 (kSq (z10 N) (z0l z14 [1,1,1,1]) (z2w (z10 N) none [(ResultVar.tmp 4)] []))))):=by kernel_rfl
theorem zaa (N:Nat) (x1:Int) (n5:Nat) (l16:List IV) (x17:Int) (x18:Int) (lo500:List IV) (again:St→Res) (k:Out→St→Res):rnd (z10 N) (z0l z14 [1,1,1,0,1,0,0])
 ⟨[(1,(.int .i64 x1)),(4,.zs),(5,(.row 500 0 n5)),(16,(.list true z30 l16)),(17,(.int .i64 x17)),(18,(.int .i64 x18))],[(500,(some (.row true 3 false [(.int .i64)] lo500)))]⟩
 (z57 again ⟨[1,4,5,16,17,18],[500],[⟨(.tmp 5),500,3,false,[(.int .i64)]⟩]⟩ k) =
 (cond (decide (x18 < x17))
 (cond (decide (0≤x18)&&decide (x18 < ic (List.length l16)))
 (lpE (z10 N) (z0l z14 [1,1,1,0,1,0,0,1,1,0,0,1,1,0,0]) ⟨[1,4,5,16,17,18,23,24,25],[500],[⟨(.tmp 5),500,3,false,[(.int .i64)]⟩]⟩ N ⟨[(1,(.int .i64 x1)),(4,.zs),(5,(.row 500 0 n5)),(16,(.list true z30 l16)),(17,(.int .i64 x17)),(18,(.int .i64 x18)),(23,(.list false [(.int .u64)] (IV.toList (IV.cell (List.getD l16 (Int.toNat x18) default) 1)))),(24,(.int .i64 (ic (List.length (IV.toList (IV.cell (List.getD l16 (Int.toNat x18) default) 1)))))),(25,(.int .i64 0))],[(500,(some (.row true 3 false [(.int .i64)] lo500)))]⟩ (z08 2 (z08 1 (kSq (z10 N) (z0l z14 [1,1,1,0,1,0,0,1,1,1]) (z57 again ⟨[1,4,5,16,17,18],[500],[⟨(.tmp 5),500,3,false,[(.int .i64)]⟩]⟩ k)))))
 none)
 (k (.exit 0) ⟨[(1,(.int .i64 x1)),(4,.zs),(5,(.row 500 0 n5)),(16,(.list true z30 l16)),(17,(.int .i64 x17)),(18,(.int .i64 x18))],[(500,(some (.row true 3 false [(.int .i64)] lo500)))]⟩)):=by kernel_rfl
theorem za7 (N:Nat) (x1:Int) (n5:Nat) (l16:List IV) (x17:Int) (x18:Int) (l23:List IV) (x24:Int) (x25:Int) (lo500:List IV) (again:St→Res) (k:Out→St→Res):rnd (z10 N) (z0l z14 [1,1,1,0,1,0,0,1,1,0,0,1,1,0,0])
 ⟨[(1,(.int .i64 x1)),(4,.zs),(5,(.row 500 0 n5)),(16,(.list true z30 l16)),(17,(.int .i64 x17)),(18,(.int .i64 x18)),(23,(.list false [(.int .u64)] l23)),(24,(.int .i64 x24)),(25,(.int .i64 x25))],[(500,(some (.row true 3 false [(.int .i64)] lo500)))]⟩
 (z57 again ⟨[1,4,5,16,17,18,23,24,25],[500],[⟨(.tmp 5),500,3,false,[(.int .i64)]⟩]⟩ k) =
 (cond (decide (x25 < x24))
 (cond (decide (0≤x25)&&decide (x25 < ic (List.length l23)))
 (cond (!Nd.lf (z07 (IV.toInt (List.getD l23 (Int.toNat x25) default))))
 (cond (Nd.f (z07 (IV.toInt (List.getD l23 (Int.toNat x25) default)))==x1)
 (cond (decide ((n5+1)*8≤z0d))
 (again ⟨[(1,(.int .i64 x1)),(4,.zs),(5,(.row 500 0 (n5+1))),(16,(.list true z30 l16)),(17,(.int .i64 x17)),(18,(.int .i64 x18)),(23,(.list false [(.int .u64)] l23)),(24,(.int .i64 x24)),(25,(.int .i64 (IntKind.wrap IntKind.i64 (x25+1))))],[(500,(some (.row true 3 false [(.int .i64)] (List.take n5 lo500++[IV.int (Nd.a (z07 (IV.toInt (List.getD l23 (Int.toNat x25) default))))]))))]⟩)
 none)
 (again ⟨[(1,(.int .i64 x1)),(4,.zs),(5,(.row 500 0 n5)),(16,(.list true z30 l16)),(17,(.int .i64 x17)),(18,(.int .i64 x18)),(23,(.list false [(.int .u64)] l23)),(24,(.int .i64 x24)),(25,(.int .i64 (IntKind.wrap IntKind.i64 (x25+1))))],[(500,(some (.row true 3 false [(.int .i64)] lo500)))]⟩))
 (again ⟨[(1,(.int .i64 x1)),(4,.zs),(5,(.row 500 0 n5)),(16,(.list true z30 l16)),(17,(.int .i64 x17)),(18,(.int .i64 x18)),(23,(.list false [(.int .u64)] l23)),(24,(.int .i64 x24)),(25,(.int .i64 (IntKind.wrap IntKind.i64 (x25+1))))],[(500,(some (.row true 3 false [(.int .i64)] lo500)))]⟩))
 none)
 (k (.exit 2) ⟨[(1,(.int .i64 x1)),(4,.zs),(5,(.row 500 0 n5)),(16,(.list true z30 l16)),(17,(.int .i64 x17)),(18,(.int .i64 x18)),(23,(.list false [(.int .u64)] l23)),(24,(.int .i64 x24)),(25,(.int .i64 x25))],[(500,(some (.row true 3 false [(.int .i64)] lo500)))]⟩)):=by kernel_rfl
theorem zep (N:Nat) (x1:Int) (n5:Nat) (l16:List IV) (x17:Int) (x18:Int) (lo500:List IV):(z08 0 (kSq (z10 N) (z0l z14 [1,1,1,1]) (z2w (z10 N) none [(ResultVar.tmp 4)] []))) (.exit 0)
 ⟨[(1,(.int .i64 x1)),(4,.zs),(5,(.row 500 0 n5)),(16,(.list true z30 l16)),(17,(.int .i64 x17)),(18,(.int .i64 x18))],[(500,(some (.row true 3 false [(.int .i64)] lo500)))]⟩ =
 (cond (Nat.beq n5 (List.length lo500))
 (cond (Nat.beq (List.length (iZ (zgj (List.map IV.toInt lo500)))) (List.length lo500))
 (cond (Nat.beq n5 (List.length (iZ (zgj (List.map IV.toInt lo500)))))
 (cond (Nat.ble (List.length (iZ (zxe (List.map IV.toInt (iZ (zgj (List.map IV.toInt lo500))))))) (List.length (iZ (zgj (List.map IV.toInt lo500)))))
 (some ((.vec 3 false [(.int .i64)] (List.take (List.length (iZ (zxe (List.map IV.toInt (iZ (zgj (List.map IV.toInt lo500))))))) (iZ (zxe (List.map IV.toInt (iZ (zgj (List.map IV.toInt lo500)))))))),[]))
 none)
 none)
 none)
 none):=by kernel_rfl
theorem zfn (N:Nat) (again:St→Res) (k:Out→St→Res) (x1:Int) (n5:Nat) (l16:List IV) (x17:Int) (x18:Int) (l23:List IV) (x24:Int) (x25:Int) (lo500:List IV):(z08 2 (z08 1 (kSq (z10 N) (z0l z14 [1,1,1,0,1,0,0,1,1,1]) (z57 again ⟨[1,4,5,16,17,18],[500],[⟨(.tmp 5),500,3,false,[(.int .i64)]⟩]⟩ k)))) (.exit 2)
 ⟨[(1,(.int .i64 x1)),(4,.zs),(5,(.row 500 0 n5)),(16,(.list true z30 l16)),(17,(.int .i64 x17)),(18,(.int .i64 x18)),(23,(.list false [(.int .u64)] l23)),(24,(.int .i64 x24)),(25,(.int .i64 x25))],[(500,(some (.row true 3 false [(.int .i64)] lo500)))]⟩ =
 (again ⟨[(1,(.int .i64 x1)),(4,.zs),(5,(.row 500 0 n5)),(16,(.list true z30 l16)),(17,(.int .i64 x17)),(18,(.int .i64 (IntKind.wrap IntKind.i64 (x18+1))))],[(500,(some (.row true 3 false [(.int .i64)] lo500)))]⟩):=by kernel_rfl
def ztl (N:Nat):Env:=mkE [] [] 23 N
theorem zrx (N:Nat) (q:Qy) (place:Int):z16 (ztl N) zjb [.tmp 4] [[.int .i64]] [(Qy.V q),(.int .i64 place)] =
 (cond (decide (place≥0))
 (cond (decide (place < 4))
 (some ((.int .i64 place),[]))
 (cond (place==4) (cond (Qy.k q==3) (some ((.int .i64 (Qy.ft q)),[])) (some ((.int .i64 (-1)),[]))) (some ((.int .i64 (-1)),[]))))
 (cond (place==4) (cond (Qy.k q==3) (some ((.int .i64 (Qy.ft q)),[])) (some ((.int .i64 (-1)),[]))) (some ((.int .i64 (-1)),[])))):=by kernel_rfl
def zqs (N:Nat):Env:=mkI [(81,z7g),(83,z4p)] [(82,zpq)] [] 24 N
def y14 (N:Nat):Env:=mkE [] [] 71 N
theorem zwj (N:Nat) (m:Md) (a1:Qy):z16 (y14 N) zoj [.tmp 4] [[.bool]] [(Md.V m),(Qy.V a1)] =
 (cond (Qy.k a1==1)
 (cond (decide (Qy.lo a1≤Qy.hi a1)) (cond (Qy.ft a1==0) (some ((.bool (!Qy.fl a1)),[])) (some ((.bool false),[]))) (some ((.bool false),[])))
 (cond (Qy.k a1==2)
 (cond (decide (Md.c m≥2))
 (cond (Qy.lo a1==0)
 (cond (Qy.hi a1==0) (cond (Qy.ft a1==0) (some ((.bool (!Qy.fl a1)),[])) (some ((.bool false),[]))) (some ((.bool false),[])))
 (some ((.bool false),[])))
 (some ((.bool false),[])))
 (cond (Qy.k a1==3)
 (cond (decide (Qy.ft a1≥0))
 (cond (decide (Qy.ft a1 < Md.d m)) (cond (Qy.lo a1==0) (some ((.bool (Qy.hi a1==0)),[])) (some ((.bool false),[]))) (some ((.bool false),[])))
 (some ((.bool false),[])))
 (some ((.bool false),[]))))):=by kernel_rfl
def zyk (N:Nat):Env:=mkE [(39,z1u),(41,zae),(40,z7e)] [] 41 N
theorem zu7 (N:Nat) (m:Md) (q:Qy):z16 (zyk N) zlf [.tmp 4] [[.bool]] [(Md.V m),(Qy.V q)] =
 (cond (z1s m)
 (cond (decide (Qy.c q≥0))
 (cond (decide (Qy.c q < Md.c m))
 (cond (decide (Qy.bu q≥0))
 (cond (decide (Qy.bu q≤65536))
 (cond (zrn {s0:={lo:=Qy.a0 q,hi:=Qy.b0 q},s1:={lo:=Qy.a1 q,hi:=Qy.b1 q},s2:={lo:=Qy.a2 q,hi:=Qy.b2 q},s3:={lo:=Qy.a3 q,hi:=Qy.b3 q},s4:={lo:=Qy.a4 q,hi:=Qy.b4 q}} (Md.d m))
 (some ((.bool (zu8 m q)),[]))
 (some ((.bool false),[])))
 (some ((.bool false),[])))
 (some ((.bool false),[])))
 (some ((.bool false),[])))
 (some ((.bool false),[])))
 (some ((.bool false),[]))):=by kernel_rfl
def zuf (N:Nat):Env:=mkE [] [] 16 N
theorem zqj (N:Nat) (q:Qy):z16 (zuf N) zje [.tmp 2] [[.bool]] [(Qy.V q)] =
 (cond (Qy.k q==3) (cond (decide (Qy.ft q≥0)) (some ((.bool (decide (Qy.ft q < 4))),[])) (some ((.bool false),[]))) (some ((.bool false),[]))):=by kernel_rfl
def zyu (N:Nat):Env:=mkE [(42,z4v)] [] 16 N
theorem zt3 (N:Nat) (q:Qy):z16 (zyu N) zla [.cell 2 36] [[.int .i64,.int .i64,.int .i64,.int .i64,.int .i64,.int .i64,.int .i64,.int .i64,.int .i64,.int .i64]] [(Qy.V q)] =
 (cond (z42 q)
 (cond (decide (Qy.ft q=ic 0))
 (some ((.agg [(.int .i64 (Qy.a0 q)),(.int .i64 (Qy.b0 q)),(.int .i64 (Qy.a1 q)),(.int .i64 (Qy.b1 q)),(.int .i64 (Qy.a2 q)),(.int .i64 (Qy.b2 q)),(.int .i64 (Qy.a3 q)),(.int .i64 (Qy.b3 q)),(.int .i64 (Qy.a0 q)),(.int .i64 (Qy.b0 q))]),[]))
 (cond (decide (Qy.ft q=ic 1))
 (some ((.agg [(.int .i64 (Qy.a0 q)),(.int .i64 (Qy.b0 q)),(.int .i64 (Qy.a1 q)),(.int .i64 (Qy.b1 q)),(.int .i64 (Qy.a2 q)),(.int .i64 (Qy.b2 q)),(.int .i64 (Qy.a3 q)),(.int .i64 (Qy.b3 q)),(.int .i64 (Qy.a1 q)),(.int .i64 (Qy.b1 q))]),[]))
 (cond (decide (Qy.ft q=ic 2))
 (some ((.agg [(.int .i64 (Qy.a0 q)),(.int .i64 (Qy.b0 q)),(.int .i64 (Qy.a1 q)),(.int .i64 (Qy.b1 q)),(.int .i64 (Qy.a2 q)),(.int .i64 (Qy.b2 q)),(.int .i64 (Qy.a3 q)),(.int .i64 (Qy.b3 q)),(.int .i64 (Qy.a2 q)),(.int .i64 (Qy.b2 q))]),[]))
 (cond (decide (Qy.ft q=ic 3))
 (some ((.agg [(.int .i64 (Qy.a0 q)),(.int .i64 (Qy.b0 q)),(.int .i64 (Qy.a1 q)),(.int .i64 (Qy.b1 q)),(.int .i64 (Qy.a2 q)),(.int .i64 (Qy.b2 q)),(.int .i64 (Qy.a3 q)),(.int .i64 (Qy.b3 q)),(.int .i64 (Qy.a3 q)),(.int .i64 (Qy.b3 q))]),[]))
 (cond (decide (Qy.ft q=ic 4))
 (some ((.agg [(.int .i64 (Qy.a0 q)),(.int .i64 (Qy.b0 q)),(.int .i64 (Qy.a1 q)),(.int .i64 (Qy.b1 q)),(.int .i64 (Qy.a2 q)),(.int .i64 (Qy.b2 q)),(.int .i64 (Qy.a3 q)),(.int .i64 (Qy.b3 q)),(.int .i64 0),(.int .i64 0)]),[]))
 none)))))
 (some ((.agg [(.int .i64 (Qy.a0 q)),(.int .i64 (Qy.b0 q)),(.int .i64 (Qy.a1 q)),(.int .i64 (Qy.b1 q)),(.int .i64 (Qy.a2 q)),(.int .i64 (Qy.b2 q)),(.int .i64 (Qy.a3 q)),(.int .i64 (Qy.b3 q)),(.int .i64 0),(.int .i64 0)]),[]))):=by kernel_rfl
def zu5 (N:Nat):Env:=mkE [(42,z4v)] [] 14 N
theorem zqd (N:Nat) (q:Qy) (p:Pt) (twin:Int):z16 (zu5 N) zjd [.cell 6 43] [[.int .i64,.int .i64,.int .i64,.int .i64]] [(Qy.V q),(Pt.V p),(.int .i64 twin)] =
 (cond (z42 q)
 (cond (decide (Qy.ft q=ic 0))
 (some ((.agg [(.int .i64 twin),(.int .i64 (Pt.p1 p)),(.int .i64 (Pt.p2 p)),(.int .i64 (Pt.p3 p))]),[]))
 (cond (decide (Qy.ft q=ic 1))
 (some ((.agg [(.int .i64 (Pt.p0 p)),(.int .i64 twin),(.int .i64 (Pt.p2 p)),(.int .i64 (Pt.p3 p))]),[]))
 (cond (decide (Qy.ft q=ic 2))
 (some ((.agg [(.int .i64 (Pt.p0 p)),(.int .i64 (Pt.p1 p)),(.int .i64 twin),(.int .i64 (Pt.p3 p))]),[]))
 (cond (decide (Qy.ft q=ic 3)) (some ((.agg [(.int .i64 (Pt.p0 p)),(.int .i64 (Pt.p1 p)),(.int .i64 (Pt.p2 p)),(.int .i64 twin)]),[])) none))))
 (some ((Pt.V p),[]))):=by kernel_rfl
def z19 (N:Nat):Env:=mkE [(46,zaf),(20,z2t),(47,z72),(45,z9b)] [(9,⟨[4,5,6,8,9,36,37],[4,5,6],[]⟩)] 75 N
theorem zsz (N:Nat) (m:Md) (a1:Qy) (a2:Pt) (a3:Int):z16 (z19 N) z1k [.tmp 8] [[.bool]] [(Md.V m),(Qy.V a1),(Pt.V a2),(.int .i64 a3)] =
 (cond (!z1q m a1)
 (some ((.bool false),[]))
 (cond (Qy.k a1==1)
 (some ((.bool (!Sp.has {lo:=Qy.lo a1,hi:=Qy.hi a1} (z2a m (Qy.c a1) a2))),[]))
 (cond (Qy.k a1==2)
 (lpE (z19 N) (z0l z1k [1,1,1,0,1,0,1,1,1,0,0,1,0,0]) ⟨[4,5,6,8,9,36,37],[4,5,6],[]⟩ N ⟨[(4,(.ptr 4 0 0)),(5,(.ptr 5 0 0)),(6,(.ptr 6 0 0)),(8,(.bool false)),(9,(.int .i64 (z2a m (Qy.c a1) a2))),(36,(.int .i64 (Md.c m))),(37,(.int .i64 0))],[(4,(some (.box (Md.cs m)))),(5,(some (.box (Qy.cs a1)))),(6,(some (.box (Pt.cs a2))))]⟩ (z08 1 (kSq (z19 N) (z0l z1k [1,1,1,0,1,0,1,1,1,0,1]) (z08 0 (kSq (z19 N) (z0l z1k [1,1,1,1]) (z2w (z19 N) none [(ResultVar.tmp 8)] [[.bool]]))))))
 (cond (decide (Qy.ft a1=ic 0))
 (cond (decide (Pt.p0 a2≥a3))
 (some ((.bool false),[]))
 (cond (Qy.fl a1)
 (some ((.bool (decide (z2a m (Qy.c a1) (z4h a1 a2 a3) > z2a m (Qy.c a1) a2))),[]))
 (some ((.bool (decide (z2a m (Qy.c a1) (z4h a1 a2 a3) < z2a m (Qy.c a1) a2))),[]))))
 (cond (decide (Qy.ft a1=ic 1))
 (cond (decide (Pt.p1 a2≥a3))
 (some ((.bool false),[]))
 (cond (Qy.fl a1)
 (some ((.bool (decide (z2a m (Qy.c a1) (z4h a1 a2 a3) > z2a m (Qy.c a1) a2))),[]))
 (some ((.bool (decide (z2a m (Qy.c a1) (z4h a1 a2 a3) < z2a m (Qy.c a1) a2))),[]))))
 (cond (decide (Qy.ft a1=ic 2))
 (cond (decide (Pt.p2 a2≥a3))
 (some ((.bool false),[]))
 (cond (Qy.fl a1)
 (some ((.bool (decide (z2a m (Qy.c a1) (z4h a1 a2 a3) > z2a m (Qy.c a1) a2))),[]))
 (some ((.bool (decide (z2a m (Qy.c a1) (z4h a1 a2 a3) < z2a m (Qy.c a1) a2))),[]))))
 (cond (decide (Qy.ft a1=ic 3))
 (cond (decide (Pt.p3 a2≥a3))
 (some ((.bool false),[]))
 (cond (Qy.fl a1)
 (some ((.bool (decide (z2a m (Qy.c a1) (z4h a1 a2 a3) > z2a m (Qy.c a1) a2))),[]))
 (some ((.bool (decide (z2a m (Qy.c a1) (z4h a1 a2 a3) < z2a m (Qy.c a1) a2))),[]))))
 none))))))):=by kernel_rfl
theorem zef (N:Nat) (m:Md) (a1:Qy) (a2:Pt) (b8:Bool) (x9:Int) (x36:Int) (x37:Int) (again:St→Res) (k:Out→St→Res):rnd (z19 N) (z0l z1k [1,1,1,0,1,0,1,1,1,0,0,1,0,0])
 ⟨[(4,(.ptr 4 0 0)),(5,(.ptr 5 0 0)),(6,(.ptr 6 0 0)),(8,(.bool b8)),(9,(.int .i64 x9)),(36,(.int .i64 x36)),(37,(.int .i64 x37))],[(4,(some (.box (Md.cs m)))),(5,(some (.box (Qy.cs a1)))),(6,(some (.box (Pt.cs a2))))]⟩
 (z57 again ⟨[4,5,6,8,9,36,37],[4,5,6],[]⟩ k) =
 (cond (decide (x37 < x36))
 (cond (x37 != Qy.c a1)
 (cond (decide (z2a m x37 a2≥x9))
 (k .ret ⟨[(4,(.ptr 4 0 0)),(5,(.ptr 5 0 0)),(6,(.ptr 6 0 0)),(8,(.bool true)),(9,(.int .i64 x9)),(36,(.int .i64 x36)),(37,(.int .i64 x37))],[(4,(some (.box (Md.cs m)))),(5,(some (.box (Qy.cs a1)))),(6,(some (.box (Pt.cs a2))))]⟩)
 (again ⟨[(4,(.ptr 4 0 0)),(5,(.ptr 5 0 0)),(6,(.ptr 6 0 0)),(8,(.bool b8)),(9,(.int .i64 x9)),(36,(.int .i64 x36)),(37,(.int .i64 (IntKind.wrap IntKind.i64 (x37+1))))],[(4,(some (.box (Md.cs m)))),(5,(some (.box (Qy.cs a1)))),(6,(some (.box (Pt.cs a2))))]⟩))
 (again ⟨[(4,(.ptr 4 0 0)),(5,(.ptr 5 0 0)),(6,(.ptr 6 0 0)),(8,(.bool b8)),(9,(.int .i64 x9)),(36,(.int .i64 x36)),(37,(.int .i64 (IntKind.wrap IntKind.i64 (x37+1))))],[(4,(some (.box (Md.cs m)))),(5,(some (.box (Qy.cs a1)))),(6,(some (.box (Pt.cs a2))))]⟩))
 (k (.exit 1) ⟨[(4,(.ptr 4 0 0)),(5,(.ptr 5 0 0)),(6,(.ptr 6 0 0)),(8,(.bool b8)),(9,(.int .i64 x9)),(36,(.int .i64 x36)),(37,(.int .i64 x37))],[(4,(some (.box (Md.cs m)))),(5,(some (.box (Qy.cs a1)))),(6,(some (.box (Pt.cs a2))))]⟩)):=by kernel_rfl
theorem zjy (N:Nat) (m:Md) (a1:Qy) (a2:Pt) (b8:Bool) (x9:Int) (x36:Int) (x37:Int):(z08 1 (kSq (z19 N) (z0l z1k [1,1,1,0,1,0,1,1,1,0,1]) (z08 0 (kSq (z19 N) (z0l z1k [1,1,1,1]) (z2w (z19 N) none [(ResultVar.tmp 8)] [[.bool]]))))) (.exit 1)
 ⟨[(4,(.ptr 4 0 0)),(5,(.ptr 5 0 0)),(6,(.ptr 6 0 0)),(8,(.bool b8)),(9,(.int .i64 x9)),(36,(.int .i64 x36)),(37,(.int .i64 x37))],[(4,(some (.box (Md.cs m)))),(5,(some (.box (Qy.cs a1)))),(6,(some (.box (Pt.cs a2))))]⟩ =
 (some ((.bool false),[])):=by kernel_rfl
theorem zjt (N:Nat) (m:Md) (a1:Qy) (a2:Pt) (b8:Bool) (x9:Int) (x36:Int) (x37:Int):(z08 1 (kSq (z19 N) (z0l z1k [1,1,1,0,1,0,1,1,1,0,1]) (z08 0 (kSq (z19 N) (z0l z1k [1,1,1,1]) (z2w (z19 N) none [(ResultVar.tmp 8)] [[.bool]]))))) .ret
 ⟨[(4,(.ptr 4 0 0)),(5,(.ptr 5 0 0)),(6,(.ptr 6 0 0)),(8,(.bool b8)),(9,(.int .i64 x9)),(36,(.int .i64 x36)),(37,(.int .i64 x37))],[(4,(some (.box (Md.cs m)))),(5,(some (.box (Qy.cs a1)))),(6,(some (.box (Pt.cs a2))))]⟩ =
 (some ((.bool b8),[])):=by kernel_rfl
def zts (N:Nat):Env:=mkE [(64,z5k),(68,z6h)] [(2,⟨[1,4,7,8],[],[]⟩)] 35 N
open Go Go.Proofs
def z3a (N:Nat):Env:=mkE [(37,z69),(43,z1t),(88,z1y),(67,z5z)] [(7,⟨[4,5,6,24,25,26],[20,500],[⟨.tmp 6,500,163,true,[.int .i64,.int .i64,.int .i64,.int .i64,.int .i64,.int .i64,.int .i64,.int .i64,.int .i64,.int .i64,.int .i64]⟩]⟩)] 79 N
theorem zuh (N:Nat) (l:List IV) (a1:Bx):z16 (z3a N) z4q [.tmp 4] [[.list true [.int .i64,.int .i64,.int .i64,.int .i64,.int .i64,.int .i64,.int .i64,.int .i64,.int .i64,.int .i64,.int .i64]]] [(.list false [.int .u64] l),(Bx.V a1)] =
 (cond (!z6v l 4)
 (some ((.list true z5p []),[]))
 (cond (Bx.emp a1)
 (some ((.list true z5p []),[]))
 (cond (true&&(true&&decide (0≤ic (List.length l)))&&(decide (ic (List.length l)=ic (List.length l))&&decide (ic (List.length l)*ic 80≤ic z0d)))
 (cond (decide (0≤0)&&decide (0 < ic (Int.toNat (ic (List.length l)) - 0)))
 (lpE (z3a N) (z0l z4q [1,1,1,1,1,0,1,0,0]) ⟨[4,5,6,24,25,26],[20,500],[⟨(.tmp 6),500,163,true,z5p⟩]⟩ N ⟨[(4,.zs),(5,(.row 20 0 (Int.toNat (ic (List.length l))))),(6,(.row 500 0 0)),(24,(.list false [(.int .u64)] l)),(25,(.int .i64 (ic (List.length l)))),(26,(.int .i64 0))],[(20,(some (.row true 36 true z6l (List.set (List.replicate (Int.toNat (ic (List.length l))) (IV.agg [IV.int 0,IV.int 0,IV.int 0,IV.int 0,IV.int 0,IV.int 0,IV.int 0,IV.int 0,IV.int 0,IV.int 0])) 0 (Bx.I a1))))),(500,(some (.row true 163 true z5p [])))]⟩ (z08 0 (kSq (z3a N) (z0l z4q [1,1,1,1,1,1]) (z2w (z3a N) none [(ResultVar.tmp 4)] [[(.list true z5p)]]))))
 none)
 none))):=by kernel_rfl
theorem zg9 (N:Nat) (n5:Nat) (n6:Nat) (l24:List IV) (x25:Int) (x26:Int) (lo20:List IV) (lo500:List IV) (again:St→Res) (k:Out→St→Res):rnd (z3a N) (z0l z4q [1,1,1,1,1,0,1,0,0])
 ⟨[(4,.zs),(5,(.row 20 0 n5)),(6,(.row 500 0 n6)),(24,(.list false [(.int .u64)] l24)),(25,(.int .i64 x25)),(26,(.int .i64 x26))],[(20,(some (.row true 36 true z6l lo20))),(500,(some (.row true 163 true z5p lo500)))]⟩
 (z57 again ⟨[4,5,6,24,25,26],[20,500],[⟨(.tmp 6),500,163,true,z5p⟩]⟩ k) =
 (cond (decide (x26 < x25))
 (cond (decide (0≤x26)&&decide (x26 < ic (List.length l24)))
 (cond (!Nd.lf (z07 (IV.toInt (List.getD l24 (Int.toNat x26) default))))
 (cond (decide (0≤x26)&&decide (x26 < ic (n5 - 0)))
 (cond (znf (Nd.f (z07 (IV.toInt (List.getD l24 (Int.toNat x26) default)))))
 (cond (decide (0≤Nd.l (z07 (IV.toInt (List.getD l24 (Int.toNat x26) default))))&&decide (Nd.l (z07 (IV.toInt (List.getD l24 (Int.toNat x26) default))) < ic (n5 - 0)))
 (cond (decide (0≤Nd.r (z07 (IV.toInt (List.getD l24 (Int.toNat x26) default))))&&decide (Nd.r (z07 (IV.toInt (List.getD l24 (Int.toNat x26) default))) < ic (n5 - 0)))
 (again ⟨[(4,.zs),(5,(.row 20 0 n5)),(6,(.row 500 0 n6)),(24,(.list false [(.int .u64)] l24)),(25,(.int .i64 x25)),(26,(.int .i64 (IntKind.wrap IntKind.i64 (x26+1))))],[(20,(some (.row true 36 true z6l (List.set (List.set lo20 (0+Int.toNat (Nd.l (z07 (IV.toInt (List.getD l24 (Int.toNat x26) default))))) (Bx.I (Bx.cutL (bxI (List.getD lo20 (0+Int.toNat x26) default)) (Nd.f (z07 (IV.toInt (List.getD l24 (Int.toNat x26) default)))) (Nd.a (z07 (IV.toInt (List.getD l24 (Int.toNat x26) default))))))) (0+Int.toNat (Nd.r (z07 (IV.toInt (List.getD l24 (Int.toNat x26) default))))) (Bx.I (Bx.cutH (bxI (List.getD lo20 (0+Int.toNat x26) default)) (Nd.f (z07 (IV.toInt (List.getD l24 (Int.toNat x26) default)))) (Nd.a (z07 (IV.toInt (List.getD l24 (Int.toNat x26) default)))))))))),(500,(some (.row true 163 true z5p lo500)))]⟩)
 none)
 none)
 none)
 none)
 (cond (decide (0≤x26)&&decide (x26 < ic (n5 - 0)))
 (cond (!Bx.emp (bxI (List.getD lo20 (0+Int.toNat x26) default)))
 (cond (decide (0≤x26)&&decide (x26 < ic (n5 - 0)))
 (cond (decide ((n6+1)*88≤z0d))
 (again ⟨[(4,.zs),(5,(.row 20 0 n5)),(6,(.row 500 0 (n6+1))),(24,(.list false [(.int .u64)] l24)),(25,(.int .i64 x25)),(26,(.int .i64 (IntKind.wrap IntKind.i64 (x26+1))))],[(20,(some (.row true 36 true z6l lo20))),(500,(some (.row true 163 true z5p (List.take n6 lo500++[(pcI (bxI (List.getD lo20 (0+Int.toNat x26) default)) (Nd.v (z07 (IV.toInt (List.getD l24 (Int.toNat x26) default)))))]))))]⟩)
 none)
 none)
 (again ⟨[(4,.zs),(5,(.row 20 0 n5)),(6,(.row 500 0 n6)),(24,(.list false [(.int .u64)] l24)),(25,(.int .i64 x25)),(26,(.int .i64 (IntKind.wrap IntKind.i64 (x26+1))))],[(20,(some (.row true 36 true z6l lo20))),(500,(some (.row true 163 true z5p lo500)))]⟩))
 none))
 none)
 (k (.exit 0) ⟨[(4,.zs),(5,(.row 20 0 n5)),(6,(.row 500 0 n6)),(24,(.list false [(.int .u64)] l24)),(25,(.int .i64 x25)),(26,(.int .i64 x26))],[(20,(some (.row true 36 true z6l lo20))),(500,(some (.row true 163 true z5p lo500)))]⟩)):=by kernel_rfl
theorem zlb (N:Nat) (n5:Nat) (n6:Nat) (l24:List IV) (x25:Int) (x26:Int) (lo20:List IV) (lo500:List IV):(z08 0 (kSq (z3a N) (z0l z4q [1,1,1,1,1,1]) (z2w (z3a N) none [(ResultVar.tmp 4)] [[(.list true z5p)]]))) (.exit 0)
 ⟨[(4,.zs),(5,(.row 20 0 n5)),(6,(.row 500 0 n6)),(24,(.list false [(.int .u64)] l24)),(25,(.int .i64 x25)),(26,(.int .i64 x26))],[(20,(some (.row true 36 true z6l lo20))),(500,(some (.row true 163 true z5p lo500)))]⟩ =
 (some ((.list true z5p (List.drop 0 (List.take n6 lo500))),[])):=by kernel_rfl
def z43 (N:Nat):Env:=mkE [(98,z8e)] [(6,⟨[4,5,6,8,9,26,27,28],[],[]⟩)] 43 N
theorem zwz (N:Nat) (l:List IV) (b:Bx):z16 (z43 N) z5b [.tmp 4,.tmp 5,.tmp 6] [[.int .i64],[.int .i64],[.bool]] [(.list false [.int .u64] l),(Bx.V b)] =
 (cond (ic (List.length (z3w l b))==0)
 (some ((.tup [(.int .i64 0),(.int .i64 0),(.bool false)]),[]))
 (cond (decide (0≤0)&&decide (0 < ic (List.length (z3w l b))))
 (cond (decide (0≤0)&&decide (0 < ic (List.length (z3w l b))))
 (lpE (z43 N) (z0l z5b [1,1,1,1,0,1,0,0]) ⟨[4,5,6,8,9,26,27,28],[],[]⟩ N ⟨[(4,(.int .i64 0)),(5,(.int .i64 0)),(6,(.bool false)),(8,(.int .i64 (IV.toInt (IV.cell (List.getD (z3w l b) (Int.toNat 0) default) 10)))),(9,(.int .i64 (IV.toInt (IV.cell (List.getD (z3w l b) (Int.toNat 0) default) 10)))),(26,(.list true z5p (z3w l b))),(27,(.int .i64 (ic (List.length (z3w l b))))),(28,(.int .i64 0))],[]⟩ (z08 0 (kSq (z43 N) (z0l z5b [1,1,1,1,1]) (z2w (z43 N) none [(ResultVar.tmp 4),(ResultVar.tmp 5),(ResultVar.tmp 6)] [[(.int .i64)],[(.int .i64)],[.bool]]))))
 none)
 none)):=by kernel_rfl
theorem zhe (N:Nat) (x4:Int) (x5:Int) (b6:Bool) (x8:Int) (x9:Int) (l26:List IV) (x27:Int) (x28:Int) (again:St→Res) (k:Out→St→Res):rnd (z43 N) (z0l z5b [1,1,1,1,0,1,0,0])
 ⟨[(4,(.int .i64 x4)),(5,(.int .i64 x5)),(6,(.bool b6)),(8,(.int .i64 x8)),(9,(.int .i64 x9)),(26,(.list true z5p l26)),(27,(.int .i64 x27)),(28,(.int .i64 x28))],[]⟩
 (z57 again ⟨[4,5,6,8,9,26,27,28],[],[]⟩ k) =
 (cond (decide (x28 < x27))
 (cond (decide (0≤x28)&&decide (x28 < ic (List.length l26)))
 (again ⟨[(4,(.int .i64 x4)),(5,(.int .i64 x5)),(6,(.bool b6)),(8,(.int .i64 (min x8 (IV.toInt (IV.cell (List.getD l26 (Int.toNat x28) default) 10))))),(9,(.int .i64 (max x9 (IV.toInt (IV.cell (List.getD l26 (Int.toNat x28) default) 10))))),(26,(.list true z5p l26)),(27,(.int .i64 x27)),(28,(.int .i64 (IntKind.wrap IntKind.i64 (x28+1))))],[]⟩)
 none)
 (k (.exit 0) ⟨[(4,(.int .i64 x4)),(5,(.int .i64 x5)),(6,(.bool b6)),(8,(.int .i64 x8)),(9,(.int .i64 x9)),(26,(.list true z5p l26)),(27,(.int .i64 x27)),(28,(.int .i64 x28))],[]⟩)):=by kernel_rfl
theorem zm8 (N:Nat) (x4:Int) (x5:Int) (b6:Bool) (x8:Int) (x9:Int) (l26:List IV) (x27:Int) (x28:Int):(z08 0 (kSq (z43 N) (z0l z5b [1,1,1,1,1]) (z2w (z43 N) none [(ResultVar.tmp 4),(ResultVar.tmp 5),(ResultVar.tmp 6)] [[(.int .i64)],[(.int .i64)],[.bool]]))) (.exit 0)
 ⟨[(4,(.int .i64 x4)),(5,(.int .i64 x5)),(6,(.bool b6)),(8,(.int .i64 x8)),(9,(.int .i64 x9)),(26,(.list true z5p l26)),(27,(.int .i64 x27)),(28,(.int .i64 x28))],[]⟩ =
 (some ((.tup [(.int .i64 x8),(.int .i64 x9),(.bool true)]),[])):=by kernel_rfl
def z0k (N:Nat):Env:=mkE [(77,z9t),(43,z1t),(39,z1u)] [(5,⟨[1,5,6,7,8,9,10,42,43,44],[5],[]⟩)] 69 N
theorem y17 (N:Nat) (m:Md) (a1:Int) (a2:Bx):z16 (z0k N) z11 [.tmp 6,.tmp 7,.tmp 8] [[.int .i64],[.int .i64],[.bool]] [(Md.V m),(.int .i64 a1),(Bx.V a2)] =
 (cond (!z1s m)
 (some ((.tup [(.int .i64 0),(.int .i64 0),(.bool false)]),[]))
 (cond (decide (a1 < 0))
 (some ((.tup [(.int .i64 0),(.int .i64 0),(.bool false)]),[]))
 (cond (decide (a1≥Md.c m))
 (some ((.tup [(.int .i64 0),(.int .i64 0),(.bool false)]),[]))
 (cond (Bx.emp a2)
 (some ((.tup [(.int .i64 0),(.int .i64 0),(.bool false)]),[]))
 (cond (decide (a1=ic 0))
 (cond (decide (a1=ic 0))
 (lpE (z0k N) (z0l z11 [1,1,1,0,1,0,0]) ⟨[1,5,6,7,8,9,10,42,43,44],[5],[]⟩ N ⟨[(1,(.int .i64 a1)),(5,(.ptr 5 0 0)),(6,(.int .i64 0)),(7,(.int .i64 0)),(8,(.bool false)),(9,(.int .i64 (Md.b0 m))),(10,(.int .i64 (Md.b0 m))),(42,(.list true z30 (Md.ts m))),(43,(.int .i64 (ic (List.length (Md.ts m))))),(44,(.int .i64 0))],[(5,(some (.box (Bx.cs a2))))]⟩ (z08 0 (kSq (z0k N) (z0l z11 [1,1,1,1]) (z2w (z0k N) none [(ResultVar.tmp 6),(ResultVar.tmp 7),(ResultVar.tmp 8)] [[(.int .i64)],[(.int .i64)],[.bool]]))))
 (cond (decide (a1=ic 1))
 (lpE (z0k N) (z0l z11 [1,1,1,0,1,0,0]) ⟨[1,5,6,7,8,9,10,42,43,44],[5],[]⟩ N ⟨[(1,(.int .i64 a1)),(5,(.ptr 5 0 0)),(6,(.int .i64 0)),(7,(.int .i64 0)),(8,(.bool false)),(9,(.int .i64 (Md.b0 m))),(10,(.int .i64 (Md.b1 m))),(42,(.list true z30 (Md.ts m))),(43,(.int .i64 (ic (List.length (Md.ts m))))),(44,(.int .i64 0))],[(5,(some (.box (Bx.cs a2))))]⟩ (z08 0 (kSq (z0k N) (z0l z11 [1,1,1,1]) (z2w (z0k N) none [(ResultVar.tmp 6),(ResultVar.tmp 7),(ResultVar.tmp 8)] [[(.int .i64)],[(.int .i64)],[.bool]]))))
 (cond (decide (a1=ic 2))
 (lpE (z0k N) (z0l z11 [1,1,1,0,1,0,0]) ⟨[1,5,6,7,8,9,10,42,43,44],[5],[]⟩ N ⟨[(1,(.int .i64 a1)),(5,(.ptr 5 0 0)),(6,(.int .i64 0)),(7,(.int .i64 0)),(8,(.bool false)),(9,(.int .i64 (Md.b0 m))),(10,(.int .i64 (Md.b2 m))),(42,(.list true z30 (Md.ts m))),(43,(.int .i64 (ic (List.length (Md.ts m))))),(44,(.int .i64 0))],[(5,(some (.box (Bx.cs a2))))]⟩ (z08 0 (kSq (z0k N) (z0l z11 [1,1,1,1]) (z2w (z0k N) none [(ResultVar.tmp 6),(ResultVar.tmp 7),(ResultVar.tmp 8)] [[(.int .i64)],[(.int .i64)],[.bool]]))))
 none)))
 (cond (decide (a1=ic 1))
 (cond (decide (a1=ic 0))
 (lpE (z0k N) (z0l z11 [1,1,1,0,1,0,0]) ⟨[1,5,6,7,8,9,10,42,43,44],[5],[]⟩ N ⟨[(1,(.int .i64 a1)),(5,(.ptr 5 0 0)),(6,(.int .i64 0)),(7,(.int .i64 0)),(8,(.bool false)),(9,(.int .i64 (Md.b1 m))),(10,(.int .i64 (Md.b0 m))),(42,(.list true z30 (Md.ts m))),(43,(.int .i64 (ic (List.length (Md.ts m))))),(44,(.int .i64 0))],[(5,(some (.box (Bx.cs a2))))]⟩ (z08 0 (kSq (z0k N) (z0l z11 [1,1,1,1]) (z2w (z0k N) none [(ResultVar.tmp 6),(ResultVar.tmp 7),(ResultVar.tmp 8)] [[(.int .i64)],[(.int .i64)],[.bool]]))))
 (cond (decide (a1=ic 1))
 (lpE (z0k N) (z0l z11 [1,1,1,0,1,0,0]) ⟨[1,5,6,7,8,9,10,42,43,44],[5],[]⟩ N ⟨[(1,(.int .i64 a1)),(5,(.ptr 5 0 0)),(6,(.int .i64 0)),(7,(.int .i64 0)),(8,(.bool false)),(9,(.int .i64 (Md.b1 m))),(10,(.int .i64 (Md.b1 m))),(42,(.list true z30 (Md.ts m))),(43,(.int .i64 (ic (List.length (Md.ts m))))),(44,(.int .i64 0))],[(5,(some (.box (Bx.cs a2))))]⟩ (z08 0 (kSq (z0k N) (z0l z11 [1,1,1,1]) (z2w (z0k N) none [(ResultVar.tmp 6),(ResultVar.tmp 7),(ResultVar.tmp 8)] [[(.int .i64)],[(.int .i64)],[.bool]]))))
 (cond (decide (a1=ic 2))
 (lpE (z0k N) (z0l z11 [1,1,1,0,1,0,0]) ⟨[1,5,6,7,8,9,10,42,43,44],[5],[]⟩ N ⟨[(1,(.int .i64 a1)),(5,(.ptr 5 0 0)),(6,(.int .i64 0)),(7,(.int .i64 0)),(8,(.bool false)),(9,(.int .i64 (Md.b1 m))),(10,(.int .i64 (Md.b2 m))),(42,(.list true z30 (Md.ts m))),(43,(.int .i64 (ic (List.length (Md.ts m))))),(44,(.int .i64 0))],[(5,(some (.box (Bx.cs a2))))]⟩ (z08 0 (kSq (z0k N) (z0l z11 [1,1,1,1]) (z2w (z0k N) none [(ResultVar.tmp 6),(ResultVar.tmp 7),(ResultVar.tmp 8)] [[(.int .i64)],[(.int .i64)],[.bool]]))))
 none)))
 (cond (decide (a1=ic 2))
 (cond (decide (a1=ic 0))
 (lpE (z0k N) (z0l z11 [1,1,1,0,1,0,0]) ⟨[1,5,6,7,8,9,10,42,43,44],[5],[]⟩ N ⟨[(1,(.int .i64 a1)),(5,(.ptr 5 0 0)),(6,(.int .i64 0)),(7,(.int .i64 0)),(8,(.bool false)),(9,(.int .i64 (Md.b2 m))),(10,(.int .i64 (Md.b0 m))),(42,(.list true z30 (Md.ts m))),(43,(.int .i64 (ic (List.length (Md.ts m))))),(44,(.int .i64 0))],[(5,(some (.box (Bx.cs a2))))]⟩ (z08 0 (kSq (z0k N) (z0l z11 [1,1,1,1]) (z2w (z0k N) none [(ResultVar.tmp 6),(ResultVar.tmp 7),(ResultVar.tmp 8)] [[(.int .i64)],[(.int .i64)],[.bool]]))))
 (cond (decide (a1=ic 1))
 (lpE (z0k N) (z0l z11 [1,1,1,0,1,0,0]) ⟨[1,5,6,7,8,9,10,42,43,44],[5],[]⟩ N ⟨[(1,(.int .i64 a1)),(5,(.ptr 5 0 0)),(6,(.int .i64 0)),(7,(.int .i64 0)),(8,(.bool false)),(9,(.int .i64 (Md.b2 m))),(10,(.int .i64 (Md.b1 m))),(42,(.list true z30 (Md.ts m))),(43,(.int .i64 (ic (List.length (Md.ts m))))),(44,(.int .i64 0))],[(5,(some (.box (Bx.cs a2))))]⟩ (z08 0 (kSq (z0k N) (z0l z11 [1,1,1,1]) (z2w (z0k N) none [(ResultVar.tmp 6),(ResultVar.tmp 7),(ResultVar.tmp 8)] [[(.int .i64)],[(.int .i64)],[.bool]]))))
 (cond (decide (a1=ic 2))
 (lpE (z0k N) (z0l z11 [1,1,1,0,1,0,0]) ⟨[1,5,6,7,8,9,10,42,43,44],[5],[]⟩ N ⟨[(1,(.int .i64 a1)),(5,(.ptr 5 0 0)),(6,(.int .i64 0)),(7,(.int .i64 0)),(8,(.bool false)),(9,(.int .i64 (Md.b2 m))),(10,(.int .i64 (Md.b2 m))),(42,(.list true z30 (Md.ts m))),(43,(.int .i64 (ic (List.length (Md.ts m))))),(44,(.int .i64 0))],[(5,(some (.box (Bx.cs a2))))]⟩ (z08 0 (kSq (z0k N) (z0l z11 [1,1,1,1]) (z2w (z0k N) none [(ResultVar.tmp 6),(ResultVar.tmp 7),(ResultVar.tmp 8)] [[(.int .i64)],[(.int .i64)],[.bool]]))))
 none)))
 none))))))):=by kernel_rfl
theorem zja (N:Nat) (a2:Bx) (x1:Int) (x6:Int) (x7:Int) (b8:Bool) (x9:Int) (x10:Int) (l42:List IV) (x43:Int) (x44:Int) (again:St→Res) (k:Out→St→Res):rnd (z0k N) (z0l z11 [1,1,1,0,1,0,0])
 ⟨[(1,(.int .i64 x1)),(5,(.ptr 5 0 0)),(6,(.int .i64 x6)),(7,(.int .i64 x7)),(8,(.bool b8)),(9,(.int .i64 x9)),(10,(.int .i64 x10)),(42,(.list true z30 l42)),(43,(.int .i64 x43)),(44,(.int .i64 x44))],[(5,(some (.box (Bx.cs a2))))]⟩
 (z57 again ⟨[1,5,6,7,8,9,10,42,43,44],[5],[]⟩ k) =
 (cond (decide (x44 < x43))
 (cond (decide (0≤x44)&&decide (x44 < ic (List.length l42)))
 (cond (IV.toInt (IV.cell (List.getD l42 (Int.toNat x44) default) 0) != x1)
 (again ⟨[(1,(.int .i64 x1)),(5,(.ptr 5 0 0)),(6,(.int .i64 x6)),(7,(.int .i64 x7)),(8,(.bool b8)),(9,(.int .i64 x9)),(10,(.int .i64 x10)),(42,(.list true z30 l42)),(43,(.int .i64 x43)),(44,(.int .i64 (IntKind.wrap IntKind.i64 (x44+1))))],[(5,(some (.box (Bx.cs a2))))]⟩)
 (again ⟨[(1,(.int .i64 x1)),(5,(.ptr 5 0 0)),(6,(.int .i64 x6)),(7,(.int .i64 x7)),(8,(.bool b8)),(9,(.int .i64 (IntKind.wrap IntKind.i64 (x9+tLo (IV.toList (IV.cell (List.getD l42 (Int.toNat x44) default) 1)) a2)))),(10,(.int .i64 (IntKind.wrap IntKind.i64 (x10+tHi (IV.toList (IV.cell (List.getD l42 (Int.toNat x44) default) 1)) a2)))),(42,(.list true z30 l42)),(43,(.int .i64 x43)),(44,(.int .i64 (IntKind.wrap IntKind.i64 (x44+1))))],[(5,(some (.box (Bx.cs a2))))]⟩))
 none)
 (k (.exit 0) ⟨[(1,(.int .i64 x1)),(5,(.ptr 5 0 0)),(6,(.int .i64 x6)),(7,(.int .i64 x7)),(8,(.bool b8)),(9,(.int .i64 x9)),(10,(.int .i64 x10)),(42,(.list true z30 l42)),(43,(.int .i64 x43)),(44,(.int .i64 x44))],[(5,(some (.box (Bx.cs a2))))]⟩)):=by kernel_rfl
theorem zpc (N:Nat) (a2:Bx) (x1:Int) (x6:Int) (x7:Int) (b8:Bool) (x9:Int) (x10:Int) (l42:List IV) (x43:Int) (x44:Int):(z08 0 (kSq (z0k N) (z0l z11 [1,1,1,1]) (z2w (z0k N) none [(ResultVar.tmp 6),(ResultVar.tmp 7),(ResultVar.tmp 8)] [[(.int .i64)],[(.int .i64)],[.bool]]))) (.exit 0)
 ⟨[(1,(.int .i64 x1)),(5,(.ptr 5 0 0)),(6,(.int .i64 x6)),(7,(.int .i64 x7)),(8,(.bool b8)),(9,(.int .i64 x9)),(10,(.int .i64 x10)),(42,(.list true z30 l42)),(43,(.int .i64 x43)),(44,(.int .i64 x44))],[(5,(some (.box (Bx.cs a2))))]⟩ =
 (some ((.tup [(.int .i64 x9),(.int .i64 x10),(.bool true)]),[])):=by kernel_rfl
def z2m (N:Nat):Env:=mkE [(57,z5l)] [(6,⟨[1,3,5,6,7,8,11,12,33,34],[3,5],[]⟩)] 62 N
theorem zsr (N:Nat) (m:Md) (classv:Int) (b:Bx):z16 (z2m N) z49 [.tmp 6,.tmp 7] [[.int .i64],[.bool]] [(Md.V m),(.int .i64 classv),(Bx.V b)] =
 (cond (!sOK m classv b)
 (some ((.tup [(.int .i64 0),(.bool false)]),[]))
 (cond (decide (Md.c m < 2))
 (some ((.tup [(.int .i64 0),(.bool false)]),[]))
 (lpE (z2m N) (z0l z49 [1,1,1,1,0,1,0,0]) ⟨[1,3,5,6,7,8,11,12,33,34],[3,5],[]⟩ N ⟨[(1,(.int .i64 classv)),(3,(.ptr 3 0 0)),(5,(.ptr 5 0 0)),(6,(.int .i64 0)),(7,(.bool false)),(8,(.int .i64 (sLo m classv b))),(11,(.int .i64 0)),(12,(.bool false)),(33,(.int .i64 (Md.c m))),(34,(.int .i64 0))],[(3,(some (.box (Md.cs m)))),(5,(some (.box (Bx.cs b))))]⟩ (z08 0 (kSq (z2m N) (z0l z49 [1,1,1,1,1]) (z2w (z2m N) none [(ResultVar.tmp 6),(ResultVar.tmp 7)] [[(.int .i64)],[.bool]])))))):=by kernel_rfl
theorem zeb (N:Nat) (m:Md) (b:Bx) (x1:Int) (x6:Int) (b7:Bool) (x8:Int) (x11:Int) (b12:Bool) (x33:Int) (x34:Int) (again:St→Res) (k:Out→St→Res):rnd (z2m N) (z0l z49 [1,1,1,1,0,1,0,0])
 ⟨[(1,(.int .i64 x1)),(3,(.ptr 3 0 0)),(5,(.ptr 5 0 0)),(6,(.int .i64 x6)),(7,(.bool b7)),(8,(.int .i64 x8)),(11,(.int .i64 x11)),(12,(.bool b12)),(33,(.int .i64 x33)),(34,(.int .i64 x34))],[(3,(some (.box (Md.cs m)))),(5,(some (.box (Bx.cs b))))]⟩
 (z57 again ⟨[1,3,5,6,7,8,11,12,33,34],[3,5],[]⟩ k) =
 (cond (decide (x34 < x33))
 (cond (x34==x1)
 (again ⟨[(1,(.int .i64 x1)),(3,(.ptr 3 0 0)),(5,(.ptr 5 0 0)),(6,(.int .i64 x6)),(7,(.bool b7)),(8,(.int .i64 x8)),(11,(.int .i64 x11)),(12,(.bool b12)),(33,(.int .i64 x33)),(34,(.int .i64 (IntKind.wrap IntKind.i64 (x34+1))))],[(3,(some (.box (Md.cs m)))),(5,(some (.box (Bx.cs b))))]⟩)
 (cond (!b12)
 (again ⟨[(1,(.int .i64 x1)),(3,(.ptr 3 0 0)),(5,(.ptr 5 0 0)),(6,(.int .i64 x6)),(7,(.bool b7)),(8,(.int .i64 x8)),(11,(.int .i64 (IntKind.wrap IntKind.i64 (x8 - sHi m x34 b)))),(12,(.bool true)),(33,(.int .i64 x33)),(34,(.int .i64 (IntKind.wrap IntKind.i64 (x34+1))))],[(3,(some (.box (Md.cs m)))),(5,(some (.box (Bx.cs b))))]⟩)
 (cond (decide (IntKind.wrap IntKind.i64 (x8 - sHi m x34 b) < x11))
 (again ⟨[(1,(.int .i64 x1)),(3,(.ptr 3 0 0)),(5,(.ptr 5 0 0)),(6,(.int .i64 x6)),(7,(.bool b7)),(8,(.int .i64 x8)),(11,(.int .i64 (IntKind.wrap IntKind.i64 (x8 - sHi m x34 b)))),(12,(.bool true)),(33,(.int .i64 x33)),(34,(.int .i64 (IntKind.wrap IntKind.i64 (x34+1))))],[(3,(some (.box (Md.cs m)))),(5,(some (.box (Bx.cs b))))]⟩)
 (again ⟨[(1,(.int .i64 x1)),(3,(.ptr 3 0 0)),(5,(.ptr 5 0 0)),(6,(.int .i64 x6)),(7,(.bool b7)),(8,(.int .i64 x8)),(11,(.int .i64 x11)),(12,(.bool b12)),(33,(.int .i64 x33)),(34,(.int .i64 (IntKind.wrap IntKind.i64 (x34+1))))],[(3,(some (.box (Md.cs m)))),(5,(some (.box (Bx.cs b))))]⟩))))
 (k (.exit 0) ⟨[(1,(.int .i64 x1)),(3,(.ptr 3 0 0)),(5,(.ptr 5 0 0)),(6,(.int .i64 x6)),(7,(.bool b7)),(8,(.int .i64 x8)),(11,(.int .i64 x11)),(12,(.bool b12)),(33,(.int .i64 x33)),(34,(.int .i64 x34))],[(3,(some (.box (Md.cs m)))),(5,(some (.box (Bx.cs b))))]⟩)):=by kernel_rfl
theorem zjg (N:Nat) (m:Md) (b:Bx) (x1:Int) (x6:Int) (b7:Bool) (x8:Int) (x11:Int) (b12:Bool) (x33:Int) (x34:Int):(z08 0 (kSq (z2m N) (z0l z49 [1,1,1,1,1]) (z2w (z2m N) none [(ResultVar.tmp 6),(ResultVar.tmp 7)] [[(.int .i64)],[.bool]]))) (.exit 0)
 ⟨[(1,(.int .i64 x1)),(3,(.ptr 3 0 0)),(5,(.ptr 5 0 0)),(6,(.int .i64 x6)),(7,(.bool b7)),(8,(.int .i64 x8)),(11,(.int .i64 x11)),(12,(.bool b12)),(33,(.int .i64 x33)),(34,(.int .i64 x34))],[(3,(some (.box (Md.cs m)))),(5,(some (.box (Bx.cs b))))]⟩ =
 (some ((.tup [(.int .i64 x11),(.bool true)]),[])):=by kernel_rfl
def zul (N:Nat):Env:=mkE [] [] 16 N
theorem zqx (N:Nat) (q:Qy):z16 (zul N) zj0 [.tmp 2] [[.bool]] [(Qy.V q)] =
 (cond (Qy.k q==3) (cond (decide (Qy.ft q≥0)) (some ((.bool (decide (Qy.ft q < 4))),[])) (some ((.bool false),[]))) (some ((.bool false),[]))):=by kernel_rfl
def zti (N:Nat):Env:=mkE [(78,z29)] [] 10 N
theorem zru (N:Nat) (q:Qy) (b:Bx):z16 (zti N) zj6 [.cell 4 36] [[.int .i64,.int .i64,.int .i64,.int .i64,.int .i64,.int .i64,.int .i64,.int .i64,.int .i64,.int .i64]] [(Qy.V q),(Bx.V b)] =
 (cond (z42 q)
 (some ((.agg [(.int .i64 (Sp.lo (Bx.s0 b))),(.int .i64 (Sp.hi (Bx.s0 b))),(.int .i64 (Sp.lo (Bx.s1 b))),(.int .i64 (Sp.hi (Bx.s1 b))),(.int .i64 (Sp.lo (Bx.s2 b))),(.int .i64 (Sp.hi (Bx.s2 b))),(.int .i64 (Sp.lo (Bx.s3 b))),(.int .i64 (Sp.hi (Bx.s3 b))),(.int .i64 0),(.int .i64 0)]),[]))
 (some ((Bx.V b),[]))):=by kernel_rfl
def zr7 (N:Nat):Env:=mkE [(78,z29)] [] 15 N
theorem zp7 (N:Nat) (q:Qy) (b:Bx):z16 (zr7 N) zgu [.cell 4 36] [[.int .i64,.int .i64,.int .i64,.int .i64,.int .i64,.int .i64,.int .i64,.int .i64,.int .i64,.int .i64]] [(Qy.V q),(Bx.V b)] =
 (cond (z42 q)
 (cond (decide (Qy.ft q=ic 0))
 (some ((.agg [(.int .i64 (Sp.lo (Bx.s4 b))),(.int .i64 (Sp.hi (Bx.s4 b))),(.int .i64 (Sp.lo (Bx.s1 b))),(.int .i64 (Sp.hi (Bx.s1 b))),(.int .i64 (Sp.lo (Bx.s2 b))),(.int .i64 (Sp.hi (Bx.s2 b))),(.int .i64 (Sp.lo (Bx.s3 b))),(.int .i64 (Sp.hi (Bx.s3 b))),(.int .i64 0),(.int .i64 0)]),[]))
 (cond (decide (Qy.ft q=ic 1))
 (some ((.agg [(.int .i64 (Sp.lo (Bx.s0 b))),(.int .i64 (Sp.hi (Bx.s0 b))),(.int .i64 (Sp.lo (Bx.s4 b))),(.int .i64 (Sp.hi (Bx.s4 b))),(.int .i64 (Sp.lo (Bx.s2 b))),(.int .i64 (Sp.hi (Bx.s2 b))),(.int .i64 (Sp.lo (Bx.s3 b))),(.int .i64 (Sp.hi (Bx.s3 b))),(.int .i64 0),(.int .i64 0)]),[]))
 (cond (decide (Qy.ft q=ic 2))
 (some ((.agg [(.int .i64 (Sp.lo (Bx.s0 b))),(.int .i64 (Sp.hi (Bx.s0 b))),(.int .i64 (Sp.lo (Bx.s1 b))),(.int .i64 (Sp.hi (Bx.s1 b))),(.int .i64 (Sp.lo (Bx.s4 b))),(.int .i64 (Sp.hi (Bx.s4 b))),(.int .i64 (Sp.lo (Bx.s3 b))),(.int .i64 (Sp.hi (Bx.s3 b))),(.int .i64 0),(.int .i64 0)]),[]))
 (cond (decide (Qy.ft q=ic 3))
 (some ((.agg [(.int .i64 (Sp.lo (Bx.s0 b))),(.int .i64 (Sp.hi (Bx.s0 b))),(.int .i64 (Sp.lo (Bx.s1 b))),(.int .i64 (Sp.hi (Bx.s1 b))),(.int .i64 (Sp.lo (Bx.s2 b))),(.int .i64 (Sp.hi (Bx.s2 b))),(.int .i64 (Sp.lo (Bx.s4 b))),(.int .i64 (Sp.hi (Bx.s4 b))),(.int .i64 0),(.int .i64 0)]),[]))
 (cond (decide (Qy.ft q=ic 4))
 (some ((.agg [(.int .i64 (Sp.lo (Bx.s0 b))),(.int .i64 (Sp.hi (Bx.s0 b))),(.int .i64 (Sp.lo (Bx.s1 b))),(.int .i64 (Sp.hi (Bx.s1 b))),(.int .i64 (Sp.lo (Bx.s2 b))),(.int .i64 (Sp.hi (Bx.s2 b))),(.int .i64 (Sp.lo (Bx.s3 b))),(.int .i64 (Sp.hi (Bx.s3 b))),(.int .i64 0),(.int .i64 0)]),[]))
 none)))))
 (some ((Bx.V b),[]))):=by kernel_rfl
def zp5 (N:Nat):Env:=mkE [(43,z1t),(78,z29)] [] 23 N
theorem zmb (N:Nat) (q:Qy) (b:Bx):z16 (zp5 N) zfs [.tmp 4] [[.bool]] [(Qy.V q),(Bx.V b)] =
 (cond (z42 q)
 (cond (!Bx.emp b)
 (cond (decide (Qy.ft q=ic 0))
 (some ((.bool (decide (Sp.lo (Bx.s0 b) < Sp.hi (Bx.s4 b)))),[]))
 (cond (decide (Qy.ft q=ic 1))
 (some ((.bool (decide (Sp.lo (Bx.s1 b) < Sp.hi (Bx.s4 b)))),[]))
 (cond (decide (Qy.ft q=ic 2))
 (some ((.bool (decide (Sp.lo (Bx.s2 b) < Sp.hi (Bx.s4 b)))),[]))
 (cond (decide (Qy.ft q=ic 3))
 (some ((.bool (decide (Sp.lo (Bx.s3 b) < Sp.hi (Bx.s4 b)))),[]))
 (cond (decide (Qy.ft q=ic 4)) (some ((.bool (decide (Sp.lo (Bx.s4 b) < Sp.hi (Bx.s4 b)))),[])) none)))))
 (some ((.bool false),[])))
 (some ((.bool false),[]))):=by kernel_rfl
def zs3 (N:Nat):Env:=mkE [(57,z5l),(79,z74),(80,z66),(78,z29)] [] 54 N
theorem zpn (N:Nat) (m:Md) (q:Qy) (b:Bx):z16 (zs3 N) zh0 [.tmp 6,.tmp 7,.tmp 8] [[.int .i64],[.int .i64],[.bool]] [(Md.V m),(Qy.V q),(Bx.V b)] =
 (cond (!z42 q)
 (some ((.tup [(.int .i64 0),(.int .i64 0),(.bool false)]),[]))
 (cond (!sOK m (Qy.c q) (z86 q b))
 (some ((.tup [(.int .i64 0),(.int .i64 0),(.bool false)]),[]))
 (cond (!sOK m (Qy.c q) (z55 q b))
 (some ((.tup [(.int .i64 0),(.int .i64 0),(.bool false)]),[]))
 (some ((.tup [(.int .i64 (IntKind.wrap IntKind.i64 (sLo m (Qy.c q) (z55 q b) - sHi m (Qy.c q) (z86 q b)))),(.int .i64 (IntKind.wrap IntKind.i64 (sHi m (Qy.c q) (z55 q b) - sLo m (Qy.c q) (z86 q b)))),(.bool true)]),[]))))):=by kernel_rfl
def zy0 (N:Nat):Env:=mkE [(58,z78),(57,z5l),(43,z1t),(60,z6i),(59,z5r),(20,z2t)] [] 86 N
theorem zu0 (N:Nat) (m:Md) (a1:Qy) (a2:Bx):z16 (zy0 N) zkt [.tmp 6] [[.bool]] [(Md.V m),(Qy.V a1),(Bx.V a2)] =
 (cond (!z1q m a1)
 (some ((.bool false),[]))
 (cond (Bx.emp a2)
 (some ((.bool true),[]))
 (cond (Qy.k a1==1)
 (cond (sOK m (Qy.c a1) a2)
 (cond (decide (Qy.lo a1≤sLo m (Qy.c a1) a2)) (some ((.bool (decide (sHi m (Qy.c a1) a2≤Qy.hi a1))),[])) (some ((.bool false),[])))
 (some ((.bool false),[])))
 (cond (Qy.k a1==2)
 (cond (y67 m (Qy.c a1) a2) (some ((.bool (decide (yep m (Qy.c a1) a2 > 0))),[])) (some ((.bool false),[])))
 (cond (!zbr a1 a2)
 (some ((.bool true),[]))
 (cond (Qy.fl a1)
 (cond (y2n m a1 a2) (some ((.bool (decide (ycn m a1 a2≤0))),[])) (some ((.bool false),[])))
 (cond (y2n m a1 a2) (some ((.bool (decide (ydk m a1 a2≥0))),[])) (some ((.bool false),[]))))))))):=by kernel_rfl
def zwt (N:Nat):Env:=mkE [(61,zhu)] [] 9 N
theorem ztd (N:Nat) (b:Bx):z16 (zwt N) zll [.cell 2 43,.tmp 3] [[.int .i64,.int .i64,.int .i64,.int .i64],[.int .i64]] [(Bx.V b)] =
 (some ((.tup [(Pt.V (Bx.low b)),(.int .i64 (Sp.hi (Bx.s4 b)))]),[])):=by kernel_rfl
def z2y (N:Nat):Env:=mkE [(62,zc1)] [(2,⟨[3,4,5,6,7,8,11],[3,4,5],[]⟩)] 31 N
theorem zwv (N:Nat) (m:Md) (q:Qy) (b:Bx):z16 (z2y N) z4r [.tmp 6,.tmp 7,.tmp 8] [[.int .i64],[.int .i64],[.bool]] [(Md.V m),(Qy.V q),(Bx.V b)] =
 (lpE (z2y N) (z0l z4r [1,0,1,0,0]) ⟨[3,4,5,6,7,8,11],[3,4,5],[]⟩ N ⟨[(3,(.ptr 3 0 0)),(4,(.ptr 4 0 0)),(5,(.ptr 5 0 0)),(6,(.int .i64 0)),(7,(.int .i64 0)),(8,(.bool false)),(11,(.int .i64 0))],[(3,(some (.box (Md.cs m)))),(4,(some (.box (Qy.cs q)))),(5,(some (.box (Bx.cs b))))]⟩ (z08 0 (kSq (z2y N) (z0l z4r [1,1]) (z2w (z2y N) none [(ResultVar.tmp 6),(ResultVar.tmp 7),(ResultVar.tmp 8)] [[(.int .i64)],[(.int .i64)],[.bool]])))):=by kernel_rfl
theorem zgp (N:Nat) (m:Md) (q:Qy) (b:Bx) (x6:Int) (x7:Int) (b8:Bool) (x11:Int) (again:St→Res) (k:Out→St→Res):rnd (z2y N) (z0l z4r [1,0,1,0,0])
 ⟨[(3,(.ptr 3 0 0)),(4,(.ptr 4 0 0)),(5,(.ptr 5 0 0)),(6,(.int .i64 x6)),(7,(.int .i64 x7)),(8,(.bool b8)),(11,(.int .i64 x11))],[(3,(some (.box (Md.cs m)))),(4,(some (.box (Qy.cs q)))),(5,(some (.box (Bx.cs b))))]⟩
 (z57 again ⟨[3,4,5,6,7,8,11],[3,4,5],[]⟩ k) =
 (cond (decide (x11 < 5))
 (cond (z1s m&&znf x11)
 (cond (decide (ic (List.length (iZ (z35 m q b (Int.toNat x11)))) > 0))
 (cond (decide (0≤IntKind.wrap IntKind.i64 (Int.tdiv (IntKind.wrap IntKind.i64 (ic (List.length (iZ (z35 m q b (Int.toNat x11)))) - 1)) 2))&&decide (IntKind.wrap IntKind.i64 (Int.tdiv (IntKind.wrap IntKind.i64 (ic (List.length (iZ (z35 m q b (Int.toNat x11)))) - 1)) 2) < ic (List.length (iZ (z35 m q b (Int.toNat x11))))))
 (k .ret ⟨[(3,(.ptr 3 0 0)),(4,(.ptr 4 0 0)),(5,(.ptr 5 0 0)),(6,(.int .i64 x11)),(7,(.int .i64 (IV.toInt (List.getD (iZ (z35 m q b (Int.toNat x11))) (Int.toNat (IntKind.wrap IntKind.i64 (Int.tdiv (IntKind.wrap IntKind.i64 (ic (List.length (iZ (z35 m q b (Int.toNat x11)))) - 1)) 2))) default)))),(8,(.bool true)),(11,(.int .i64 x11))],[(3,(some (.box (Md.cs m)))),(4,(some (.box (Qy.cs q)))),(5,(some (.box (Bx.cs b))))]⟩)
 none)
 (again ⟨[(3,(.ptr 3 0 0)),(4,(.ptr 4 0 0)),(5,(.ptr 5 0 0)),(6,(.int .i64 x6)),(7,(.int .i64 x7)),(8,(.bool b8)),(11,(.int .i64 (IntKind.wrap IntKind.i64 (x11+1))))],[(3,(some (.box (Md.cs m)))),(4,(some (.box (Qy.cs q)))),(5,(some (.box (Bx.cs b))))]⟩))
 none)
 (k (.exit 0) ⟨[(3,(.ptr 3 0 0)),(4,(.ptr 4 0 0)),(5,(.ptr 5 0 0)),(6,(.int .i64 x6)),(7,(.int .i64 x7)),(8,(.bool b8)),(11,(.int .i64 x11))],[(3,(some (.box (Md.cs m)))),(4,(some (.box (Qy.cs q)))),(5,(some (.box (Bx.cs b))))]⟩)):=by kernel_rfl
theorem zmt (N:Nat) (m:Md) (q:Qy) (b:Bx) (x6:Int) (x7:Int) (b8:Bool) (x11:Int):(z08 0 (kSq (z2y N) (z0l z4r [1,1]) (z2w (z2y N) none [(ResultVar.tmp 6),(ResultVar.tmp 7),(ResultVar.tmp 8)] [[(.int .i64)],[(.int .i64)],[.bool]]))) (.exit 0)
 ⟨[(3,(.ptr 3 0 0)),(4,(.ptr 4 0 0)),(5,(.ptr 5 0 0)),(6,(.int .i64 x6)),(7,(.int .i64 x7)),(8,(.bool b8)),(11,(.int .i64 x11))],[(3,(some (.box (Md.cs m)))),(4,(some (.box (Qy.cs q)))),(5,(some (.box (Bx.cs b))))]⟩ =
 (some ((.tup [(.int .i64 0),(.int .i64 0),(.bool false)]),[])):=by kernel_rfl
theorem znc (N:Nat) (m:Md) (q:Qy) (b:Bx) (x6:Int) (x7:Int) (b8:Bool) (x11:Int):(z08 0 (kSq (z2y N) (z0l z4r [1,1]) (z2w (z2y N) none [(ResultVar.tmp 6),(ResultVar.tmp 7),(ResultVar.tmp 8)] [[(.int .i64)],[(.int .i64)],[.bool]]))) .ret
 ⟨[(3,(.ptr 3 0 0)),(4,(.ptr 4 0 0)),(5,(.ptr 5 0 0)),(6,(.int .i64 x6)),(7,(.int .i64 x7)),(8,(.bool b8)),(11,(.int .i64 x11))],[(3,(some (.box (Md.cs m)))),(4,(some (.box (Qy.cs q)))),(5,(some (.box (Bx.cs b))))]⟩ =
 (some ((.tup [(.int .i64 x6),(.int .i64 x7),(.bool b8)]),[])):=by kernel_rfl
open Go Go.Proofs
set_option maxRecDepth 100000
theorem zvu {i:Int} (h:znf i=true):i=0∨i=1∨i=2∨i=3∨i=4:=by
  unfold znf at h
  simp only [Bool.and_eq_true,decide_eq_true_eq] at h
  omega
theorem zkg:z3n PR B0 86 z7r:=by
  refine z0o [] [] z7r [[.int .i64,.int .i64]] Tryz.func86 y4o trivial ?_
  intro vs r hwf h
  unfold z7r at h
  split at h
  · rw [R.get_ok] at h
    exact ⟨0,(y0f 0).trans h⟩
  · simp [R.get] at h
set_option maxRecDepth 100000 in
theorem y3o:z3n PR B0 85 zh9:=by
  refine z0o [(86,z7r)] [] zh9 [[.int .i64,.int .i64]] Tryz.func85 ya1 ⟨zkg,trivial⟩ ?_
  intro vs r hwf h
  unfold zh9 at h
  split at h
  · rename_i lo hi
    rw [R.get_ok] at h
    refine ⟨0,?_⟩
    rw [← h]
    refine (y77 0 lo hi).trans ?_
    unfold y3h
    cases decide (lo > hi) <;> rfl
  · simp [R.get] at h
set_option maxRecDepth 100000 in
theorem zj5:z3n PR B0 68 z6h:=by
  refine z0o [] [] z6h [[.bool]] Tryz.func68 zzw trivial ?_
  intro vs r hwf h
  unfold z6h at h
  split at h
  · rename_i s
    replace h:=zsd h
    obtain ⟨s,rfl,h⟩:=h
    rw [R.get_ok] at h
    exact ⟨0,(zyd 0 s).trans h⟩
  · simp [R.get] at h
set_option maxRecDepth 100000 in
theorem zo6:z3n PR B0 45 z9b:=by
  refine z0o [] [] z9b [[.bool]] Tryz.func45 y8s trivial ?_
  intro vs r hwf h
  unfold z9b at h
  split at h
  · rename_i s n
    replace h:=zsd h
    obtain ⟨s,rfl,h⟩:=h
    rw [R.get_ok] at h
    refine ⟨0,?_⟩
    rw [← h]
    refine (y4t 0 s n).trans ?_
    unfold Sp.has
    cases decide (s.lo≤n) <;> rfl
  · simp [R.get] at h
set_option maxRecDepth 100000 in
theorem y0m:z3n PR B0 63 zij:=by
  refine z0o [(86,z7r),(85,zh9)] [] zij [[.int .i64,.int .i64],[.int .i64,.int .i64]] Tryz.func63 y87 ⟨zkg,y3o,trivial⟩ ?_
  intro vs r hwf h
  unfold zij at h
  split at h
  · rename_i s n
    replace h:=zsd h
    obtain ⟨s,rfl,h⟩:=h
    rw [R.get_ok] at h
    refine ⟨0,?_⟩
    rw [← h]
    refine (y4v 0 s n).trans ?_
    unfold Sp.cutH
    cases decide (n≥s.hi) <;> rfl
  · simp [R.get] at h
theorem zxb (b:Bx):z16 (y4s 6) zqm [.tmp 2] [[.bool]] [b.V] =
 cond b.s0.emp (some (.bool true,[])) (cond b.s1.emp (some (.bool true,[])) (cond b.s2.emp (some (.bool true,[])) (cond b.s3.emp (some (.bool true,[])) (cond b.s4.emp (some (.bool true,[])) (some (.bool false,[])))))):=by kernel_rfl
set_option maxRecDepth 100000 in
theorem z5j:z3n PR B0 43 z1t:=by
  refine z0o [(68,z6h)] [(2,⟨[2,5,6],[],[]⟩)] z1t [[.bool]] Tryz.func43 y3b ⟨zj5,trivial⟩ ?_
  intro vs r hwf h
  unfold z1t at h
  split at h
  · rename_i b
    replace h:=z2b h
    obtain ⟨b,rfl,h⟩:=h
    rw [R.get_ok] at h
    refine ⟨6,?_⟩
    rw [← h]
    refine (zxb b).trans ?_
    unfold Bx.emp
    cases b.s0.emp <;> cases b.s1.emp <;> cases b.s2.emp <;> cases b.s3.emp <;> cases b.s4.emp <;> rfl
  · simp [R.get] at h
theorem y3p (b:Bx):z16 (y95 5) y1g [.cell 2 43] [[.int .i64,.int .i64,.int .i64,.int .i64]] [b.V]=some (b.low.V,[]):=by kernel_rfl
set_option maxRecDepth 100000 in
theorem y41:z3n PR B0 61 zhu:=by
  refine z0o [] [(3,⟨[1,2,3,5],[1,2,3],[]⟩)] zhu [[.int .i64,.int .i64,.int .i64,.int .i64]] Tryz.func61 yal trivial ?_
  intro vs r hwf h
  unfold zhu at h
  split at h
  · rename_i b
    replace h:=z2b h
    obtain ⟨b,rfl,h⟩:=h
    rw [R.get_ok] at h
    exact ⟨5,(y3p b).trans h⟩
  · simp [R.get] at h
set_option maxRecDepth 100000 in
theorem zes:z3n PR B0 37 z69:=by
  refine z0o [(63,zij)] [] z69 [[.int .i64,.int .i64,.int .i64,.int .i64,.int .i64,.int .i64,.int .i64,.int .i64,.int .i64,.int .i64],[.int .i64,.int .i64,.int .i64,.int .i64,.int .i64,.int .i64,.int .i64,.int .i64,.int .i64,.int .i64]] Tryz.func37 yc1 ⟨y0m,trivial⟩ ?_
  intro vs r hwf h
  unfold z69 at h
  split at h
  · rename_i b i a
    replace h:=z2b h
    obtain ⟨b,rfl,h⟩:=h
    cases hg:(znf i) with
    | false=>rw [hg] at h; simp [R.get] at h
    | true=>
    rw [hg,R.get_br,z01,R.get_ok] at h
    refine ⟨0,?_⟩
    rw [← h]
    rcases zvu hg with rfl | rfl | rfl | rfl | rfl <;> kernel_rfl
  · simp [R.get] at h
set_option maxRecDepth 100000 in
theorem zfu:z3n PR B0 42 z4v:=by
  refine z0o [] [] z4v [[.bool]] Tryz.func42 zte trivial ?_
  intro vs r hwf h
  unfold z4v at h
  split at h
  · rename_i q
    replace h:=z2r h
    obtain ⟨q,rfl,h⟩:=h
    rw [R.get_ok] at h
    refine ⟨0,?_⟩
    rw [← h]
    refine (zqj 0 q).trans ?_
    unfold z42
    cases (q.k==3) <;> cases decide (q.ft≥0) <;> rfl
  · simp [R.get] at h
set_option maxRecDepth 100000 in
theorem z7m:z3n PR B0 78 z29:=by
  refine z0o [] [] z29 [[.bool]] Tryz.func78 zta trivial ?_
  intro vs r hwf h
  unfold z29 at h
  split at h
  · rename_i q
    replace h:=z2r h
    obtain ⟨q,rfl,h⟩:=h
    rw [R.get_ok] at h
    refine ⟨0,?_⟩
    rw [← h]
    refine (zqx 0 q).trans ?_
    unfold z42
    cases (q.k==3) <;> cases decide (q.ft≥0) <;> rfl
  · simp [R.get] at h
theorem z7i {q:Qy} (h:z42 q=true):q.ft=0∨q.ft=1∨q.ft=2∨q.ft=3:=by
  unfold z42 at h
  simp only [Bool.and_eq_true,decide_eq_true_eq] at h
  omega
set_option maxRecDepth 100000 in
theorem zpg:z3n PR B0 79 z74:=by
  refine z0o [(78,z29)] [] z74 [[.int .i64,.int .i64,.int .i64,.int .i64,.int .i64,.int .i64,.int .i64,.int .i64,.int .i64,.int .i64]] Tryz.func79 ztf ⟨z7m,trivial⟩ ?_
  intro vs r hwf h
  unfold z74 at h
  split at h
  · rename_i q b
    replace h:=z2r h
    obtain ⟨q,rfl,h⟩:=h
    replace h:=z2b h
    obtain ⟨b,rfl,h⟩:=h
    rw [R.get_ok] at h
    refine ⟨0,?_⟩
    rw [← h]
    refine (zru 0 q b).trans ?_
    unfold z86
    cases z42 q <;> rfl
  · simp [R.get] at h
set_option maxRecDepth 100000 in
theorem zm9:z3n PR B0 80 z66:=by
  refine z0o [(78,z29)] [] z66 [[.int .i64,.int .i64,.int .i64,.int .i64,.int .i64,.int .i64,.int .i64,.int .i64,.int .i64,.int .i64]] Tryz.func80 zqy ⟨z7m,trivial⟩ ?_
  intro vs r hwf h
  unfold z66 at h
  split at h
  · rename_i q b
    replace h:=z2r h
    obtain ⟨q,rfl,h⟩:=h
    replace h:=z2b h
    obtain ⟨b,rfl,h⟩:=h
    rw [R.get_ok] at h
    refine ⟨0,?_⟩
    rw [← h]
    refine (zp7 0 q b).trans ?_
    unfold z55
    cases hp:z42 q with
    | false=>rfl
    | true=>rcases z7i hp with e | e | e | e <;> rw [e] <;> rfl
  · simp [R.get] at h
set_option maxRecDepth 100000 in
theorem zlp:z3n PR B0 59 z5r:=by
  refine z0o [(43,z1t),(78,z29)] [] z5r [[.bool]] Tryz.func59 zp3 ⟨z5j,z7m,trivial⟩ ?_
  intro vs r hwf h
  unfold z5r at h
  split at h
  · rename_i q b
    replace h:=z2r h
    obtain ⟨q,rfl,h⟩:=h
    replace h:=z2b h
    obtain ⟨b,rfl,h⟩:=h
    rw [R.get_ok] at h
    refine ⟨0,?_⟩
    rw [← h]
    refine (zmb 0 q b).trans ?_
    unfold zbr
    cases hp:z42 q with
    | false=>rfl
    | true=>cases b.emp <;> rcases z7i hp with e | e | e | e <;> rw [e] <;> rfl
  · simp [R.get] at h
set_option maxRecDepth 100000 in
theorem zh4:z3n PR B0 21 z5n:=by
  refine z0o [(42,z4v)] [] z5n [[.int .i64,.int .i64,.int .i64,.int .i64,.int .i64,.int .i64,.int .i64,.int .i64,.int .i64,.int .i64]] Tryz.func21 zy9 ⟨zfu,trivial⟩ ?_
  intro vs r hwf h
  unfold z5n at h
  split at h
  · rename_i q
    replace h:=z2r h
    obtain ⟨q,rfl,h⟩:=h
    rw [R.get_ok] at h
    refine ⟨0,?_⟩
    rw [← h]
    refine (zt3 0 q).trans ?_
    unfold z33
    cases hp:z42 q with
    | false=>rfl
    | true=>rcases z7i hp with e | e | e | e <;> rw [e] <;> rfl
  · simp [R.get] at h
set_option maxRecDepth 100000 in
theorem zpm:z3n PR B0 47 z72:=by
  refine z0o [(42,z4v)] [] z72 [[.int .i64,.int .i64,.int .i64,.int .i64]] Tryz.func47 zun ⟨zfu,trivial⟩ ?_
  intro vs r hwf h
  unfold z72 at h
  split at h
  · rename_i q p t
    replace h:=z2r h
    obtain ⟨q,rfl,h⟩:=h
    replace h:=zbu h
    obtain ⟨p,rfl,h⟩:=h
    rw [R.get_ok] at h
    refine ⟨0,?_⟩
    rw [← h]
    refine (zqd 0 q p t).trans ?_
    unfold z4h
    cases hp:z42 q with
    | false=>rfl
    | true=>rcases z7i hp with e | e | e | e <;> rw [e] <;> rfl
  · simp [R.get] at h
def ygs (d i:Int) (s:Sp) (rest:Res):Res:=
  cond (decide (i≥d)) (cond (!((s.lo==0)&&((s.hi==0)&&true))) (some (.bool false,[])) (cond s.emp (some (.bool false,[])) (cond (!(z1g s.lo)) (some (.bool false,[])) (cond (!(z1g s.hi)) (some (.bool false,[])) rest))))
    (cond s.emp (some (.bool false,[])) (cond (!(z1g s.lo)) (some (.bool false,[])) (cond (!(z1g s.hi)) (some (.bool false,[])) rest)))
theorem zrd (d i:Int) (s:Sp) (rest:Res):ygs d i s rest=cond (zzj d i s) rest (some (.bool false,[])):=by
  unfold ygs zzj
  rw [Bool.and_true]
  cases decide (i≥d) <;> cases ((s.lo==0)&&(s.hi==0)) <;> cases s.emp <;> cases z1g s.lo <;> cases z1g s.hi <;> rfl
theorem zpj (b:Bx) (d:Int):z16 (zts 6) zj7 [.tmp 4] [[.bool]] [b.V,.int .i64 d]=ygs d 0 b.s0 (ygs d 1 b.s1 (ygs d 2 b.s2 (ygs d 3 b.s3 (ygs d 4 b.s4 (some (.bool true,[])))))):=by kernel_rfl
set_option maxRecDepth 100000 in
theorem zp8:z3n PR B0 40 z7e:=by
  refine z0o [(64,z5k),(68,z6h)] [(2,⟨[1,4,7,8],[],[]⟩)] z7e [[.bool]] Tryz.func40 ztw ⟨zfo,zj5,trivial⟩ ?_
  intro vs r hwf h
  unfold z7e at h
  split at h
  · rename_i b d
    replace h:=z2b h
    obtain ⟨b,rfl,h⟩:=h
    rw [R.get_ok] at h
    refine ⟨6,?_⟩
    rw [← h]
    refine (zpj b d).trans ?_
    rw [zrd,zrd,zrd,zrd,zrd]
    unfold zrn
    cases zzj d 0 b.s0 <;> cases zzj d 1 b.s1 <;> cases zzj d 2 b.s2 <;> cases zzj d 3 b.s3 <;> cases zzj d 4 b.s4 <;> rfl
  · simp [R.get] at h
set_option maxRecDepth 100000 in
theorem zua:z3n PR B0 41 zae:=by
  refine z0o [] [] zae [[.bool]] Tryz.func41 y36 trivial ?_
  intro vs r hwf h
  unfold zae at h
  split at h
  · rename_i m q
    replace h:=z32 h
    obtain ⟨m,rfl,h⟩:=h
    replace h:=z2r h
    obtain ⟨q,rfl,h⟩:=h
    rw [R.get_ok] at h
    refine ⟨0,?_⟩
    rw [← h]
    refine (zwj 0 m q).trans ?_
    unfold zu8
    cases (q.k==1) <;> cases (q.k==2) <;> cases (q.k==3) <;> cases decide (q.lo≤q.hi) <;> cases (q.ft==0) <;> cases decide (m.c≥2) <;> cases (q.lo==0) <;> cases (q.hi==0) <;> cases decide (q.ft≥0) <;> cases decide (q.ft < m.d) <;> rfl
  · simp [R.get] at h
set_option maxRecDepth 100000 in
theorem z8w:z3n PR B0 20 z2t:=by
  refine z0o [(39,z1u),(41,zae),(40,z7e)] [] z2t [[.bool]] Tryz.func20 zxd ⟨z65,zua,zp8,trivial⟩ ?_
  intro vs r hwf h
  unfold z2t at h
  split at h
  · rename_i m q
    replace h:=z32 h
    obtain ⟨m,rfl,h⟩:=h
    replace h:=z2r h
    obtain ⟨q,rfl,h⟩:=h
    rw [R.get_ok] at h
    refine ⟨0,?_⟩
    rw [← h]
    refine (zu7 0 m q).trans ?_
    unfold z1q Qy.bx
    generalize zrn _ _=rg
    cases z1s m <;> cases decide (q.c≥0) <;> cases decide (q.c < m.c) <;> cases decide (q.bu≥0) <;> cases decide (q.bu≤65536) <;> cases rg <;> rfl
  · simp [R.get] at h
theorem zre {w:Int} (hb:z7v w=true) (hl:(z07 w).lf=false):(0≤(z07 w).f∧(z07 w).f < 4)∧(1≤(z07 w).l∧(z07 w).l < 31)∧(1≤(z07 w).r∧(z07 w).r < 31)∧z1g (z07 w).a=true:=by
  have h:=(zrt hb).2
  unfold zdh at h
  rw [hl,z03] at h
  unfold zoc at h
  simp only [Bool.and_eq_true,decide_eq_true_eq] at h
  exact ⟨⟨h.2.1,h.2.2.1⟩,h.2.2.2.2.1,h.2.2.2.2.2,h.2.2.2.1⟩
theorem y61 (w:Int):z1g (z07 w).v=true:=by
  cases hb:z7v w with
  | false=>
    have e:z07 w=Nd.zero:=by unfold z07; rw [hb]; rfl
    rw [e]
    rfl
  | true=>
    have h:=(zrt hb).2
    unfold zdh at h
    cases hl:(z07 w).lf with
    | true=>
      rw [hl,z01,Bool.and_eq_true] at h
      exact h.2
    | false=>
      rw [hl,z03,Bool.and_eq_true,beq_iff_eq] at h
      rw [h.1]
      rfl
abbrev yj8 (l:List IV) (p:Pt) (a j:Int):St:=
  ⟨[(0,(.list false [(.int .u64)] l)),(3,(.ptr 3 0 0)),(4,(.int .i64 0)),(5,(.ptr 5 0 0)),(6,(.int .i64 a)),(9,(.int .i64 j))],[(3,(some (.box (Pt.cs p)))),(5,(some (.box [(.bool false),(.int .i64 0),(.int .i64 0),(.int .i64 0),(.int .i64 0),(.int .i64 0)])))]⟩
theorem y58 (N:Nat) (l:List IV) (p:Pt):∀ (m j n:Nat) (a:Int),0≤a→j+m=31→m < n →
    lpE (z26 N) (z0l z4b [1,1,0,1,0,0]) ⟨[0,3,4,5,6,9],[3,5],[]⟩ n (yj8 l p a (j:Int)) (z08 0 (kSq (z26 N) (z0l z4b [1,1,1]) (z2w (z26 N) none [(ResultVar.tmp 4),(ResultVar.cell 5 87)] [[(.int .i64)],[.bool,(.int .i64),(.int .i64),(.int .i64),(.int .i64),(.int .i64)]]))) =
      some (.tup [.int .i64 (zpo l p m a).1,(zpo l p m a).2.V],[])
  | m,j,0,a,_,_,h=>absurd h (by omega)
  | 0,j,n+1,a,ha,hd,_=>by
    have hj:j=31:=by omega
    subst hj
    rw [z0b,zkm,decide_eq_false (show ¬ ((31:Nat):Int) < 31 by omega),z03]
    exact zhf N p l _ _ _ _ _ _ _ _ _
  | m+1,j,n+1,a,ha,hd,hn=>by
    have ej:IntKind.wrap IntKind.i64 ((j:Int)+1)=((j+1:Nat):Int):=z68 (by omega)
    rw [z0b,zkm,decide_eq_true (show (j:Int) < 31 by omega),z01,zpo,ej]
    cases hge:decide (a≥ic l.length) with
    | true=>
      rw [z01,z01]
      exact zhf N p l _ _ _ _ _ _ _ _ _
    | false=>
      have hge:=of_decide_eq_false hge
      rw [z03,z03,decide_eq_true ha,decide_eq_true (show a < ic l.length by omega),Bool.and_self,z01]
      generalize (l.getD a.toNat default).toInt=w
      cases hb:z7v w with
      | false=>
        rw [Bool.not_false,z01,z01]
        exact zsa N p l _ _ _ _ _ _ _ _ _
      | true=>
        rw [Bool.not_true,z03,z03]
        cases hl:(z07 w).lf with
        | true=>
          rw [z01,z01]
          rfl
        | false=>
          obtain ⟨⟨f0,f4⟩,⟨l1,l31⟩,⟨r1,r31⟩,_⟩:=zre hb hl
          rw [z03,z03]
          have step:∀ c:Bool,(cond c (lpE (z26 N) (z0l z4b [1,1,0,1,0,0]) ⟨[0,3,4,5,6,9],[3,5],[]⟩ n (yj8 l p (z07 w).l ((j+1:Nat):Int)) (z08 0 (kSq (z26 N) (z0l z4b [1,1,1]) (z2w (z26 N) none [(ResultVar.tmp 4),(ResultVar.cell 5 87)] [[(.int .i64)],[.bool,(.int .i64),(.int .i64),(.int .i64),(.int .i64),(.int .i64)]]))))
              (lpE (z26 N) (z0l z4b [1,1,0,1,0,0]) ⟨[0,3,4,5,6,9],[3,5],[]⟩ n (yj8 l p (z07 w).r ((j+1:Nat):Int)) (z08 0 (kSq (z26 N) (z0l z4b [1,1,1]) (z2w (z26 N) none [(ResultVar.tmp 4),(ResultVar.cell 5 87)] [[(.int .i64)],[.bool,(.int .i64),(.int .i64),(.int .i64),(.int .i64),(.int .i64)]]))))) =
              some (.tup [.int .i64 (cond c (zpo l p m (z07 w).l) (zpo l p m (z07 w).r)).1,(cond c (zpo l p m (z07 w).l) (zpo l p m (z07 w).r)).2.V],[]):=fun c=>by
            cases c with
            | true=>exact y58 N l p m (j+1) n (z07 w).l (by omega) (by omega) (by omega)
            | false=>exact y58 N l p m (j+1) n (z07 w).r (by omega) (by omega) (by omega)
          obtain e | e | e | e:(z07 w).f=0∨(z07 w).f=1∨(z07 w).f=2∨(z07 w).f=3:=by omega
          all_goals
            rw [e]
            exact step _
set_option maxRecDepth 100000 in
theorem y0w:z3n PR B0 106 ze0:=by
  refine z0o [(88,z1y)] [(3,⟨[0,3,4,5,6,9],[3,5],[]⟩)] ze0 [[.int .i64],[.bool,.int .i64,.int .i64,.int .i64,.int .i64,.int .i64]] Tryz.func106 y8o ⟨z6e,trivial⟩ ?_
  intro vs r hwf h
  unfold ze0 at h
  split at h
  · rename_i l p
    replace h:=zbu h
    obtain ⟨p,rfl,h⟩:=h
    rw [R.get_ok] at h
    refine ⟨32,?_⟩
    rw [← h]
    exact (y3u 32 l p).trans (y58 32 l p 31 0 32 0 (by omega) rfl (by omega))
  · simp [R.get] at h
set_option maxRecDepth 100000 in
theorem zt8:z3n PR B0 89 zao:=by
  refine z0o [(106,ze0)] [] zao [[.int .i64]] Tryz.func89 y1e ⟨y0w,trivial⟩ ?_
  intro vs r hwf h
  unfold zao at h
  split at h
  · rename_i l p
    replace h:=zbu h
    obtain ⟨p,rfl,h⟩:=h
    rw [R.get_ok] at h
    exact ⟨0,(zz4 0 l p).trans h⟩
  · simp [R.get] at h
theorem z4m {n:Int} (h:z1g n=true) : -2147483648≤n∧n≤2147483647:=by
  unfold z1g at h
  simpa only [Bool.and_eq_true,decide_eq_true_eq] using h
theorem zyv (l:List IV) (p:Pt):∀ (n:Nat) (a:Int),z1g (zpo l p n a).2.v=true
  | 0,_=>rfl
  | n+1,a=>by
    rw [zpo]
    cases decide (a≥ic l.length) with
    | true=>rfl
    | false=>
      rw [z03]
      generalize (l.getD a.toNat default).toInt=w
      cases z7v w with
      | false=>rfl
      | true=>
        rw [Bool.not_true,z03]
        cases (z07 w).lf with
        | true=>exact y61 w
        | false=>
          rw [z03]
          cases decide (p.g (z07 w).f.toNat≤(z07 w).a) with
          | true=>exact zyv l p n _
          | false=>exact zyv l p n _
theorem ygg (l:List IV) (p:Pt) : -2147483648≤ziv l p∧ziv l p≤2147483647:=z4m (zyv l p 31 0)
theorem z1m {m:Md} (h:z1s m=true):(1≤m.d∧m.d≤4)∧(1≤m.c∧m.c≤3)∧m.ts.length≤8∧(z1g m.b0=true∧z1g m.b1=true∧z1g m.b2=true)∧m.ts.all (z87 m.d m.c)=true:=by
  unfold z1s zgk at h
  simp only [Bool.and_eq_true,Bool.not_eq_true',decide_eq_false_iff_not] at h
  obtain ⟨⟨h1,h2,h3,h4,h5⟩,⟨h6,h7,h8⟩,h9⟩:=h
  exact ⟨⟨by omega,by omega⟩,⟨by omega,by omega⟩,Nat.le_of_ble_eq_true h5,⟨h6.1,h7.1,h8.1⟩,h9⟩
theorem y6f {m:Md} {k:Int} (h:zai m k=true):0≤k∧k < m.c:=by
  unfold zai at h
  simpa only [Bool.and_eq_true,decide_eq_true_eq] using h
theorem zs1 {m:Md} {k:Int} (hm:z1s m=true) (h:zai m k=true):k=0∨k=1∨k=2:=by
  have:=y6f h
  have:=(z1m hm).2.1
  omega
theorem zz2 {m:Md} (hm:z1s m=true) (k:Int) : -2147483648≤zb2 m k∧zb2 m k≤2147483647:=by
  obtain ⟨h0,h1,h2⟩:=(z1m hm).2.2.2.1
  unfold zb2
  cases (k==0) with
  | true=>exact z4m h0
  | false=>
    cases (k==1) with
    | true=>exact z4m h1
    | false=>exact z4m h2
abbrev yjm (ts:List IV) (p:Pt) (k s i:Int):St:=
  ⟨[(1,(.int .i64 k)),(5,(.ptr 5 0 0)),(6,(.int .i64 0)),(7,(.int .i64 s)),(15,(.list true [(.int .i64),(.list false [(.int .u64)])] ts)),(16,(.int .i64 (ic (List.length ts)))),(17,(.int .i64 i))],[(5,(some (.box (Pt.cs p))))]⟩
theorem zwk (N:Nat) (ts:List IV) (p:Pt) (k:Int) (hts:ts.length≤8):∀ (m i n:Nat) (s:Int),i+m=ts.length→m < n → -2147483648*(i+1)≤s∧s≤2147483648*(i+1) →
    lpE (z1n N) (z0l z2z [1,1,0,1,0,0]) ⟨[1,5,6,7,15,16,17],[5],[]⟩ n (yjm ts p k s (i:Int)) (z08 0 (kSq (z1n N) (z0l z2z [1,1,1]) (z2w (z1n N) none [(ResultVar.tmp 6)] [[(.int .i64)]]))) =
      some (.int .i64 (evF k p (ts.drop i) s),[])
  | m,i,0,s,_,h,_=>absurd h (by omega)
  | 0,i,n+1,s,hd,_,_=>by
    have hi:i=ts.length:=by omega
    subst hi
    rw [z0b,zhm,zcy (Nat.le_refl _),z03,List.drop_length]
    exact zn9 N p _ _ _ _ _ _
  | m+1,i,n+1,s,hd,hn,hs=>by
    have hi:i < ts.length:=by omega
    have ei:IntKind.wrap IntKind.i64 ((i:Int)+1)=((i+1:Nat):Int):=z68 (by omega)
    rw [z0b,zhm,ei,zb1 hi,z01,zjz,Bool.and_self,z01,zc7 hi,List.drop_eq_getElem_cons hi,evF]
    have hv:=ygg (z97 ts[i]) p
    cases hc:((ts[i].cell 0).toInt==k) with
    | true=>
      rw [z01,z01]
      have ew:IntKind.wrap IntKind.i64 (s+ziv (z97 ts[i]) p)=s+ziv (z97 ts[i]) p:=z12 (by omega) (by omega)
      have ih:=zwk N ts p k hts m (i+1) n (s+ziv (z97 ts[i]) p) (by omega) (by omega) (by omega)
      rw [← ew] at ih
      refine Eq.trans ih ?_
      rw [ew]
    | false=>
      rw [z03,z03]
      exact zwk N ts p k hts m (i+1) n s (by omega) (by omega) (by omega)
set_option maxRecDepth 100000 in
theorem zt6:z3n PR B0 70 za6:=by
  refine z0o [(89,zao)] [(3,⟨[1,5,6,7,15,16,17],[5],[]⟩)] za6 [[.int .i64]] Tryz.func70 zzx ⟨zt8,trivial⟩ ?_
  intro vs r hwf h
  unfold za6 at h
  split at h
  · rename_i m k p
    replace h:=z32 h
    obtain ⟨m,rfl,h⟩:=h
    replace h:=zbu h
    obtain ⟨p,rfl,h⟩:=h
    cases hg:(z1s m&&zai m k) with
    | false=>rw [hg] at h; simp [R.get] at h
    | true=>
    rw [hg,R.get_br,z01,R.get_ok] at h
    rw [Bool.and_eq_true] at hg
    have hb:=zz2 hg.1 k
    have run:=zwk 10 m.ts p k (z1m hg.1).2.2.1 m.ts.length 0 10 (zb2 m k) (by omega) (by have:=(z1m hg.1).2.2.1; omega) (by omega)
    refine ⟨10,?_⟩
    rw [← h]
    refine (zxu 10 m k p).trans ?_
    rcases zs1 hg.1 hg.2 with rfl | rfl | rfl <;> exact run
  · simp [R.get] at h
set_option maxRecDepth 100000 in
theorem zue:z3n PR B0 46 zaf:=by
  refine z0o [(39,z1u),(70,za6)] [] zaf [[.int .i64]] Tryz.func46 y2d ⟨z65,zt6,trivial⟩ ?_
  intro vs r hwf h
  unfold zaf at h
  split at h
  · rename_i m k p
    replace h:=z32 h
    obtain ⟨m,rfl,h⟩:=h
    replace h:=zbu h
    obtain ⟨p,rfl,h⟩:=h
    rw [R.get_ok] at h
    refine ⟨0,?_⟩
    rw [← h]
    refine (zx3 0 m k p).trans ?_
    unfold z2a zai
    cases z1s m with
    | false=>rfl
    | true=>
      cases h0:decide (k < 0) with
      | true=>rw [decide_eq_false (show ¬ 0≤k by have:=of_decide_eq_true h0; omega)]; rfl
      | false=>
        rw [decide_eq_true (show 0≤k by have:=of_decide_eq_false h0; omega)]
        cases h1:decide (k≥m.c) with
        | true=>rw [decide_eq_false (show ¬ k < m.c by have:=of_decide_eq_true h1; omega)]; rfl
        | false=>rw [decide_eq_true (show k < m.c by have:=of_decide_eq_false h1; omega)]; rfl
  · simp [R.get] at h
abbrev yiw (m:Md) (q:Qy) (p:Pt) (own i:Int):St:=
  ⟨[(4,(.ptr 4 0 0)),(5,(.ptr 5 0 0)),(6,(.ptr 6 0 0)),(8,(.bool false)),(9,(.int .i64 own)),(36,(.int .i64 (Md.c m))),(37,(.int .i64 i))],[(4,(some (.box (Md.cs m)))),(5,(some (.box (Qy.cs q)))),(6,(some (.box (Pt.cs p))))]⟩
def y9p (m:Md) (q:Qy) (p:Pt) (own:Int):Nat→Nat→Bool
  | 0,_=>false
  | d+1,i=>(!((i:Int)==q.c)&&decide (z2a m (i:Int) p≥own))||y9p m q p own d (i+1)
theorem y6e (m:Md) (q:Qy) (p:Pt) (own:Int):∀ d i,y9p m q p own d i=(List.range' i d).any fun c=>!((c:Int)==q.c)&&decide (z2a m (c:Int) p≥own)
  | 0,_=>rfl
  | d+1,i=>by rw [y9p,y6e m q p own d (i+1),List.range'_succ,List.any_cons]
theorem zvz (N:Nat) (m:Md) (q:Qy) (p:Pt) (own:Int) (hc:0≤m.c∧m.c≤3):∀ (d i n:Nat),((i+d:Nat):Int)=m.c→d < n →
    lpE (z19 N) (z0l z1k [1,1,1,0,1,0,1,1,1,0,0,1,0,0]) ⟨[4,5,6,8,9,36,37],[4,5,6],[]⟩ n (yiw m q p own (i:Int)) (z08 1 (kSq (z19 N) (z0l z1k [1,1,1,0,1,0,1,1,1,0,1]) (z08 0 (kSq (z19 N) (z0l z1k [1,1,1,1]) (z2w (z19 N) none [(ResultVar.tmp 8)] [[.bool]]))))) =
      some (.bool (y9p m q p own d i),[])
  | d,i,0,_,h=>absurd h (by omega)
  | 0,i,n+1,hd,_=>by
    rw [z0b,zef,decide_eq_false (show ¬ (i:Int) < m.c by omega),z03]
    exact zjy N m q p _ _ _ _
  | d+1,i,n+1,hd,hn=>by
    have ei:IntKind.wrap IntKind.i64 ((i:Int)+1)=((i+1:Nat):Int):=z68 (by omega)
    rw [z0b,zef,ei,decide_eq_true (show (i:Int) < m.c by omega),z01,y9p]
    have ih:=zvz N m q p own hc d (i+1) n (by omega) (by omega)
    have en:((i:Int) != q.c)=!((i:Int)==q.c):=rfl
    rw [en]
    cases ((i:Int)==q.c) with
    | true=>exact ih
    | false=>
      rw [Bool.not_false,z01,Bool.true_and]
      cases decide (z2a m (i:Int) p≥own) with
      | true=>exact zjt N m q p _ _ _ _
      | false=>exact ih
theorem z61 {m:Md} {q:Qy} (h:z1q m q=true):z1s m=true∧(0≤q.c∧q.c < m.c)∧(0≤q.bu∧q.bu≤65536)∧zrn q.bx m.d=true∧zu8 m q=true:=by
  unfold z1q at h
  simp only [Bool.and_eq_true,decide_eq_true_eq] at h
  exact ⟨h.1,⟨h.2.1,h.2.2.1⟩,⟨h.2.2.2.1,h.2.2.2.2.1⟩,h.2.2.2.2.2.1,h.2.2.2.2.2.2⟩
theorem zhx {m:Md} {q:Qy} (h:zu8 m q=true):(q.k=1∧q.lo≤q.hi∧q.ft=0∧q.fl=false)∨(q.k=2∧2≤m.c∧q.lo=0∧q.hi=0∧q.ft=0∧q.fl=false)∨(q.k=3∧(0≤q.ft∧q.ft < m.d)∧q.lo=0∧q.hi=0):=by
  unfold zu8 at h
  cases h1:(q.k==1) with
  | true=>
    rw [h1,z01] at h
    simp only [Bool.and_eq_true,decide_eq_true_eq,beq_iff_eq,Bool.not_eq_true'] at h
    exact .inl ⟨beq_iff_eq.1 h1,h⟩
  | false=>
    rw [h1,z03] at h
    cases h2:(q.k==2) with
    | true=>
      rw [h2,z01] at h
      simp only [Bool.and_eq_true,decide_eq_true_eq,beq_iff_eq,Bool.not_eq_true',ge_iff_le] at h
      exact .inr (.inl ⟨beq_iff_eq.1 h2,h⟩)
    | false=>
      rw [h2,z03] at h
      cases h3:(q.k==3) with
      | true=>
        rw [h3,z01] at h
        simp only [Bool.and_eq_true,decide_eq_true_eq,beq_iff_eq,ge_iff_le] at h
        exact .inr (.inr ⟨beq_iff_eq.1 h3,⟨h.1,h.2.1⟩,h.2.2⟩)
      | false=>rw [h3,z03] at h; cases h
set_option maxRecDepth 100000 in
theorem zg5:z3n PR B0 25 z4u:=by
  refine z0o [(46,zaf),(20,z2t),(47,z72),(45,z9b)] [(9,⟨[4,5,6,8,9,36,37],[4,5,6],[]⟩)] z4u [[.bool]] Tryz.func25 zum ⟨zue,z8w,zpm,zo6,trivial⟩ ?_
  intro vs r hwf h
  unfold z4u at h
  split at h
  · rename_i m q p t
    replace h:=z32 h
    obtain ⟨m,rfl,h⟩:=h
    replace h:=z2r h
    obtain ⟨q,rfl,h⟩:=h
    replace h:=zbu h
    obtain ⟨p,rfl,h⟩:=h
    rw [R.get_ok] at h
    refine ⟨10,?_⟩
    rw [← h]
    refine (zsz 10 m q p t).trans ?_
    unfold z2l
    cases hr:z1q m q with
    | false=>rfl
    | true=>
      obtain ⟨hm,_,_,_,hk⟩:=z61 hr
      have hmp:=z1m hm
      rw [Bool.not_true,z03,Bool.true_and]
      cases h1:(q.k==1) with
      | true=>rfl
      | false=>
        rw [z03,z03]
        cases h2:(q.k==2) with
        | true=>
          rw [z01,z01]
          refine (zvz 10 m q p _ (by omega) m.c.toNat 0 10 (by omega) (by omega)).trans ?_
          rw [y6e,← List.range_eq_range']
          rfl
        | false=>
          rw [z03,z03]
          rcases zhx hk with ⟨e,_⟩ | ⟨e,_⟩ | ⟨_,⟨f0,fd⟩,_⟩
          · rw [e] at h1; cases h1
          · rw [e] at h2; cases h2
          · have step:∀ x:Int,cond (decide (x≥t)) (some (V.bool false,[])) (cond q.fl (some (V.bool (decide (z2a m q.c (z4h q p t) > z2a m q.c p)),[])) (some (V.bool (decide (z2a m q.c (z4h q p t) < z2a m q.c p)),[]))) =
                some (V.bool (cond (decide (x≥t)) false (cond q.fl (decide (z2a m q.c (z4h q p t) > z2a m q.c p)) (decide (z2a m q.c (z4h q p t) < z2a m q.c p)))),([]:List (List V))):=fun x=>by
              cases decide (x≥t) with
              | true=>rfl
              | false=>cases q.fl <;> rfl
            obtain e | e | e | e:q.ft=0∨q.ft=1∨q.ft=2∨q.ft=3:=by omega
            all_goals
              rw [e]
              exact step _
  · simp [R.get] at h
open Go Go.Proofs Go.RowKit Go.Sort
theorem zsx (x:Int):∀ l,(yf2 x l).Perm (x :: l)
  | []=>List.Perm.refl _
  | y :: r=>by
    rw [yf2]
    cases decide (x≤y) with
    | true=>exact List.Perm.refl _
    | false=>exact ((zsx x r).cons y).trans (List.Perm.swap x y r)
theorem z6p:∀ l,(zgj l).Perm l
  | []=>List.Perm.refl _
  | x :: r=>(zsx x (zgj r)).trans ((z6p r).cons x)
theorem zqf (x:Int):∀ {l:List Int},l.Pairwise (·≤·)→(yf2 x l).Pairwise (·≤·)
  | [],_=>by simp [yf2]
  | y :: r,h=>by
    rw [yf2]
    cases hd:decide (x≤y) with
    | true=>
      have hd:=of_decide_eq_true hd
      rw [z01]
      rw [List.pairwise_cons] at h ⊢
      refine ⟨fun z hz=>?_,by rw [List.pairwise_cons]; exact h⟩
      rcases List.mem_cons.1 hz with rfl | hz
      · exact hd
      · exact Int.le_trans hd (h.1 z hz)
    | false=>
      have hd:=of_decide_eq_false hd
      rw [z03]
      rw [List.pairwise_cons] at h ⊢
      refine ⟨fun z hz=>?_,zqf x h.2⟩
      rcases List.mem_cons.1 ((zsx x r).mem_iff.1 hz) with rfl | hz
      · omega
      · exact h.1 z hz
theorem znx:∀ l,(zgj l).Pairwise (·≤·)
  | []=>List.Pairwise.nil
  | x :: r=>zqf x (znx r)
theorem y4a (l:List Int):(l.mergeSort fun x y=>decide (x≤y))=zgj l:=by
  refine List.Perm.eq_of_pairwise (le:=(·≤·)) (fun a b _ _ h1 h2=>Int.le_antisymm h1 h2) ?_ (znx l) ((List.mergeSort_perm l _).trans (z6p l).symm)
  have:=List.pairwise_mergeSort (le:=fun (x y:Int)=>decide (x≤y)) (fun a b c h1 h2=>decide_eq_true (Int.le_trans (of_decide_eq_true h1) (of_decide_eq_true h2))) (fun a b=>by
    rcases Int.le_total a b with h | h
    · rw [decide_eq_true h]; rfl
    · rw [decide_eq_true h,Bool.or_true]) l
  exact this.imp fun h=>by simpa using h
theorem zzk (x:Int):∀ (l:List Int) (p:Int),y56 p (l++[x])=y56 p l++cond ((l.getLast?.getD p)==x) [] [x]
  | [],p=>by
    show cond (x==p) (y56 x []) (x :: y56 x [])=_
    rw [show ((([]:List Int).getLast?.getD p)==x)=(x==p) by show (p==x)=(x==p); rw [Bool.eq_iff_iff,beq_iff_eq,beq_iff_eq]; exact eq_comm]
    cases (x==p) <;> rfl
  | y :: r,p=>by
    rw [List.cons_append,y56,y56,zzk x r y]
    have e:((y :: r).getLast?.getD p)=r.getLast?.getD y:=by
      cases r with
      | nil=>rfl
      | cons z r=>rw [List.getLast?_cons_cons,List.getLast?_eq_some_getLast (List.cons_ne_nil z r)]; rfl
    rw [e]
    cases (y==p) <;> rfl
theorem y9q (x:Int) (l:List Int):zxe (l++[x])=zxe l++cond (l.getLast?==some x) [] [x]:=by
  cases l with
  | nil=>rfl
  | cons y r=>
    rw [List.cons_append,zxe,zxe,zzk,List.cons_append]
    congr 2
    have:((y :: r).getLast?==some x)=(r.getLast?.getD y==x):=by
      cases r with
      | nil=>show (some y==some x)=(y==x); rw [Bool.eq_iff_iff]; simp
      | cons z r=>rw [List.getLast?_cons_cons,List.getLast?_eq_some_getLast (List.cons_ne_nil z r)]; rw [Bool.eq_iff_iff]; simp
    rw [this]
theorem y2v (l:List Int):Lib.compact l=zxe l:=by
  have key:∀ m,m≤l.length→Lib.compactUpTo l.toArray m=zxe (l.take m):=by
    intro m
    induction m with
    | zero=>intro _; rfl
    | succ m ih=>
      intro hm
      have e1:Lib.compactUpTo l.toArray (m+1)=Lib.compactUpTo l.toArray m++cond (Lib.keeps l.toArray m) [l.toArray[m]!] []:=by
        unfold Lib.compactUpTo
        rw [List.range_succ,List.filter_append,List.map_append]
        congr 1
        cases hk:Lib.keeps l.toArray m <;> simp [hk]
      have hml:m < l.length:=by omega
      have e2:l.toArray[m]! = l[m]:=by simp [hml]
      rw [e1,ih (by omega),List.take_succ_eq_append_getElem hml,y9q,e2]
      congr 1
      cases m with
      | zero=>simp [Lib.keeps]
      | succ k=>
        have hk:k < l.length:=by omega
        have e3:(l.take (k+1)).getLast?=some l[k]:=by rw [List.getLast?_take]; simp [hk]
        rw [e3]
        have e4:l.toArray[k]! = l[k]:=by simp [hk]
        cases hq:Lib.keeps l.toArray (k+1) with
        | true=>
          have:¬ (l[k+1]=l[k]):=fun he=>by
            rw [Lib.keeps_neg (Nat.succ_pos k) (by show l.toArray[k+1]! = l.toArray[k]!; rw [e2,e4]; exact he)] at hq
            cases hq
          rw [z01]
          rw [show (some l[k]==some l[k+1])=false by simp; exact fun h=>this h.symm]
          rfl
        | false=>
          have:l[k+1]=l[k]:=by
            by_cases he:l[k+1]=l[k]
            · exact he
            · rw [Lib.keeps_pos (by show l.toArray[k+1]!≠l.toArray[k]!; rw [e2,e4]; exact he)] at hq
              cases hq
          rw [z03,this]
          rw [show (some l[k]==some l[k])=true by simp]
          rfl
  unfold Lib.compact
  rw [key _ (Nat.le_refl _),List.take_length]
theorem y5v:∀ (l:List Int) (p:Int),(y56 p l).length≤l.length
  | [],_=>Nat.le_refl _
  | x :: r,p=>by
    have:=y5v r x
    rw [y56]
    cases (x==p)
    · rw [z03,List.length_cons,List.length_cons]; omega
    · rw [z01,List.length_cons]; omega
theorem zpw (l:List Int):(zxe l).length≤l.length:=by
  cases l with
  | nil=>exact Nat.le_refl _
  | cons x r=>rw [zxe,List.length_cons,List.length_cons]; have:=y5v r x; omega
theorem zwy {p x:Int}:∀ {l:List Int},x∈y56 p l→x∈l
  | [],h=>by cases h
  | y :: r,h=>by
    rw [y56] at h
    cases hb:(y==p)
    · rw [hb,z03] at h
      rcases List.mem_cons.1 h with h | h
      · exact h ▸ List.mem_cons_self ..
      · exact List.mem_cons_of_mem _ (zwy h)
    · rw [hb,z01] at h
      exact List.mem_cons_of_mem _ (zwy h)
theorem y65 {x:Int} {l:List Int} (h:x∈zxe l):x∈l:=by
  cases l with
  | nil=>cases h
  | cons y r=>
    rcases List.mem_cons.1 h with h | h
    · exact h ▸ List.mem_cons_self ..
    · exact List.mem_cons_of_mem _ (zwy h)
theorem zgy (l:List Int):(iZ l).length=l.length:=List.length_map ..
theorem zyj (l:List Int):(iZ l).map IV.toInt=l:=by
  unfold iZ
  rw [List.map_map]
  exact List.map_id l
theorem zqo (l:List Int):zc5 (iZ l)=l.map (Value.int .i64):=by
  unfold zc5 iZ
  rw [List.map_map]
  rfl
theorem y7j (l:List IV):zc5 l=(l.map IV.toInt).map (Value.int .i64):=by
  unfold zc5
  rw [List.map_map]
  rfl
abbrev zt9:Int→Value:=Value.int .i64
theorem zl6 {w:World} {e g n cap:Nat} {zs:List Int} (h:w.ownsRow 0 e 1 (.slice (some ⟨g,0,none⟩) n cap) zs.length (zs.map zt9)):n=zs.length∧n≤cap∧cap≤maxLen∧g < w.heap.size∧Holds zt9 w g 0 zs.toArray:=by
  rcases h.2 with ⟨h1,_⟩ | ⟨g',cap',cur,h1,_,h2,h3,h4,h5,h6⟩
  · cases h1
  · simp only [Value.slice.injEq,Option.some.injEq,Addr.mk.injEq,and_true] at h1
    obtain ⟨rfl,rfl,rfl⟩:=h1
    refine ⟨rfl,h3,h4,(Array.getElem?_eq_some_iff.1 h2).1,fun j hj=>?_⟩
    have hj':j < zs.length:=by simpa using hj
    rw [Nat.zero_add]
    constructor
    · have hc:cur[j]?=some (zt9 zs[j]):=by
        have:(cur.toList.take (zs.length*1))[j]?=some (zt9 zs[j]):=by rw [h6]; simp [hj']
        rw [List.getElem?_take,if_pos (by omega)] at this
        simpa using this
      simp only [World.cell?,h2]
      simp [hc,hj']
    · simp [World.frozen?,h2]
theorem ydn {w:World} {g:Nat} {cur:Array Value} {e:TypeId} {fr:Nat × Nat} (h:w.heap[g]?=some (.cells cur e fr)) (q:Nat) (os:Array Obj) (zs:List Int) :
    (grow (putRow zt9 (Sort.ahead w q) g 0 zs.toArray) os).heap[g]?=some (.cells (putCells zt9 0 zs.toArray cur) e fr):=by
  have hg:g < w.heap.size:=(Array.getElem?_eq_some_iff.1 h).1
  have h0:(putRow zt9 (Sort.ahead w q) g 0 zs.toArray).heap[g]?=some (.cells (putCells zt9 0 zs.toArray cur) e fr):=by
    unfold putRow mapBlock
    simp [Array.getElem?_modify,onCells,h]
  unfold grow
  simp only
  rw [Array.getElem?_append_left (by rw [size_putRow]; exact hg)]
  exact h0
theorem ya8 {cur:Array Value} {zs:List Int} (h:zs.length≤cur.size):(putCells zt9 0 zs.toArray cur).size=cur.size∧(putCells zt9 0 zs.toArray cur).toList.take zs.length=zs.map zt9:=by
  refine ⟨by simp [putCells],?_⟩
  apply List.ext_getElem?
  intro k
  rw [List.getElem?_take]
  by_cases hk:k < zs.length
  · rw [if_pos hk]
    have hc:k < cur.size:=by omega
    simp [putCells,hk,hc]
  · rw [if_neg hk]
    simp [hk]
theorem y4w {w:World} {e g n cap:Nat} {zs:List Int} (h:w.ownsRow 0 e 1 (.slice (some ⟨g,0,none⟩) n cap) zs.length (zs.map zt9)) (q:Nat) (os:Array Obj) (ys rest:List Int) (hl:(ys++rest).length=zs.length) :
    w.grownBy (grow (putRow zt9 (Sort.ahead w q) g 0 (ys++rest).toArray) os) (some g) ∧
      (grow (putRow zt9 (Sort.ahead w q) g 0 (ys++rest).toArray) os).ownsRow 0 e 1 (.slice (some ⟨g,0,none⟩) ys.length cap) ys.length (ys.map zt9):=by
  have hh:=zl6 h
  rcases h.2 with ⟨h1,_⟩ | ⟨g',cap',cur,h1,_,h2,h3,h4,h5,h6⟩
  · cases h1
  · simp only [Value.slice.injEq,Option.some.injEq,Addr.mk.injEq,and_true] at h1
    obtain ⟨rfl,rfl,rfl⟩:=h1
    rw [List.length_append] at hl
    have hcur:(ys++rest).length≤cur.size:=by rw [List.length_append]; omega
    obtain ⟨p1,p2⟩:=ya8 (zs:=ys++rest) hcur
    refine ⟨⟨rfl,rfl,rfl,?_,fun k hk hne=>?_⟩,by simp,.inr ⟨g,cap,_,rfl,Nat.zero_le _,ydn h2 q os _,by omega,h4,by rw [p1,h5],?_⟩⟩
    · show w.heap.size≤((putRow zt9 (Sort.ahead w q) g 0 (ys++rest).toArray).heap++os).size
      rw [Array.size_append,size_putRow]
      exact Nat.le_add_right _ _
    · have hne':g≠k:=fun e=>hne (by rw [e])
      unfold grow
      simp only
      rw [Array.getElem?_append_left (by rw [size_putRow]; exact hk)]
      unfold putRow mapBlock
      simp [Array.getElem?_modify,hne']
    · rw [Nat.mul_one]
      have:=congrArg (List.take ys.length) p2
      rw [List.take_take,Nat.min_eq_left (by rw [List.length_append]; omega),List.map_append,List.take_left' (by simp)] at this
      exact this
theorem zv1 (w:World) (r:Option Nat):w.grownBy w r:=⟨rfl,rfl,rfl,Nat.le_refl _,fun _ _ _=>rfl⟩
theorem ya5 {l:List IV} (h:∀ x∈l,IntKind.i64.min≤x.toInt∧x.toInt≤IntKind.i64.max) {ys:List Int} (hs:∀ y∈ys,y∈l.map IV.toInt):∀ x∈iZ ys,IntKind.i64.min≤x.toInt∧x.toInt≤IntKind.i64.max:=by
  intro x hx
  obtain ⟨y,hy,rfl⟩:=List.mem_map.1 hx
  obtain ⟨z,hz,hzy⟩:=List.mem_map.1 (hs y hy)
  show IntKind.i64.min≤y∧y≤IntKind.i64.max
  rw [← hzy]
  exact h z hz
theorem zsn {w:World} {e:Nat} {v:Value} {l:List IV} (h:w.ownsRow 0 e 1 v l.length (zc5 l)):(v = .slice none 0 0∧l=[])∨∃ g cap,v = .slice (some ⟨g,0,none⟩) (l.map IV.toInt).length cap∧w.ownsRow 0 e 1 (.slice (some ⟨g,0,none⟩) (l.map IV.toInt).length cap) (l.map IV.toInt).length ((l.map IV.toInt).map zt9):=by
  rcases h.2 with ⟨h1,h2⟩ | ⟨g,cap,cur,h1,_⟩
  · exact .inl ⟨h1,List.length_eq_zero_iff.1 h2⟩
  · rw [h1] at h
    refine .inr ⟨g,cap,by rw [h1,List.length_map],?_⟩
    rw [List.length_map,← y7j]
    exact h
set_option maxRecDepth 100000 in
theorem y78:zyx PR 100 y6b:=by
  intro w v l l' rs ys hown hrng hlen hr hg
  unfold y6b at hg
  simp only at hg
  split at hg
  · simp only [Option.some.injEq] at hg
    subst hg
    obtain rfl:ys=[]:=by
      cases ys with
      | nil=>rfl
      | cons y ys=>simp [zoi] at hr
    refine Does.of_calls Tryz.func100 (by kernel_rfl) (by kernel_rfl) ?_
    have hmem:∀ y∈zgj (l.map IV.toInt),y∈l.map IV.toInt:=fun y hy=>(z6p _).mem_iff.1 hy
    rcases zsn hown with ⟨rfl,rfl⟩ | ⟨g,cap,rfl,ho⟩
    · refine (Tryz.slices_Sort_int_none none 0 w).mono ?_
      rintro e w' ⟨rfl,rfl⟩
      exact ⟨_,rfl,zv1 _ _,fun x hx=>(by cases hx),fun h=>(by cases h),fun _=>hown⟩
    · obtain ⟨_,_,hcm,hgs,hH⟩:=zl6 ho
      refine (Tryz.slices_Sort_int g 0 cap (l.map IV.toInt) w hH hgs (by rw [List.length_map]; unfold strMax at hlen; omega)).mono ?_
      rintro e w' ⟨rfl,q,os,rfl⟩
      rw [y4a]
      have hl:(zgj (l.map IV.toInt)++[]).length=(l.map IV.toInt).length:=by rw [List.append_nil]; exact (z6p _).length_eq
      have hp:=y4w ho q os (zgj (l.map IV.toInt)) [] hl
      rw [List.append_nil] at hp hl
      refine ⟨_,rfl,hp.1,ya5 hrng hmem,fun h=>(by cases h),fun _=>?_⟩
      rw [zqo,zgy,← hl]
      exact hp.2
  · cases hg
set_option maxRecDepth 100000 in
theorem zy3:zyx PR 101 zlw:=by
  intro w v l l' rs ys hown hrng hlen hr hg
  unfold zlw at hg
  simp only at hg
  split at hg
  · simp only [Option.some.injEq] at hg
    subst hg
    obtain rfl:ys=[]:=by
      cases ys with
      | nil=>rfl
      | cons y ys=>simp [zoi] at hr
    refine Does.of_calls Tryz.func101 (by kernel_rfl) (by kernel_rfl) ?_
    rcases zsn hown with ⟨rfl,rfl⟩ | ⟨g,cap,rfl,ho⟩
    · refine (Tryz.slices_Compact_int_empty none 0 w).mono ?_
      rintro e w' ⟨rfl,rfl⟩
      exact ⟨_,rfl,zv1 _ _,fun x hx=>(by cases hx),fun _=>⟨hown,fun b hb=>(by simp [Value.ownBlock] at hb)⟩,fun h=>by cases h⟩
    · obtain ⟨_,hnc,hcm,hgs,hH⟩:=zl6 ho
      refine (Tryz.slices_Compact_int g 0 cap (l.map IV.toInt) w hH (by rw [List.length_map]; unfold strMax at hlen; omega) hnc).mono ?_
      rintro e w' ⟨rfl,q,rfl⟩
      rw [y2v]
      have hlc:=zpw (l.map IV.toInt)
      have hp:=y4w ho q #[] (zxe (l.map IV.toInt)) (List.replicate ((l.map IV.toInt).length - (zxe (l.map IV.toInt)).length) 0) (by rw [List.length_append,List.length_replicate]; omega)
      rw [grow_empty] at hp
      refine ⟨_,rfl,hp.1,ya5 hrng fun y hy=>y65 hy,fun _=>⟨?_,fun b hb=>.inl hb⟩,fun h=>by cases h⟩
      rw [zqo,zgy]
      exact hp.2
  · cases hg
set_option maxHeartbeats 1000000 in
set_option maxRecDepth 100000 in
theorem zvy (a b x:Int) (B:Nat) (W:World) (ha:W.cell? ⟨B,0,none⟩=some (.int .i64 a)) (hb:W.cell? ⟨B,1,none⟩=some (.int .i64 b)) :
    FnGives Tryz.prog 84 #[.pointer (some ⟨B,0,none⟩)] #[.int .i64 x] (.bool (decide (x < a)||decide (x≥b))) W:=by
  show Calls Tryz.prog 84 #[.int .i64 x,.pointer (some ⟨B,0,none⟩)] W _
  go_enter Tryz.func84,Tryz.ntmps84
  go_wp2
  all_goals (go_ret; exact ⟨by simp_all,0,rfl⟩)
set_option maxHeartbeats 1000000 in
set_option maxRecDepth 100000 in
theorem y7a (fv:Value) (w:World):Calls Tryz.prog 82 #[.slice none 0 0,fv] w fun e w'=>e = .returned (.slice none 0 0)∧∃ q,w'=w.drewN q:=by
  go_enter Tryz.func82,Tryz.ntmps82
  go_wp2_with (go_at_call 99; refine (Tryz.slices_IndexFunc_empty (α:=Int) none 0 fv _).mono ?_; rintro e w' ⟨rfl,rfl⟩)
  go_ret
  exact ⟨rfl,0,rfl⟩
theorem y7l {w:World} {v:Value} {f:Nat} {a b:Int} {ys:List Value} (h:zoi w v [.clo f [.bor [.int .i64 a,.int .i64 b]]] ys):∃ B,ys=[.func (.func f) #[] #[.pointer (some ⟨B,0,none⟩)]]∧B < w.heap.size∧w.cell? ⟨B,0,none⟩=some (.int .i64 a)∧w.cell? ⟨B,1,none⟩=some (.int .i64 b)∧v.ownBlock≠some B:=by
  cases ys with
  | nil=>simp [zoi] at h
  | cons y r=>
    cases r with
    | cons _ _=>simp [zoi] at h
    | nil=>
      simp only [zoi] at h
      obtain ⟨B,c,T,rfl,hh,hc,hne⟩:=h
      refine ⟨B,rfl,(Array.getElem?_eq_some_iff.1 hh).1,?_,?_,hne⟩
      · simp only [World.cell?,hh]
        rw [← Array.getElem?_toList,hc]
        rfl
      · simp only [World.cell?,hh]
        rw [← Array.getElem?_toList,hc]
        rfl
set_option maxRecDepth 100000 in
theorem y2s:zyx PR 82 zpq:=by
  intro w v l l' rs ys hown hrng hlen hr hg
  unfold zpq at hg
  simp only at hg
  split at hg
  · rename_i f a b
    cases hf:Nat.beq f 84 with
    | false=>rw [hf,z03] at hg; cases hg
    | true=>
      rw [hf,z01,Option.some.injEq] at hg
      subst hg
      obtain rfl:=z1d.1 hf
      obtain ⟨B,rfl,hBs,ha,hb,hne⟩:=y7l hr
      have pe:zgq a b (l.map IV.toInt)=(l.map IV.toInt).filter fun x=>!(decide (x < a)||decide (x≥b)):=rfl
      have eg:∀ args w,(callFunc 84 args).run Tryz.prog w = .ok (.enter 84 args) w:=enters_of Tryz.func84 (by kernel_rfl) rfl
      have hp:PredAt Tryz.prog 84 #[.pointer (some ⟨B,0,none⟩)] zt9 (fun x=>decide (x < a)||decide (x≥b)) w:=
        fun W x hbw=>zvy a b x B W ((hbw.cell (p:=⟨B,0,none⟩) hBs).trans ha) ((hbw.cell (p:=⟨B,1,none⟩) hBs).trans hb)
      rcases zsn hown with ⟨rfl,rfl⟩ | ⟨g,cap,rfl,ho⟩
      · refine Does.of_calls Tryz.func82 (by kernel_rfl) (by kernel_rfl) ((y7a _ w).mono ?_)
        rintro e w' ⟨rfl,q,rfl⟩
        exact ⟨_,rfl,⟨rfl,rfl,rfl,Nat.le_refl _,fun _ _ _=>rfl⟩,fun x hx=>(by cases hx),fun _=>⟨World.ownsRow_nil _ 0 _ _,fun b hb=>(by simp [Value.ownBlock] at hb)⟩,fun h=>by cases h⟩
      · obtain ⟨_,hnc,hcm,hgs,hH⟩:=zl6 ho
        have hBg:B≠g:=fun e=>hne (by rw [e]; rfl)
        have hpo:PredOver Tryz.prog 84 #[.pointer (some ⟨B,0,none⟩)] zt9 (fun x=>decide (x < a)||decide (x≥b)) g 0 (l.map IV.toInt).toArray.size w:=
          fun n os dk x _=>by
            have hcell:∀ o u,w.cell? ⟨B,o,none⟩=some u→(sortWorld zt9 w g 0 n dk os).cell? ⟨B,o,none⟩=some u:=fun o u hu=>by
              unfold sortWorld
              rw [cell?_grow _ _ _ (by show B < (putRow _ _ _ _ _).heap.size; rw [size_putRow]; exact hBs),cell?_putRow_other _ _ g 0 _ _ (Or.inl hBg)]
              exact hu
            exact zvy a b x B _ (hcell 0 _ ha) (hcell 1 _ hb)
        refine Does.of_calls Tryz.func82 (by kernel_rfl) (by kernel_rfl) ?_
        have hcall:=Tryz.slices_DeleteFunc zt9 (fun _=>rfl) (fun x=>decide (x < a)||decide (x≥b)) 84 #[.pointer (some ⟨B,0,none⟩)] eg 0 Tryz.zeroValue3 g 0 cap (l.map IV.toInt).toArray w hp hpo hH (by simp; unfold strMax at hlen; omega) (by simp; rw [List.length_map] at hnc; exact hnc)
        have es:(l.map IV.toInt).toArray.size=(l.map IV.toInt).length:=by simp
        rw [es] at hcall
        refine hcall.mono ?_
        rintro e w' ⟨rfl,q,rfl⟩
        have ef:(l.map IV.toInt).toArray.toList.filter (fun x=>!(decide (x < a)||decide (x≥b)))=zgq a b (l.map IV.toInt):=rfl
        rw [ef]
        have hlc:(zgq a b (l.map IV.toInt)).length≤(l.map IV.toInt).length:=List.length_filter_le ..
        have hp2:=y4w ho q #[] (zgq a b (l.map IV.toInt)) (List.replicate ((l.map IV.toInt).length - (zgq a b (l.map IV.toInt)).length) 0) (by rw [List.length_append,List.length_replicate]; omega)
        rw [grow_empty] at hp2
        refine ⟨_,rfl,hp2.1,ya5 hrng fun y hy=>(List.mem_filter.1 hy).1,fun _=>⟨?_,fun b hb=>.inl hb⟩,fun h=>by cases h⟩
        rw [zqo,zgy]
        exact hp2.2
  · cases hg
open Go Go.Proofs
set_option maxRecDepth 100000
theorem zzn {dim n:Int}:∀ {l:List IV} {i k:Nat} (hk:k < l.length),zbv dim n i l=true→z7v (l[k]).toInt=true∧zmm dim n (i+k) (z07 (l[k]).toInt)=true
  | [],i,k,hk,_=>absurd hk (Nat.not_lt_zero k)
  | w :: r,i,0,hk,h=>by
    rw [zbv] at h
    simp only [Bool.and_eq_true] at h
    exact h.1
  | w :: r,i,k+1,hk,h=>by
    rw [zbv,Bool.and_eq_true] at h
    have:=zzn (k:=k) (by simpa using hk) h.2
    rw [show i+1+k=i+(k+1) by omega] at this
    exact this
theorem zey {l:List IV} {dim:Int} (h:z6v l dim=true):(1≤l.length∧l.length≤31)∧(∀ k (hk:k < l.length),z7v (l[k]).toInt=true∧zmm dim (ic l.length) k (z07 (l[k]).toInt)=true)∧y80 l=true:=by
  unfold z6v at h
  simp only [Bool.and_eq_true] at h
  refine ⟨⟨Nat.le_of_ble_eq_true h.1.1,Nat.le_of_ble_eq_true h.1.2⟩,fun k hk=>?_,h.2.2⟩
  have:=zzn hk h.2.1
  rwa [Nat.zero_add] at this
theorem y3g {dim n:Int} {i:Nat} {x:Nd} (h:zmm dim n i x=true) (hl:x.lf=false):x.f < dim∧x.l≠x.r∧((i:Int) < x.l∧(i:Int) < x.r)∧(x.l < n∧x.r < n):=by
  unfold zmm at h
  rw [hl,z03] at h
  simp only [Bool.and_eq_true,Bool.not_eq_true',decide_eq_false_iff_not,beq_eq_false_iff_ne] at h
  obtain ⟨h1,h2,h3,h4⟩:=h
  exact ⟨by omega,h2,by omega,by omega⟩
theorem y8b {l:List IV} {d e:Int} (h:z6v l d=true) (hde:d≤e):z6v l e=true:=by
  have key:∀ (l:List IV) (n:Int) (i:Nat),zbv d n i l=true→zbv e n i l=true:=by
    intro l n
    induction l with
    | nil=>intro _ _; rfl
    | cons w r ih=>
      intro i h
      rw [zbv] at h ⊢
      simp only [Bool.and_eq_true] at h ⊢
      refine ⟨⟨h.1.1,?_⟩,ih _ h.2⟩
      have h2:=h.1.2
      unfold zmm at h2 ⊢
      cases hl:(z07 w.toInt).lf with
      | true=>rfl
      | false=>
        rw [hl,z03] at h2
        rw [z03]
        simp only [Bool.and_eq_true,Bool.not_eq_true',decide_eq_false_iff_not] at h2 ⊢
        exact ⟨by omega,h2.2⟩
  unfold z6v at h ⊢
  simp only [Bool.and_eq_true] at h ⊢
  exact ⟨h.1,key _ _ _ h.2.1,h.2.2⟩
abbrev kpL:KP:=⟨[4,5,6,24,25,26],[20,500],[⟨(.tmp 6),500,163,true,z5p⟩]⟩
abbrev yjg (l:List IV) (i:Int) (own out:List IV):St:=
  ⟨[(4,.zs),(5,(.row 20 0 l.length)),(6,(.row 500 0 out.length)),(24,(.list false [(.int .u64)] l)),(25,(.int .i64 (ic (List.length l)))),(26,(.int .i64 i))],[(20,(some (.row true 36 true z6l own))),(500,(some (.row true 163 true z5p out)))]⟩
theorem zhw (N:Nat) (l:List IV) (ht:z6v l 4=true):∀ (m i n:Nat) (own out:List IV),i+m=l.length→m < n→own.length=l.length→out.length≤i →
    lpE (z3a N) (z0l z4q [1,1,1,1,1,0,1,0,0]) kpL n (yjg l (i:Int) own out) (z08 0 (kSq (z3a N) (z0l z4q [1,1,1,1,1,1]) (z2w (z3a N) none [(ResultVar.tmp 4)] [[(.list true z5p)]]))) =
      some (.list true z5p (zmv (l.drop i) i own out),[])
  | m,i,0,_,_,_,h,_,_=>absurd h (by omega)
  | 0,i,n+1,own,out,hd,_,_,_=>by
    have hi:i=l.length:=by omega
    subst hi
    rw [z0b,zg9,zcy (Nat.le_refl _),z03,zlb,List.drop_length,zmv,List.drop_zero,List.take_length]
  | m+1,i,n+1,own,out,hd,hn,ho,hu=>by
    obtain ⟨⟨l1,l31⟩,hat,_⟩:=zey ht
    have hi:i < l.length:=by omega
    have ei:IntKind.wrap IntKind.i64 ((i:Int)+1)=((i+1:Nat):Int):=z68 (by omega)
    obtain ⟨hb,hf⟩:=hat i hi
    have io:decide ((i:Int) < ic (l.length - 0))=true:=zb1 hi
    rw [z0b,zg9,ei,zb1 hi,z01,zjz,Bool.and_self,z01,zc7 hi,io,Bool.and_self,Int.toNat_natCast,List.drop_eq_getElem_cons hi,zmv]
    simp only [Nat.zero_add]
    cases hl:(z07 (l[i]).toInt).lf with
    | true=>
      rw [Bool.not_true,z03,z01,z01,Bool.true_and]
      have e1:zg6 (z07 (l[i]).toInt) i own=own:=by unfold zg6; rw [hl,z01]
      rw [e1]
      cases (bxI (own.getD i default)).emp with
      | true=>exact zhw N l ht m (i+1) n own out (by omega) (by omega) ho (by omega)
      | false=>
        have ih:=zhw N l ht m (i+1) n own (out++[pcI (bxI (own.getD i default)) (z07 (l[i]).toInt).v]) (by omega) (by omega) ho (by rw [List.length_append]; simp; omega)
        unfold yjg at ih
        rw [List.length_append,List.length_singleton] at ih
        rw [Bool.not_false,z01,z01,decide_eq_true (show (out.length+1)*88≤z0d by unfold z0d; omega),z01,List.take_length]
        exact ih
    | false=>
      obtain ⟨f4,_,_,⟨ln,rn⟩⟩:=y3g hf hl
      obtain ⟨⟨f0,_⟩,⟨a1,_⟩,⟨b1,_⟩,_⟩:=zre hb hl
      have hp:znf (z07 (l[i]).toInt).f=true:=by unfold znf; rw [decide_eq_true f0,decide_eq_true (by omega)]; rfl
      have el:(decide (0≤(z07 (l[i]).toInt).l)&&decide ((z07 (l[i]).toInt).l < ic (l.length - 0)))=true:=by rw [decide_eq_true (by omega),decide_eq_true (show (z07 (l[i]).toInt).l < ic (l.length - 0) from ln)]; rfl
      have er:(decide (0≤(z07 (l[i]).toInt).r)&&decide ((z07 (l[i]).toInt).r < ic (l.length - 0)))=true:=by rw [decide_eq_true (by omega),decide_eq_true (show (z07 (l[i]).toInt).r < ic (l.length - 0) from rn)]; rfl
      rw [Bool.not_false,z01,z01,hp,z01,el,z01,er,z01,Bool.false_and,z03]
      have e1:zg6 (z07 (l[i]).toInt) i own=(own.set (z07 (l[i]).toInt).l.toNat ((bxI (own.getD i default)).cutL (z07 (l[i]).toInt).f (z07 (l[i]).toInt).a).I).set (z07 (l[i]).toInt).r.toNat ((bxI (own.getD i default)).cutH (z07 (l[i]).toInt).f (z07 (l[i]).toInt).a).I:=by unfold zg6; rw [hl,z03]
      rw [e1]
      exact zhw N l ht m (i+1) n _ out (by omega) (by omega) (by rw [List.length_set,List.length_set]; exact ho) (by omega)
set_option maxRecDepth 100000 in
theorem zq8:z3n PR B0 98 z8e:=by
  refine z0o [(37,z69),(43,z1t),(88,z1y),(67,z5z)] [(7,⟨[4,5,6,24,25,26],[20,500],[⟨.tmp 6,500,163,true,[.int .i64,.int .i64,.int .i64,.int .i64,.int .i64,.int .i64,.int .i64,.int .i64,.int .i64,.int .i64,.int .i64]⟩]⟩)] z8e [[.list true [.int .i64,.int .i64,.int .i64,.int .i64,.int .i64,.int .i64,.int .i64,.int .i64,.int .i64,.int .i64,.int .i64]]] Tryz.func98 zya ⟨zes,z5j,z6e,ziz,trivial⟩ ?_
  intro vs r hwf h
  unfold z8e at h
  split at h
  · rename_i l b
    replace h:=z2b h
    obtain ⟨b,rfl,h⟩:=h
    rw [R.get_ok] at h
    refine ⟨40,?_⟩
    rw [← h]
    refine (zuh 40 l b).trans ?_
    unfold z3w
    cases ht:z6v l 4 with
    | false=>rfl
    | true=>
      rw [Bool.not_true,z03,Bool.true_and]
      cases b.emp with
      | true=>rfl
      | false=>
        obtain ⟨⟨l1,l31⟩,_,_⟩:=zey ht
        have run:=zhw 40 l ht l.length 0 40 ((List.replicate l.length bx0.I).set 0 b.I) [] (by omega) (by omega) (by simp) (Nat.zero_le _)
        rw [z03,decide_eq_true (show (0:Int)≤ic l.length by simp only [ic]; omega),decide_eq_true (show ic l.length=ic l.length from rfl),decide_eq_true (show ic l.length*ic 80≤ic z0d by unfold z0d; simp only [ic]; omega),Bool.and_self,Bool.and_self,z01,
          decide_eq_true (show 0≤0 from Nat.le_refl 0),decide_eq_true (show (0:Int) < ic (Int.toNat (ic l.length) - 0) by simp only [ic]; omega),Bool.and_self,z01]
        exact run
  · simp [R.get] at h
abbrev yj9 (l:List IV) (lo hi i:Int):St:=⟨[(4,(.int .i64 0)),(5,(.int .i64 0)),(6,(.bool false)),(8,(.int .i64 lo)),(9,(.int .i64 hi)),(26,(.list true z5p l)),(27,(.int .i64 (ic (List.length l)))),(28,(.int .i64 i))],[]⟩
theorem y1u (N:Nat) (l:List IV) (hl:l.length≤strMax):∀ (m i n:Nat) (lo hi:Int),i+m=l.length→m < n →
    lpE (z43 N) (z0l z5b [1,1,1,1,0,1,0,0]) ⟨[4,5,6,8,9,26,27,28],[],[]⟩ n (yj9 l lo hi (i:Int)) (z08 0 (kSq (z43 N) (z0l z5b [1,1,1,1,1]) (z2w (z43 N) none [(ResultVar.tmp 4),(ResultVar.tmp 5),(ResultVar.tmp 6)] [[(.int .i64)],[(.int .i64)],[.bool]]))) =
      some (.tup [.int .i64 (y90 (l.drop i) lo),.int .i64 (y92 (l.drop i) hi),.bool true],[])
  | m,i,0,_,_,_,h=>absurd h (by omega)
  | 0,i,n+1,lo,hi,hd,_=>by
    have hi:i=l.length:=by omega
    subst hi
    rw [z0b,zhe,zcy (Nat.le_refl _),z03,List.drop_length]
    exact zm8 N _ _ _ _ _ l _ _
  | m+1,i,n+1,lo,hi,hd,hn=>by
    have hi:i < l.length:=by omega
    have mx:strMax=140737488355327:=rfl
    have ei:IntKind.wrap IntKind.i64 ((i:Int)+1)=((i+1:Nat):Int):=z68 (by omega)
    rw [z0b,zhe,ei,zb1 hi,z01,zjz,Bool.and_self,z01,zc7 hi,List.drop_eq_getElem_cons hi,y90,y92]
    exact y1u N l hl m (i+1) n _ _ (by omega) (by omega)
theorem y2o:∀ (l:List IV) (i:Nat) (own out:List IV),(zmv l i own out).length≤out.length+l.length
  | [],_,_,out=>Nat.le_refl _
  | w :: r,i,own,out=>by
    rw [zmv]
    have:=y2o r (i+1) (zg6 (z07 w.toInt) i own) (cond ((z07 w.toInt).lf&&!(bxI (own.getD i default)).emp) (out++[pcI (bxI (own.getD i default)) (z07 w.toInt).v]) out)
    refine Nat.le_trans this ?_
    cases ((z07 w.toInt).lf&&!(bxI (own.getD i default)).emp) with
    | true=>rw [z01,List.length_append,List.length_singleton,List.length_cons]; omega
    | false=>rw [z03,List.length_cons]; omega
theorem y7w (l:List IV) (b:Bx):(z3w l b).length≤31:=by
  unfold z3w
  cases ht:z6v l 4 with
  | false=>exact Nat.zero_le _
  | true=>
    cases b.emp with
    | true=>exact Nat.zero_le _
    | false=>
      have:=y2o l 0 ((List.replicate l.length bx0.I).set 0 b.I) []
      have h2:=(zey ht).1.2
      simp only [List.length_nil,Nat.zero_add] at this
      exact Nat.le_trans this h2
set_option maxRecDepth 100000 in
theorem zuc:z3n PR B0 77 z9t:=by
  refine z0o [(98,z8e)] [(6,⟨[4,5,6,8,9,26,27,28],[],[]⟩)] z9t [[.int .i64],[.int .i64],[.bool]] Tryz.func77 y2f ⟨zq8,trivial⟩ ?_
  intro vs r hwf h
  unfold z9t at h
  split at h
  · rename_i l b
    replace h:=z2b h
    obtain ⟨b,rfl,h⟩:=h
    rw [R.get_ok] at h
    refine ⟨40,?_⟩
    rw [← h]
    refine (zwz 40 l b).trans ?_
    have h31:=y7w l b
    unfold tLo tHi tOK yie yhp
    generalize z3w l b=ps at h31 ⊢
    cases ps with
    | nil=>rfl
    | cons x r=>
      have run:=y1u 40 (x :: r) (Nat.le_trans h31 (by decide)) (x :: r).length 0 40 (pcV x) (pcV x) (by omega) (by omega)
      have e0:(ic (x :: r).length==0)=false:=by
        simp only [ic,List.length_cons,beq_eq_false_iff_ne]
        omega
      have e1:(decide (0≤0)&&decide (0 < ic (x :: r).length))=true:=by
        rw [decide_eq_true (show 0≤0 from Nat.le_refl 0),decide_eq_true (show 0 < ic (x :: r).length by simp only [ic,List.length_cons]; omega)]
        rfl
      rw [e0,z03,e1,z01,z01]
      exact run
  · simp [R.get] at h
theorem yf8 {l:List IV}:∀ {a:Int},z1g a=true→(∀ x∈l,z1g (pcV x)=true)→z1g (y90 l a)=true:=by
  induction l with
  | nil=>intro a h _; exact h
  | cons x r ih=>
    intro a h hx
    rw [y90]
    refine ih ?_ fun y hy=>hx y (List.mem_cons_of_mem _ hy)
    have:=z4m h
    have:=z4m (hx x (List.mem_cons_self ..))
    unfold z1g
    rw [decide_eq_true (by omega),decide_eq_true (by omega)]
    rfl
theorem yf4 {l:List IV}:∀ {a:Int},z1g a=true→(∀ x∈l,z1g (pcV x)=true)→z1g (y92 l a)=true:=by
  induction l with
  | nil=>intro a h _; exact h
  | cons x r ih=>
    intro a h hx
    rw [y92]
    refine ih ?_ fun y hy=>hx y (List.mem_cons_of_mem _ hy)
    have:=z4m h
    have:=z4m (hx x (List.mem_cons_self ..))
    unfold z1g
    rw [decide_eq_true (by omega),decide_eq_true (by omega)]
    rfl
theorem zw3:∀ (l:List IV) (i:Nat) (own out:List IV),(∀ x∈out,z1g (pcV x)=true)→∀ x∈zmv l i own out,z1g (pcV x)=true
  | [],_,_,_,h=>h
  | w :: r,i,own,out,h=>by
    rw [zmv]
    refine zw3 r (i+1) _ _ ?_
    cases ((z07 w.toInt).lf&&!(bxI (own.getD i default)).emp) with
    | true=>
      intro x hx
      rcases List.mem_append.1 hx with hx | hx
      · exact h x hx
      · obtain rfl:=List.mem_singleton.1 hx
        exact y61 _
    | false=>exact h
theorem y47 (l:List IV) (b:Bx):∀ x∈z3w l b,z1g (pcV x)=true:=by
  unfold z3w
  cases (z6v l 4&&!b.emp) with
  | true=>exact zw3 _ _ _ _ (fun x hx=>by cases hx)
  | false=>intro x hx; cases hx
theorem yin (l:List IV) (b:Bx):z1g (tLo l b)=true∧z1g (tHi l b)=true:=by
  unfold tLo tHi tOK
  have hf:=y47 l b
  generalize z3w l b=ps at hf ⊢
  cases ps with
  | nil=>exact ⟨rfl,rfl⟩
  | cons x r=>exact ⟨yf8 (hf x (List.mem_cons_self ..)) hf,yf4 (hf x (List.mem_cons_self ..)) hf⟩
abbrev yj6 (ts:List IV) (b:Bx) (k lo hi i:Int):St:=⟨[(1,(.int .i64 k)),(5,(.ptr 5 0 0)),(6,(.int .i64 0)),(7,(.int .i64 0)),(8,(.bool false)),(9,(.int .i64 lo)),(10,(.int .i64 hi)),(42,(.list true z30 ts)),(43,(.int .i64 (ic (List.length ts)))),(44,(.int .i64 i))],[(5,(some (.box (Bx.cs b))))]⟩
theorem y3m (N:Nat) (ts:List IV) (b:Bx) (k:Int) (hts:ts.length≤8):∀ (m i n:Nat) (lo hi:Int),i+m=ts.length→m < n→(-2147483648*(i+1)≤lo∧lo≤2147483648*(i+1))→(-2147483648*(i+1)≤hi∧hi≤2147483648*(i+1)) →
    lpE (z0k N) (z0l z11 [1,1,1,0,1,0,0]) ⟨[1,5,6,7,8,9,10,42,43,44],[5],[]⟩ n (yj6 ts b k lo hi (i:Int)) (z08 0 (kSq (z0k N) (z0l z11 [1,1,1,1]) (z2w (z0k N) none [(ResultVar.tmp 6),(ResultVar.tmp 7),(ResultVar.tmp 8)] [[(.int .i64)],[(.int .i64)],[.bool]]))) =
      some (.tup [.int .i64 (zrg (fun l=>tLo l b) k (ts.drop i) lo),.int .i64 (zrg (fun l=>tHi l b) k (ts.drop i) hi),.bool true],[])
  | m,i,0,_,_,_,h,_,_=>absurd h (by omega)
  | 0,i,n+1,lo,hi,hd,_,_,_=>by
    have hlt:i=ts.length:=by omega
    subst hlt
    rw [z0b,zja,zcy (Nat.le_refl _),z03,List.drop_length]
    exact zpc N b _ _ _ _ _ _ _ _ _
  | m+1,i,n+1,lo,hi,hd,hn,h1,h2=>by
    have hlt:i < ts.length:=by omega
    have ei:IntKind.wrap IntKind.i64 ((i:Int)+1)=((i+1:Nat):Int):=z68 (by omega)
    rw [z0b,zja,ei,zb1 hlt,z01,zjz,Bool.and_self,z01,zc7 hlt,List.drop_eq_getElem_cons hlt,zrg,zrg]
    obtain ⟨q1,q2⟩:=yin (z97 ts[i]) b
    have q1:=z4m q1
    have q2:=z4m q2
    have en:((ts[i].cell 0).toInt != k)=!((ts[i].cell 0).toInt==k):=rfl
    rw [en]
    cases ((ts[i].cell 0).toInt==k) with
    | true=>
      rw [Bool.not_true,z03,z01,z01]
      have ew:IntKind.wrap IntKind.i64 (lo+tLo (z97 ts[i]) b)=lo+tLo (z97 ts[i]) b:=z12 (by omega) (by omega)
      have ew2:IntKind.wrap IntKind.i64 (hi+tHi (z97 ts[i]) b)=hi+tHi (z97 ts[i]) b:=z12 (by omega) (by omega)
      have ih:=y3m N ts b k hts m (i+1) n (lo+tLo (z97 ts[i]) b) (hi+tHi (z97 ts[i]) b) (by omega) (by omega) (by omega) (by omega)
      rw [← ew,← ew2] at ih
      refine Eq.trans ih ?_
      rw [ew,ew2]
    | false=>
      rw [Bool.not_false,z01,z03,z03]
      exact y3m N ts b k hts m (i+1) n lo hi (by omega) (by omega) (by omega) (by omega)
set_option maxRecDepth 100000 in
theorem zfd:z3n PR B0 57 z5l:=by
  refine z0o [(77,z9t),(43,z1t),(39,z1u)] [(5,⟨[1,5,6,7,8,9,10,42,43,44],[5],[]⟩)] z5l [[.int .i64],[.int .i64],[.bool]] Tryz.func57 y48 ⟨zuc,z5j,z65,trivial⟩ ?_
  intro vs r hwf h
  unfold z5l at h
  split at h
  · rename_i m k b
    replace h:=z32 h
    obtain ⟨m,rfl,h⟩:=h
    replace h:=z2b h
    obtain ⟨b,rfl,h⟩:=h
    rw [R.get_ok] at h
    refine ⟨10,?_⟩
    rw [← h]
    refine (y17 10 m k b).trans ?_
    unfold sLo sHi sOK
    cases hm:z1s m with
    | false=>rfl
    | true=>
      rw [Bool.not_true,z03]
      cases h0:decide (k < 0) with
      | true=>
        have:zai m k=false:=by unfold zai; rw [decide_eq_false (show ¬ 0≤k by have:=of_decide_eq_true h0; omega)]; rfl
        rw [this]
        rfl
      | false=>
        rw [z03]
        cases h1:decide (k≥m.c) with
        | true=>
          have:zai m k=false:=by unfold zai; rw [decide_eq_false (show ¬ k < m.c by have:=of_decide_eq_true h1; omega),Bool.and_false]
          rw [this]
          rfl
        | false=>
          have hc:zai m k=true:=by unfold zai; rw [decide_eq_true (show 0≤k by have:=of_decide_eq_false h0; omega),decide_eq_true (show k < m.c by have:=of_decide_eq_false h1; omega)]; rfl
          rw [z03,hc]
          cases b.emp with
          | true=>rfl
          | false=>
            have hb:=zz2 hm k
            have run:=y3m 10 m.ts b k (z1m hm).2.2.1 m.ts.length 0 10 (zb2 m k) (zb2 m k) (by omega) (by have:=(z1m hm).2.2.1; omega) (by omega) (by omega)
            rw [z03]
            rcases zs1 hm hc with rfl | rfl | rfl <;> exact run
  · simp [R.get] at h
theorem y4c (g:List IV→Int) (hg:∀ l,-2147483648≤g l∧g l≤2147483648) (k:Int):∀ (ts:List IV) (s:Int) (n:Nat),(-2147483648*(n:Int)≤s∧s≤2147483648*(n:Int)) → -2147483648*((n+ts.length:Nat):Int)≤zrg g k ts s∧zrg g k ts s≤2147483648*((n+ts.length:Nat):Int)
  | [],s,n,h=>by
    rw [zrg]
    simpa using h
  | t :: r,s,n,h=>by
    rw [zrg]
    have h1:=hg (z97 t)
    have:=y4c g hg k r (cond (ye8 t==k) (s+g (z97 t)) s) (n+1) (by cases (ye8 t==k) <;> simp only [cond_true,cond_false] <;> omega)
    rw [List.length_cons]
    rw [show n+1+r.length=n+(r.length+1) by omega] at this
    exact this
theorem yiq {m:Md} (k:Int) (b:Bx):(-34359738368≤sLo m k b∧sLo m k b≤34359738368)∧(-34359738368≤sHi m k b∧sHi m k b≤34359738368):=by
  unfold sLo sHi
  cases hs:sOK m k b with
  | false=>simp only [cond_false]; omega
  | true=>
    unfold sOK at hs
    simp only [Bool.and_eq_true] at hs
    have hb:=zz2 hs.1 k
    have h8:=(z1m hs.1).2.2.1
    have h1:=y4c (fun l=>tLo l b) (fun l=>by have:=z4m (yin l b).1; omega) k m.ts (zb2 m k) 1 (by omega)
    have h2:=y4c (fun l=>tHi l b) (fun l=>by have:=z4m (yin l b).2; omega) k m.ts (zb2 m k) 1 (by omega)
    rw [z01,z01]
    omega
abbrev yjr (m:Md) (b:Bx) (k lo a:Int) (z:Bool) (i:Int):St:=⟨[(1,(.int .i64 k)),(3,(.ptr 3 0 0)),(5,(.ptr 5 0 0)),(6,(.int .i64 0)),(7,(.bool false)),(8,(.int .i64 lo)),(11,(.int .i64 a)),(12,(.bool z)),(33,(.int .i64 (Md.c m))),(34,(.int .i64 i))],[(3,(some (.box (Md.cs m)))),(5,(some (.box (Bx.cs b))))]⟩
theorem y6r (N:Nat) (m:Md) (b:Bx) (k:Int) (hc:0≤m.c∧m.c≤3) (lo:Int) (hlo : -34359738368≤lo∧lo≤34359738368):∀ (d i n:Nat) (a:Int) (z:Bool),((i+d:Nat):Int)=m.c→d < n →
    lpE (z2m N) (z0l z49 [1,1,1,1,0,1,0,0]) ⟨[1,3,5,6,7,8,11,12,33,34],[3,5],[]⟩ n (yjr m b k lo a z (i:Int)) (z08 0 (kSq (z2m N) (z0l z49 [1,1,1,1,1]) (z2w (z2m N) none [(ResultVar.tmp 6),(ResultVar.tmp 7)] [[(.int .i64)],[.bool]]))) =
      some (.tup [.int .i64 (zu9 m k lo b d (i:Int) a z),.bool true],[])
  | d,i,0,_,_,_,h=>absurd h (by omega)
  | 0,i,n+1,a,z,hd,_=>by
    rw [z0b,zeb,decide_eq_false (show ¬ (i:Int) < m.c by omega),z03]
    exact zjg N m b _ _ _ _ _ _ _ _
  | d+1,i,n+1,a,z,hd,hn=>by
    have ei:IntKind.wrap IntKind.i64 ((i:Int)+1)=((i+1:Nat):Int):=z68 (by omega)
    have hs:=(yiq (m:=m) (i:Int) b).2
    have ew:IntKind.wrap IntKind.i64 (lo - sHi m (i:Int) b)=lo - sHi m (i:Int) b:=z12 (by omega) (by omega)
    have ec:(i:Int)+1=((i+1:Nat):Int):=by omega
    rw [z0b,zeb,ei,ew,decide_eq_true (show (i:Int) < m.c by omega),z01,zu9,ec]
    have ih:=fun a z=>y6r N m b k hc lo hlo d (i+1) n a z (by omega) (by omega)
    cases ((i:Int)==k) with
    | true=>exact ih a z
    | false=>
      rw [z03,z03]
      cases z with
      | false=>exact ih _ true
      | true=>
        rw [Bool.not_true,z03,Bool.false_or]
        cases decide (lo - sHi m (i:Int) b < a) with
        | true=>exact ih _ true
        | false=>exact ih a true
set_option maxRecDepth 100000 in
theorem zp2:z3n PR B0 58 z78:=by
  refine z0o [(57,z5l)] [(6,⟨[1,3,5,6,7,8,11,12,33,34],[3,5],[]⟩)] z78 [[.int .i64],[.bool]] Tryz.func58 zty ⟨zfd,trivial⟩ ?_
  intro vs r hwf h
  unfold z78 at h
  split at h
  · rename_i m k b
    replace h:=z32 h
    obtain ⟨m,rfl,h⟩:=h
    replace h:=z2b h
    obtain ⟨b,rfl,h⟩:=h
    rw [R.get_ok] at h
    refine ⟨10,?_⟩
    rw [← h]
    refine (zsr 10 m k b).trans ?_
    unfold yep y67
    cases hs:sOK m k b with
    | false=>rfl
    | true=>
      have hm:z1s m=true:=by unfold sOK at hs; simp only [Bool.and_eq_true] at hs; exact hs.1
      have hc:=(z1m hm).2.1
      rw [Bool.not_true,z03]
      cases h2:decide (m.c < 2) with
      | true=>rw [decide_eq_false (show ¬ m.c≥2 by have:=of_decide_eq_true h2; omega)]; rfl
      | false=>
        rw [decide_eq_true (show m.c≥2 by have:=of_decide_eq_false h2; omega),z03]
        exact y6r 10 m b k (by omega) (sLo m k b) (yiq k b).1 m.c.toNat 0 10 0 false (by omega) (by omega)
  · simp [R.get] at h
set_option maxRecDepth 100000 in
theorem zns:z3n PR B0 60 z6i:=by
  refine z0o [(57,z5l),(79,z74),(80,z66),(78,z29)] [] z6i [[.int .i64],[.int .i64],[.bool]] Tryz.func60 zqw ⟨zfd,zpg,zm9,z7m,trivial⟩ ?_
  intro vs r hwf h
  unfold z6i at h
  split at h
  · rename_i m q b
    replace h:=z32 h
    obtain ⟨m,rfl,h⟩:=h
    replace h:=z2r h
    obtain ⟨q,rfl,h⟩:=h
    replace h:=z2b h
    obtain ⟨b,rfl,h⟩:=h
    rw [R.get_ok] at h
    refine ⟨0,?_⟩
    rw [← h]
    refine (zpn 0 m q b).trans ?_
    have h1:=yiq (m:=m) q.c (z86 q b)
    have h2:=yiq (m:=m) q.c (z55 q b)
    rw [z12 (n:=sLo m q.c (z55 q b) - sHi m q.c (z86 q b)) (by omega) (by omega),z12 (n:=sHi m q.c (z55 q b) - sLo m q.c (z86 q b)) (by omega) (by omega)]
    unfold ydk ycn y2n
    cases z42 q <;> cases sOK m q.c (z86 q b) <;> cases sOK m q.c (z55 q b) <;> rfl
  · simp [R.get] at h
set_option maxRecDepth 100000 in
theorem zs5:z3n PR B0 34 z8b:=by
  refine z0o [(58,z78),(57,z5l),(43,z1t),(60,z6i),(59,z5r),(20,z2t)] [] z8b [[.bool]] Tryz.func34 zz9 ⟨zp2,zfd,z5j,zns,zlp,z8w,trivial⟩ ?_
  intro vs r hwf h
  unfold z8b at h
  split at h
  · rename_i m q b
    replace h:=z32 h
    obtain ⟨m,rfl,h⟩:=h
    replace h:=z2r h
    obtain ⟨q,rfl,h⟩:=h
    replace h:=z2b h
    obtain ⟨b,rfl,h⟩:=h
    rw [R.get_ok] at h
    refine ⟨0,?_⟩
    rw [← h]
    refine (zu0 0 m q b).trans ?_
    unfold z1r
    cases z1q m q <;> cases b.emp <;> cases (q.k==1) <;> cases (q.k==2) <;> cases sOK m q.c b <;> cases decide (q.lo≤sLo m q.c b) <;> cases y67 m q.c b <;> cases zbr q b <;> cases q.fl <;> cases y2n m q b <;> rfl
  · simp [R.get] at h
set_option maxRecDepth 100000 in
theorem zs6:z3n PR B0 35 z8o:=by
  refine z0o [(61,zhu)] [] z8o [[.int .i64,.int .i64,.int .i64,.int .i64],[.int .i64]] Tryz.func35 zy8 ⟨y41,trivial⟩ ?_
  intro vs r hwf h
  unfold z8o at h
  split at h
  · rename_i b
    replace h:=z2b h
    obtain ⟨b,rfl,h⟩:=h
    rw [R.get_ok] at h
    exact ⟨0,(ztd 0 b).trans h⟩
  · simp [R.get] at h
set_option maxRecDepth 100000 in
theorem zoy:z3n PR B0 81 z7g:=by
  refine z0o [] [] z7g [[.int .i64]] Tryz.func81 zu3 trivial ?_
  intro vs r hwf h
  unfold z7g at h
  split at h
  · rename_i q i
    replace h:=z2r h
    obtain ⟨q,rfl,h⟩:=h
    rw [R.get_ok] at h
    refine ⟨0,?_⟩
    rw [← h]
    refine (zrx 0 q i).trans ?_
    unfold zb5
    cases decide (i≥0) <;> cases decide (i < 4) <;> cases (i==4) <;> cases (q.k==3) <;> rfl
  · simp [R.get] at h
def yfn (m:Md) (f:Int) (s:Sp):Res:=
  cond (decide (f < 0)) (some (.list false [.int .i64] [],[]))
    (cond (z1s m)
      (cond (Nat.beq (iZ (ztm m.ts f)).length (iZ (ztm m.ts f)).length)
        (cond (Nat.ble (iZ (zgq s.lo s.hi ((iZ (ztm m.ts f)).map IV.toInt))).length (iZ (ztm m.ts f)).length)
          (some (.list false [.int .i64] (List.drop 0 (List.take (iZ (zgq s.lo s.hi ((iZ (ztm m.ts f)).map IV.toInt))).length (iZ (zgq s.lo s.hi ((iZ (ztm m.ts f)).map IV.toInt))))),[])) none) none) none)
theorem ycv {m:Md} (hm:z1s m=true) (f:Int) (s:Sp):yfn m f s=some (.list false [.int .i64] (iZ (cond (decide (f < 0)) [] (zgq s.lo s.hi (ztm m.ts f)))),[]):=by
  unfold yfn
  cases decide (f < 0) with
  | true=>rfl
  | false=>
    rw [z03,hm,z01,Nat.beq_refl,z01,zyj,z03]
    have hle:(iZ (zgq s.lo s.hi (ztm m.ts f))).length≤(iZ (ztm m.ts f)).length:=by
      rw [zgy,zgy]
      exact List.length_filter_le ..
    rw [Nat.ble_eq_true_of_le hle,z01,List.drop_zero,List.take_length]
theorem zxj (m:Md) (q:Qy) (b:Bx):∀ i:Nat,i < 5→z16 (zqs 0) zjn [.tmp 8] [[.list false [.int .i64]]] [m.V,q.V,b.V,.int .i64 (i:Int)]=yfn m (zb5 q (i:Int)) (b.g i)
  | 0,_=>by kernel_rfl
  | 1,_=>by kernel_rfl
  | 2,_=>by kernel_rfl
  | 3,_=>by kernel_rfl
  | 4,_=>by kernel_rfl
  | i+5,h=>absurd h (by omega)
abbrev yjf:KP:=⟨[1,4,5,16,17,18],[500],[⟨(.tmp 5),500,3,false,[(.int .i64)]⟩]⟩
abbrev yjd:KP:=⟨[1,4,5,16,17,18,23,24,25],[500],[⟨(.tmp 5),500,3,false,[(.int .i64)]⟩]⟩
abbrev ydu (f:Int) (ts:List IV) (i:Int) (W:List IV) (j:Int) (O:List IV):St:=
  ⟨[(1,(.int .i64 f)),(4,.zs),(5,(.row 500 0 O.length)),(16,(.list true z30 ts)),(17,(.int .i64 (ic ts.length))),(18,(.int .i64 i)),(23,(.list false [(.int .u64)] W)),(24,(.int .i64 (ic W.length))),(25,(.int .i64 j))],[(500,(some (.row true 3 false [(.int .i64)] O)))]⟩
theorem zka (N:Nat) (f:Int) (ts:List IV) (i:Int) (W:List IV) (hW:W.length≤31) (K:Out→St→Res):∀ (m j n:Nat) (O:List IV),j+m=W.length→m < n→O.length+m≤1000 →
    lpE (z10 N) (z0l z14 [1,1,1,0,1,0,0,1,1,0,0,1,1,0,0]) yjd n (ydu f ts i W (j:Int) O) K=K (.exit 2) (ydu f ts i W (ic W.length) (O++iZ ((W.drop j).flatMap (zsw f))))
  | m,j,0,_,_,h,_=>absurd h (by omega)
  | 0,j,n+1,O,hd,_,_=>by
    have hj:j=W.length:=by omega
    subst hj
    rw [z0b,za7,zcy (Nat.le_refl _),z03,List.drop_length]
    show K (.exit 2) _=K (.exit 2) (ydu f ts i W (ic W.length) (O++[]))
    rw [List.append_nil]
  | m+1,j,n+1,O,hd,hn,hO=>by
    have hj:j < W.length:=by omega
    have ej:IntKind.wrap IntKind.i64 ((j:Int)+1)=((j+1:Nat):Int):=z68 (by omega)
    rw [z0b,za7,ej,zb1 hj,z01,zjz,Bool.and_self,z01,zc7 hj,List.drop_eq_getElem_cons hj,List.flatMap_cons]
    unfold zsw
    cases (z07 (W[j]).toInt).lf with
    | true=>
      rw [Bool.not_true,z03,Bool.false_and,z03,List.nil_append]
      exact zka N f ts i W hW K m (j+1) n O (by omega) (by omega) (by omega)
    | false=>
      rw [Bool.not_false,z01,Bool.true_and]
      cases ((z07 (W[j]).toInt).f==f) with
      | false=>
        rw [z03,z03,List.nil_append]
        exact zka N f ts i W hW K m (j+1) n O (by omega) (by omega) (by omega)
      | true=>
        rw [z01,z01,decide_eq_true (show (O.length+1)*8≤z0d by unfold z0d; omega),z01,List.take_length]
        have ih:=zka N f ts i W hW K m (j+1) n (O++[IV.int (z07 (W[j]).toInt).a]) (by omega) (by omega) (by rw [List.length_append,List.length_singleton]; omega)
        rw [List.append_assoc] at ih
        unfold ydu at ih ⊢
        rw [List.length_append,List.length_singleton] at ih
        exact ih
abbrev yfe (f:Int) (ts:List IV) (i:Int) (O:List IV):St:=
  ⟨[(1,(.int .i64 f)),(4,.zs),(5,(.row 500 0 O.length)),(16,(.list true z30 ts)),(17,(.int .i64 (ic ts.length))),(18,(.int .i64 i))],[(500,(some (.row true 3 false [(.int .i64)] O)))]⟩
theorem zwg (f:Int):∀ W:List IV,(W.flatMap (zsw f)).length≤W.length
  | []=>Nat.le_refl _
  | w :: r=>by
    rw [List.flatMap_cons,List.length_append,List.length_cons]
    have:=zwg f r
    unfold zsw at this ⊢
    cases (!(z07 w.toInt).lf&&(z07 w.toInt).f==f) <;> simp only [cond_true,cond_false,List.length_nil,List.length_singleton] <;> omega
theorem zom {d c:Int} {t:IV} (h:z87 d c t=true):(0≤ye8 t∧ye8 t < c)∧z6v (z97 t) d=true:=by
  unfold z87 at h
  simp only [Bool.and_eq_true,Bool.not_eq_true',decide_eq_false_iff_not] at h
  exact ⟨⟨by show 0≤(t.cell 0).toInt; omega,by show (t.cell 0).toInt < c; omega⟩,h.2.2⟩
theorem y5n {d c:Int} {ts:List IV} (h:ts.all (z87 d c)=true) {t:IV} (ht:t∈ts):(z97 t).length≤31:=by
  have:=(zom (List.all_eq_true.1 h t ht)).2
  exact (zey this).1.2
theorem y35 (N:Nat) (hN:40≤N) (f:Int) (ts:List IV) (hts:ts.length≤8) (hW:∀ t∈ts,(z97 t).length≤31) (K:Out→St→Res):∀ (m i n:Nat) (O:List IV),i+m=ts.length→m < n→O.length≤31*i →
    lpE (z10 N) (z0l z14 [1,1,1,0,1,0,0]) yjf n (yfe f ts (i:Int) O) K=K (.exit 0) (yfe f ts (ic ts.length) (O++iZ (z5q (ts.drop i) f)))
  | m,i,0,_,_,h,_=>absurd h (by omega)
  | 0,i,n+1,O,hd,_,_=>by
    have hi:i=ts.length:=by omega
    subst hi
    rw [z0b,zaa,zcy (Nat.le_refl _),z03,List.drop_length]
    show K (.exit 0) _=K (.exit 0) (yfe f ts (ic ts.length) (O++[]))
    rw [List.append_nil]
  | m+1,i,n+1,O,hd,hn,hO=>by
    have hi:i < ts.length:=by omega
    have ei:IntKind.wrap IntKind.i64 ((i:Int)+1)=((i+1:Nat):Int):=z68 (by omega)
    have hw:=hW ts[i] (List.getElem_mem hi)
    have hl:=zwg f (z97 ts[i])
    rw [z0b,zaa,zb1 hi,z01,zjz,Bool.and_self,z01,zc7 hi,List.drop_eq_getElem_cons hi]
    refine (zka N f ts (i:Int) (z97 ts[i]) hw _ (z97 ts[i]).length 0 N O (by omega) (by omega) (by omega)).trans ?_
    rw [zfn,ei,List.drop_zero]
    have ih:=y35 N hN f ts hts hW K m (i+1) n (O++iZ ((z97 ts[i]).flatMap (zsw f))) (by omega) (by omega) (by rw [List.length_append,zgy]; omega)
    have e:z5q (ts[i] :: ts.drop (i+1)) f=(z97 ts[i]).flatMap (zsw f)++z5q (ts.drop (i+1)) f:=by unfold z5q; rw [List.flatMap_cons]
    rw [e]
    have e2:iZ ((z97 ts[i]).flatMap (zsw f)++z5q (ts.drop (i+1)) f)=iZ ((z97 ts[i]).flatMap (zsw f))++iZ (z5q (ts.drop (i+1)) f):=by unfold iZ; rw [List.map_append]
    rw [e2,← List.append_assoc]
    exact ih
set_option maxRecDepth 100000 in
theorem zil:z3n PR B0 83 z4p:=by
  refine yaa [(39,z1u),(88,z1y)] [(101,zlw),(100,y6b)] [(5,yjf),(8,yjd)] z4p [] Tryz.func83 zkc ⟨z65,z6e,trivial⟩ ⟨zy3,y78,trivial⟩ ?_
  intro vs r hwf h
  unfold z4p at h
  split at h
  · rename_i m f
    replace h:=z32 h
    obtain ⟨m,rfl,h⟩:=h
    cases hm:z1s m with
    | false=>rw [hm] at h; simp [R.get] at h
    | true=>
      rw [hm,R.get_br,z01,R.get_ok] at h
      refine ⟨40,?_⟩
      rw [← h]
      refine (zjr 40 m f).trans ?_
      have hmp:=z1m hm
      rw [hm,Bool.not_true,z03]
      refine (y35 40 (by omega) f m.ts hmp.2.2.1 (fun t ht=>y5n hmp.2.2.2.2 ht) _ m.ts.length 0 40 [] (by omega) (by have:=hmp.2.2.1; omega) (Nat.zero_le _)).trans ?_
      rw [List.drop_zero,List.nil_append,zep,Nat.beq_refl,z01,zyj]
      have e1:(iZ (zgj (z5q m.ts f))).length=(iZ (z5q m.ts f)).length:=by rw [zgy,zgy]; exact (z6p _).length_eq
      have e2:(iZ (zxe (zgj (z5q m.ts f)))).length≤(iZ (z5q m.ts f)).length:=by rw [← e1,zgy,zgy]; exact zpw _
      rw [e1,Nat.beq_refl,z01,z01,zyj,Nat.ble_eq_true_of_le e2,z01,List.take_length]
      rfl
  · simp [R.get] at h
set_option maxRecDepth 100000 in
theorem zwr:z3n PR B0 62 zc1:=by
  refine yaa [(81,z7g),(83,z4p)] [(82,zpq)] [] zc1 [[.list false [.int .i64]]] Tryz.func62 y5a ⟨zoy,zil,trivial⟩ ⟨y2s,trivial⟩ ?_
  intro vs r hwf h
  unfold zc1 at h
  split at h
  · rename_i m q b i
    replace h:=z32 h
    obtain ⟨m,rfl,h⟩:=h
    replace h:=z2r h
    obtain ⟨q,rfl,h⟩:=h
    replace h:=z2b h
    obtain ⟨b,rfl,h⟩:=h
    cases hg:(z1s m&&znf i) with
    | false=>rw [hg] at h; simp [R.get] at h
    | true=>
    rw [hg,R.get_br,z01,R.get_ok] at h
    rw [Bool.and_eq_true] at hg
    refine ⟨0,?_⟩
    rw [← h]
    have key:∀ k:Nat,k < 5→z16 (zqs 0) zjn [.tmp 8] [[.list false [.int .i64]]] [m.V,q.V,b.V,.int .i64 (k:Int)]=some (.list false [.int .i64] (iZ (z35 m q b k)),[]):=fun k hk=>by
      rw [zxj m q b k hk,ycv hg.1]
      rfl
    rcases zvu hg.2 with rfl | rfl | rfl | rfl | rfl
    · exact key 0 (by omega)
    · exact key 1 (by omega)
    · exact key 2 (by omega)
    · exact key 3 (by omega)
    · exact key 4 (by omega)
  · simp [R.get] at h
abbrev yjq (m:Md) (q:Qy) (b:Bx) (i:Int):St:=⟨[(3,(.ptr 3 0 0)),(4,(.ptr 4 0 0)),(5,(.ptr 5 0 0)),(6,(.int .i64 0)),(7,(.int .i64 0)),(8,(.bool false)),(11,(.int .i64 i))],[(3,(some (.box (Md.cs m)))),(4,(some (.box (Qy.cs q)))),(5,(some (.box (Bx.cs b))))]⟩
theorem ydp {m:Md} (hm:z1s m=true) (q:Qy) (b:Bx) (i:Nat):(z35 m q b i).length≤248:=by
  have key:∀ (ts:List IV) (f:Int),(∀ t∈ts,(z97 t).length≤31)→(z5q ts f).length≤31*ts.length:=by
    intro ts f
    induction ts with
    | nil=>intro _; exact Nat.le_refl _
    | cons t r ih=>
      intro ht
      have h1:=ih fun u hu=>ht u (List.mem_cons_of_mem _ hu)
      have h2:=zwg f (z97 t)
      have h3:=ht t (List.mem_cons_self ..)
      unfold z5q at h1 ⊢
      rw [List.flatMap_cons,List.length_append,List.length_cons]
      omega
  have hmp:=z1m hm
  have h1:=key m.ts (zb5 q (i:Int)) fun t ht=>y5n hmp.2.2.2.2 ht
  unfold z35
  cases decide (zb5 q (i:Int) < 0) with
  | true=>exact Nat.zero_le _
  | false=>
    rw [z03]
    have h2:(zgq (b.g i).lo (b.g i).hi (ztm m.ts (zb5 q (i:Int)))).length≤(ztm m.ts (zb5 q (i:Int))).length:=List.length_filter_le ..
    have h3:(ztm m.ts (zb5 q (i:Int))).length≤(z5q m.ts (zb5 q (i:Int))).length:=by
      unfold ztm
      exact Nat.le_trans (zpw _) (Nat.le_of_eq (z6p _).length_eq)
    have:=hmp.2.2.1
    omega
theorem y0n (N:Nat) (m:Md) (hm:z1s m=true) (q:Qy) (b:Bx):∀ (d i n:Nat),i+d=5→d < n →
    lpE (z2y N) (z0l z4r [1,0,1,0,0]) ⟨[3,4,5,6,7,8,11],[3,4,5],[]⟩ n (yjq m q b (i:Int)) (z08 0 (kSq (z2y N) (z0l z4r [1,1]) (z2w (z2y N) none [(ResultVar.tmp 6),(ResultVar.tmp 7),(ResultVar.tmp 8)] [[(.int .i64)],[(.int .i64)],[.bool]]))) =
      some (.tup [.int .i64 (spI (spR m q b d i)),.int .i64 (zr2 (spR m q b d i)),.bool (spR m q b d i).isSome],[])
  | d,i,0,_,h=>absurd h (by omega)
  | 0,i,n+1,hd,_=>by
    have hi:i=5:=by omega
    subst hi
    rw [z0b,zgp,decide_eq_false (show ¬ ((5:Nat):Int) < 5 by omega),z03]
    exact zmt N m q b _ _ _ _
  | d+1,i,n+1,hd,hn=>by
    have hp:znf (i:Int)=true:=by unfold znf; rw [decide_eq_true (show (0:Int)≤(i:Int) by omega),decide_eq_true (show (i:Int) < 5 by omega)]; rfl
    have ei:IntKind.wrap IntKind.i64 ((i:Int)+1)=((i+1:Nat):Int):=z68 (by omega)
    have hc:=ydp hm q b i
    rw [z0b,zgp,ei,decide_eq_true (show (i:Int) < 5 by omega),z01,hm,hp,Bool.and_self,z01,Int.toNat_natCast,spR,zgy]
    generalize z35 m q b i=cs at hc ⊢
    have ed:decide (ic cs.length > 0)=decide (cs.length > 0):=by rw [Bool.eq_iff_iff]; simp
    rw [ed]
    cases hpos:decide (cs.length > 0) with
    | true=>
      have hpos:=of_decide_eq_true hpos
      have ew:IntKind.wrap IntKind.i64 (Int.tdiv (IntKind.wrap IntKind.i64 (ic cs.length - 1)) 2)=(((cs.length - 1) / 2:Nat):Int):=by
        have e1:IntKind.wrap IntKind.i64 (ic cs.length - 1)=((cs.length - 1:Nat):Int):=by rw [z12 (by simp only [ic]; omega) (by simp only [ic]; omega)]; simp only [ic]; omega
        have e2:Int.tdiv ((cs.length - 1:Nat):Int) 2=(((cs.length - 1) / 2:Nat):Int):=by
          rw [Int.tdiv_eq_ediv_of_nonneg (by omega)]
          omega
        rw [e1,e2,z12 (by omega) (by omega)]
      have hlt:(cs.length - 1) / 2 < cs.length:=by omega
      rw [z01,ew,zjz,decide_eq_true (show (((cs.length - 1) / 2:Nat):Int) < ic cs.length by simp only [ic]; omega),Bool.and_self,z01,z01,Int.toNat_natCast]
      have eg:IV.toInt (List.getD (iZ cs) ((cs.length - 1) / 2) default)=cs.getD ((cs.length - 1) / 2) 0:=by
        unfold iZ
        rw [List.getD_eq_getElem?_getD,List.getD_eq_getElem?_getD,List.getElem?_map,List.getElem?_eq_getElem hlt]
        rfl
      rw [eg]
      exact znc N m q b _ _ _ _
    | false=>
      rw [z03,z03]
      exact y0n N m hm q b d (i+1) n (by omega) (by omega)
set_option maxRecDepth 100000 in
theorem ztj:z3n PR B0 36 zah:=by
  refine z0o [(62,zc1)] [(2,⟨[3,4,5,6,7,8,11],[3,4,5],[]⟩)] zah [[.int .i64],[.int .i64],[.bool]] Tryz.func36 y1l ⟨zwr,trivial⟩ ?_
  intro vs r hwf h
  unfold zah at h
  split at h
  · rename_i m q b
    replace h:=z32 h
    obtain ⟨m,rfl,h⟩:=h
    replace h:=z2r h
    obtain ⟨q,rfl,h⟩:=h
    replace h:=z2b h
    obtain ⟨b,rfl,h⟩:=h
    cases hg:(z1s m) with
    | false=>rw [hg] at h; simp [R.get] at h
    | true=>
    rw [hg,R.get_br,z01,R.get_ok] at h
    refine ⟨10,?_⟩
    rw [← h]
    exact (zwv 10 m q b).trans (y0n 10 m hg q b 5 0 10 rfl (by omega))
  · simp [R.get] at h
open Go
def yhv:Md:=⟨1,1,3,0,0,[.agg [.int 0,.list [.int (za8 false 0 0 5 1 2),.int (za8 true 10 0 0 0 0),.int (za8 true 20 0 0 0 0)]]]⟩
def z56:z0x
  | []=>.ok yhv.V []
  | _=>.no
def z2u:z0x
  | []=>.ok (.bool true) []
  | _=>.no
open Go
def zr9 (s:Sp):Bool:=decide (-2147483648≤s.lo)&&(decide (s.lo≤s.hi)&&decide (s.hi≤2147483647))
def z4y (b:Bx):Bool:=zr9 b.s0&&(zr9 b.s1&&(zr9 b.s2&&(zr9 b.s3&&zr9 b.s4)))
def zad:z0x
  | [.list false [.int .u64] l,b]=>zch b fun b=>.br (z6v l 4&&z4y b) (.ok (.tup [.int .i64 (tLo l b),.int .i64 (tHi l b)]) []) .no
  | _=>.no
def z9w:z0x
  | [m,.int .i64 k,b]=>zfk m fun m=>zch b fun b=>.br (b.emp||z4y b) (.ok (.tup [.int .i64 (sLo m k b),.int .i64 (sHi m k b)]) []) .no
  | _=>.no
def z93:z0x
  | [m,q,b]=>zfk m fun m=>ze1 q fun q=>zch b fun b=>.br (z1q m q&&(b.emp||z4y b)) (.ok (.bool (z1r m q b)) []) .no
  | _=>.no
def z54 (x:IV):Bool:=cond (z62 x) (z0t x==0&&zbk x==0) (decide (0≤z0t x)&&decide (z0t x≤4))
def z8a:z0x
  | [.agg [.bool s,.int .i64 p,.int .i64 a]]=>.ok (.bool (z54 (stI s p a))) []
  | _=>.no
def zdw (st:Int × Int) (x:IV):Option (Int × Int):=
  cond (st.1==0||!(z54 x)) none (cond (z62 x) (some (st.1 - 1,st.2)) (some (st.1+1,max st.2 (st.1+1))))
def zzi:List IV→Int × Int→Option (Int × Int)
  | [],st=>some st
  | x :: r,st=>match zdw st x with
    | some st'=>zzi r st'
    | none=>none
def zdx (l:List IV):Int:=cond (decide (ic l.length > 65536)) 0 (match zzi l (1,1) with
  | some st=>cond (!(st.1==0)||decide (st.2 > 200)) 0 st.2
  | none=>0)
def z9u:z0x
  | [.list true [.bool,.int .i64,.int .i64] l]=>.ok (.int .i64 (zdx l)) []
  | _=>.no
def z5o:z0x
  | [.list true [.bool,.int .i64,.int .i64] l]=>.ok (.bool (decide (zdx l > 0))) []
  | _=>.no
def zdv (st:List IV × List IV) (x:IV):Option (List IV × List IV):=
  cond (z62 x) (some (zdr st.1,st.2++[(z2k st.1).I]))
    (cond (decide (zbk x < ((z2k st.1).g (z0t x).toNat).lo)||decide (zbk x≥((z2k st.1).g (z0t x).toNat).hi)) none
      (some (zdr st.1++[((z2k st.1).cutH (z0t x) (zbk x)).I,((z2k st.1).cutL (z0t x) (zbk x)).I],st.2)))
def zqc:List IV→List IV × List IV→Option (List IV × List IV)
  | [],st=>some st
  | x :: r,st=>match zdv st x with
    | some st'=>zqc r st'
    | none=>none
def psF (b:Bx) (l:List IV):Option (List IV):=cond (decide (zdx l > 0)) ((zqc l ([b.I],[])).map (·.2)) none
def zag:z0x
  | [b,.list true [.bool,.int .i64,.int .i64] l]=>zch b fun b=>.br (psF b l).isSome (.ok (.tup [.list true z6l ((psF b l).getD []),.bool true]) []) (.ok (.tup [.list true z6l [],.bool false]) [])
  | _=>.no
def Vd.p (v:Vd):Pt:=⟨v.w0,v.w1,v.w2,v.w3⟩
def zdj (m:Md) (q:Qy) (v:Vd):Bool:=
  z1q m q&&cond (v.kind==1) (match psF (z33 q) v.proof with
      | some l=>l.all fun x=>z1r m q (bxI x)
      | none=>false)
    (cond (v.kind==2) ((z33 q).has v.p v.twin&&z2l m q v.p v.twin) false)
def z7h:z0x
  | [m,q,v]=>zfk m fun m=>ze1 q fun q=>yi0 v fun v=>.ok (.bool (zdj m q v)) []
  | _=>.no
open Go Go.Proofs
def zyf (N:Nat):Env:=mkE [] [] 16 N
theorem ztc (N:Nat) (s_Sum:Bool) (s_Place:Int) (s_At:Int):z16 (zyf N) zl7 [.tmp 2] [[.bool]] [(.agg [(.bool s_Sum),(.int .i64 s_Place),(.int .i64 s_At)])] =
 (cond s_Sum
 (some ((.bool (s_Sum==true&&(s_Place==0&&(s_At==0&&true)))),[]))
 (cond (decide (s_Place≥0)) (some ((.bool (decide (s_Place≤4))),[])) (some ((.bool false),[])))):=by kernel_rfl
def zwu (N:Nat):Env:=mkE [(26,z9u)] [] 6 N
theorem zuk (N:Nat) (l:List IV):z16 (zwu N) zl2 [.tmp 2] [[.bool]] [(.list true [.bool,.int .i64,.int .i64] l)] =
 (some ((.bool (decide (zdx l > 0))),[])):=by kernel_rfl
def y9l (N:Nat):Env:=mkE [(45,z9b)] [(2,⟨[2,3,6,9,10],[3],[]⟩)] 25 N
open Go Go.Proofs
def z48 (N:Nat):Env:=mkE [(48,z8a)] [(5,⟨[2,3,4,10,11,12],[],[]⟩)] 40 N
theorem zyg (N:Nat) (l:List IV):z16 (z48 N) z5f [.tmp 2] [[.int .i64]] [(.list true [.bool,.int .i64,.int .i64] l)] =
 (cond (decide (ic (List.length l) > 65536))
 (some ((.int .i64 0),[]))
 (lpE (z48 N) (z0l z5f [1,1,1,0,1,0,0]) ⟨[2,3,4,10,11,12],[],[]⟩ N ⟨[(2,(.int .i64 0)),(3,(.int .i64 1)),(4,(.int .i64 1)),(10,(.list true z0q l)),(11,(.int .i64 (ic (List.length l)))),(12,(.int .i64 0))],[]⟩ (z08 0 (kSq (z48 N) (z0l z5f [1,1,1,1]) (z2w (z48 N) none [(ResultVar.tmp 2)] [[(.int .i64)]]))))):=by kernel_rfl
theorem zgw (N:Nat) (x2:Int) (x3:Int) (x4:Int) (l10:List IV) (x11:Int) (x12:Int) (again:St→Res) (k:Out→St→Res):rnd (z48 N) (z0l z5f [1,1,1,0,1,0,0])
 ⟨[(2,(.int .i64 x2)),(3,(.int .i64 x3)),(4,(.int .i64 x4)),(10,(.list true z0q l10)),(11,(.int .i64 x11)),(12,(.int .i64 x12))],[]⟩
 (z57 again ⟨[2,3,4,10,11,12],[],[]⟩ k) =
 (cond (decide (x12 < x11))
 (cond (decide (0≤x12)&&decide (x12 < ic (List.length l10)))
 (cond (x3==0)
 (k .ret ⟨[(2,(.int .i64 0)),(3,(.int .i64 x3)),(4,(.int .i64 x4)),(10,(.list true z0q l10)),(11,(.int .i64 x11)),(12,(.int .i64 x12))],[]⟩)
 (cond (!z54 (stI (IV.toBool (IV.cell (List.getD l10 (Int.toNat x12) default) 0)) (IV.toInt (IV.cell (List.getD l10 (Int.toNat x12) default) 1)) (IV.toInt (IV.cell (List.getD l10 (Int.toNat x12) default) 2))))
 (k .ret ⟨[(2,(.int .i64 0)),(3,(.int .i64 x3)),(4,(.int .i64 x4)),(10,(.list true z0q l10)),(11,(.int .i64 x11)),(12,(.int .i64 x12))],[]⟩)
 (cond (IV.toBool (IV.cell (List.getD l10 (Int.toNat x12) default) 0))
 (again ⟨[(2,(.int .i64 x2)),(3,(.int .i64 (IntKind.wrap IntKind.i64 (x3 - 1)))),(4,(.int .i64 x4)),(10,(.list true z0q l10)),(11,(.int .i64 x11)),(12,(.int .i64 (IntKind.wrap IntKind.i64 (x12+1))))],[]⟩)
 (again ⟨[(2,(.int .i64 x2)),(3,(.int .i64 (IntKind.wrap IntKind.i64 (x3+1)))),(4,(.int .i64 (max x4 (IntKind.wrap IntKind.i64 (x3+1))))),(10,(.list true z0q l10)),(11,(.int .i64 x11)),(12,(.int .i64 (IntKind.wrap IntKind.i64 (x12+1))))],[]⟩))))
 none)
 (k (.exit 0) ⟨[(2,(.int .i64 x2)),(3,(.int .i64 x3)),(4,(.int .i64 x4)),(10,(.list true z0q l10)),(11,(.int .i64 x11)),(12,(.int .i64 x12))],[]⟩)):=by kernel_rfl
theorem zn0 (N:Nat) (x2:Int) (x3:Int) (x4:Int) (l10:List IV) (x11:Int) (x12:Int):(z08 0 (kSq (z48 N) (z0l z5f [1,1,1,1]) (z2w (z48 N) none [(ResultVar.tmp 2)] [[(.int .i64)]]))) (.exit 0)
 ⟨[(2,(.int .i64 x2)),(3,(.int .i64 x3)),(4,(.int .i64 x4)),(10,(.list true z0q l10)),(11,(.int .i64 x11)),(12,(.int .i64 x12))],[]⟩ =
 (cond (x3 != 0) (some ((.int .i64 0),[])) (cond (decide (x4 > 200)) (some ((.int .i64 0),[])) (some ((.int .i64 x4),[])))):=by kernel_rfl
theorem zn1 (N:Nat) (x2:Int) (x3:Int) (x4:Int) (l10:List IV) (x11:Int) (x12:Int):(z08 0 (kSq (z48 N) (z0l z5f [1,1,1,1]) (z2w (z48 N) none [(ResultVar.tmp 2)] [[(.int .i64)]]))) .ret
 ⟨[(2,(.int .i64 x2)),(3,(.int .i64 x3)),(4,(.int .i64 x4)),(10,(.list true z0q l10)),(11,(.int .i64 x11)),(12,(.int .i64 x12))],[]⟩ =
 (some ((.int .i64 x2),[])):=by kernel_rfl
def z0f (N:Nat):Env:=mkE [(43,z1t),(69,zad),(39,z1u)] [(5,⟨[1,5,6,7,8,9,40,41,42],[5],[]⟩)] 66 N
theorem zyt (N:Nat) (m:Md) (a1:Int) (a2:Bx):z16 (z0f N) z0w [.tmp 6,.tmp 7] [[.int .i64],[.int .i64]] [(Md.V m),(.int .i64 a1),(Bx.V a2)] =
 (cond (!z1s m)
 (some ((.tup [(.int .i64 0),(.int .i64 0)]),[]))
 (cond (decide (a1 < 0))
 (some ((.tup [(.int .i64 0),(.int .i64 0)]),[]))
 (cond (decide (a1≥Md.c m))
 (some ((.tup [(.int .i64 0),(.int .i64 0)]),[]))
 (cond (Bx.emp a2)
 (some ((.tup [(.int .i64 0),(.int .i64 0)]),[]))
 (cond (decide (a1=ic 0))
 (cond (decide (a1=ic 0))
 (lpE (z0f N) (z0l z0w [1,1,1,0,1,0,0]) ⟨[1,5,6,7,8,9,40,41,42],[5],[]⟩ N ⟨[(1,(.int .i64 a1)),(5,(.ptr 5 0 0)),(6,(.int .i64 0)),(7,(.int .i64 0)),(8,(.int .i64 (Md.b0 m))),(9,(.int .i64 (Md.b0 m))),(40,(.list true z30 (Md.ts m))),(41,(.int .i64 (ic (List.length (Md.ts m))))),(42,(.int .i64 0))],[(5,(some (.box (Bx.cs a2))))]⟩ (z08 0 (kSq (z0f N) (z0l z0w [1,1,1,1]) (z2w (z0f N) none [(ResultVar.tmp 6),(ResultVar.tmp 7)] [[(.int .i64)],[(.int .i64)]]))))
 (cond (decide (a1=ic 1))
 (lpE (z0f N) (z0l z0w [1,1,1,0,1,0,0]) ⟨[1,5,6,7,8,9,40,41,42],[5],[]⟩ N ⟨[(1,(.int .i64 a1)),(5,(.ptr 5 0 0)),(6,(.int .i64 0)),(7,(.int .i64 0)),(8,(.int .i64 (Md.b0 m))),(9,(.int .i64 (Md.b1 m))),(40,(.list true z30 (Md.ts m))),(41,(.int .i64 (ic (List.length (Md.ts m))))),(42,(.int .i64 0))],[(5,(some (.box (Bx.cs a2))))]⟩ (z08 0 (kSq (z0f N) (z0l z0w [1,1,1,1]) (z2w (z0f N) none [(ResultVar.tmp 6),(ResultVar.tmp 7)] [[(.int .i64)],[(.int .i64)]]))))
 (cond (decide (a1=ic 2))
 (lpE (z0f N) (z0l z0w [1,1,1,0,1,0,0]) ⟨[1,5,6,7,8,9,40,41,42],[5],[]⟩ N ⟨[(1,(.int .i64 a1)),(5,(.ptr 5 0 0)),(6,(.int .i64 0)),(7,(.int .i64 0)),(8,(.int .i64 (Md.b0 m))),(9,(.int .i64 (Md.b2 m))),(40,(.list true z30 (Md.ts m))),(41,(.int .i64 (ic (List.length (Md.ts m))))),(42,(.int .i64 0))],[(5,(some (.box (Bx.cs a2))))]⟩ (z08 0 (kSq (z0f N) (z0l z0w [1,1,1,1]) (z2w (z0f N) none [(ResultVar.tmp 6),(ResultVar.tmp 7)] [[(.int .i64)],[(.int .i64)]]))))
 none)))
 (cond (decide (a1=ic 1))
 (cond (decide (a1=ic 0))
 (lpE (z0f N) (z0l z0w [1,1,1,0,1,0,0]) ⟨[1,5,6,7,8,9,40,41,42],[5],[]⟩ N ⟨[(1,(.int .i64 a1)),(5,(.ptr 5 0 0)),(6,(.int .i64 0)),(7,(.int .i64 0)),(8,(.int .i64 (Md.b1 m))),(9,(.int .i64 (Md.b0 m))),(40,(.list true z30 (Md.ts m))),(41,(.int .i64 (ic (List.length (Md.ts m))))),(42,(.int .i64 0))],[(5,(some (.box (Bx.cs a2))))]⟩ (z08 0 (kSq (z0f N) (z0l z0w [1,1,1,1]) (z2w (z0f N) none [(ResultVar.tmp 6),(ResultVar.tmp 7)] [[(.int .i64)],[(.int .i64)]]))))
 (cond (decide (a1=ic 1))
 (lpE (z0f N) (z0l z0w [1,1,1,0,1,0,0]) ⟨[1,5,6,7,8,9,40,41,42],[5],[]⟩ N ⟨[(1,(.int .i64 a1)),(5,(.ptr 5 0 0)),(6,(.int .i64 0)),(7,(.int .i64 0)),(8,(.int .i64 (Md.b1 m))),(9,(.int .i64 (Md.b1 m))),(40,(.list true z30 (Md.ts m))),(41,(.int .i64 (ic (List.length (Md.ts m))))),(42,(.int .i64 0))],[(5,(some (.box (Bx.cs a2))))]⟩ (z08 0 (kSq (z0f N) (z0l z0w [1,1,1,1]) (z2w (z0f N) none [(ResultVar.tmp 6),(ResultVar.tmp 7)] [[(.int .i64)],[(.int .i64)]]))))
 (cond (decide (a1=ic 2))
 (lpE (z0f N) (z0l z0w [1,1,1,0,1,0,0]) ⟨[1,5,6,7,8,9,40,41,42],[5],[]⟩ N ⟨[(1,(.int .i64 a1)),(5,(.ptr 5 0 0)),(6,(.int .i64 0)),(7,(.int .i64 0)),(8,(.int .i64 (Md.b1 m))),(9,(.int .i64 (Md.b2 m))),(40,(.list true z30 (Md.ts m))),(41,(.int .i64 (ic (List.length (Md.ts m))))),(42,(.int .i64 0))],[(5,(some (.box (Bx.cs a2))))]⟩ (z08 0 (kSq (z0f N) (z0l z0w [1,1,1,1]) (z2w (z0f N) none [(ResultVar.tmp 6),(ResultVar.tmp 7)] [[(.int .i64)],[(.int .i64)]]))))
 none)))
 (cond (decide (a1=ic 2))
 (cond (decide (a1=ic 0))
 (lpE (z0f N) (z0l z0w [1,1,1,0,1,0,0]) ⟨[1,5,6,7,8,9,40,41,42],[5],[]⟩ N ⟨[(1,(.int .i64 a1)),(5,(.ptr 5 0 0)),(6,(.int .i64 0)),(7,(.int .i64 0)),(8,(.int .i64 (Md.b2 m))),(9,(.int .i64 (Md.b0 m))),(40,(.list true z30 (Md.ts m))),(41,(.int .i64 (ic (List.length (Md.ts m))))),(42,(.int .i64 0))],[(5,(some (.box (Bx.cs a2))))]⟩ (z08 0 (kSq (z0f N) (z0l z0w [1,1,1,1]) (z2w (z0f N) none [(ResultVar.tmp 6),(ResultVar.tmp 7)] [[(.int .i64)],[(.int .i64)]]))))
 (cond (decide (a1=ic 1))
 (lpE (z0f N) (z0l z0w [1,1,1,0,1,0,0]) ⟨[1,5,6,7,8,9,40,41,42],[5],[]⟩ N ⟨[(1,(.int .i64 a1)),(5,(.ptr 5 0 0)),(6,(.int .i64 0)),(7,(.int .i64 0)),(8,(.int .i64 (Md.b2 m))),(9,(.int .i64 (Md.b1 m))),(40,(.list true z30 (Md.ts m))),(41,(.int .i64 (ic (List.length (Md.ts m))))),(42,(.int .i64 0))],[(5,(some (.box (Bx.cs a2))))]⟩ (z08 0 (kSq (z0f N) (z0l z0w [1,1,1,1]) (z2w (z0f N) none [(ResultVar.tmp 6),(ResultVar.tmp 7)] [[(.int .i64)],[(.int .i64)]]))))
 (cond (decide (a1=ic 2))
 (lpE (z0f N) (z0l z0w [1,1,1,0,1,0,0]) ⟨[1,5,6,7,8,9,40,41,42],[5],[]⟩ N ⟨[(1,(.int .i64 a1)),(5,(.ptr 5 0 0)),(6,(.int .i64 0)),(7,(.int .i64 0)),(8,(.int .i64 (Md.b2 m))),(9,(.int .i64 (Md.b2 m))),(40,(.list true z30 (Md.ts m))),(41,(.int .i64 (ic (List.length (Md.ts m))))),(42,(.int .i64 0))],[(5,(some (.box (Bx.cs a2))))]⟩ (z08 0 (kSq (z0f N) (z0l z0w [1,1,1,1]) (z2w (z0f N) none [(ResultVar.tmp 6),(ResultVar.tmp 7)] [[(.int .i64)],[(.int .i64)]]))))
 none)))
 none))))))):=by kernel_rfl
theorem zht (N:Nat) (a2:Bx) (x1:Int) (x6:Int) (x7:Int) (x8:Int) (x9:Int) (l40:List IV) (x41:Int) (x42:Int) (again:St→Res) (k:Out→St→Res):rnd (z0f N) (z0l z0w [1,1,1,0,1,0,0])
 ⟨[(1,(.int .i64 x1)),(5,(.ptr 5 0 0)),(6,(.int .i64 x6)),(7,(.int .i64 x7)),(8,(.int .i64 x8)),(9,(.int .i64 x9)),(40,(.list true z30 l40)),(41,(.int .i64 x41)),(42,(.int .i64 x42))],[(5,(some (.box (Bx.cs a2))))]⟩
 (z57 again ⟨[1,5,6,7,8,9,40,41,42],[5],[]⟩ k) =
 (cond (decide (x42 < x41))
 (cond (decide (0≤x42)&&decide (x42 < ic (List.length l40)))
 (cond (IV.toInt (IV.cell (List.getD l40 (Int.toNat x42) default) 0)==x1)
 (cond (z6v (IV.toList (IV.cell (List.getD l40 (Int.toNat x42) default) 1)) 4&&z4y a2)
 (again ⟨[(1,(.int .i64 x1)),(5,(.ptr 5 0 0)),(6,(.int .i64 x6)),(7,(.int .i64 x7)),(8,(.int .i64 (IntKind.wrap IntKind.i64 (x8+tLo (IV.toList (IV.cell (List.getD l40 (Int.toNat x42) default) 1)) a2)))),(9,(.int .i64 (IntKind.wrap IntKind.i64 (x9+tHi (IV.toList (IV.cell (List.getD l40 (Int.toNat x42) default) 1)) a2)))),(40,(.list true z30 l40)),(41,(.int .i64 x41)),(42,(.int .i64 (IntKind.wrap IntKind.i64 (x42+1))))],[(5,(some (.box (Bx.cs a2))))]⟩)
 none)
 (again ⟨[(1,(.int .i64 x1)),(5,(.ptr 5 0 0)),(6,(.int .i64 x6)),(7,(.int .i64 x7)),(8,(.int .i64 x8)),(9,(.int .i64 x9)),(40,(.list true z30 l40)),(41,(.int .i64 x41)),(42,(.int .i64 (IntKind.wrap IntKind.i64 (x42+1))))],[(5,(some (.box (Bx.cs a2))))]⟩))
 none)
 (k (.exit 0) ⟨[(1,(.int .i64 x1)),(5,(.ptr 5 0 0)),(6,(.int .i64 x6)),(7,(.int .i64 x7)),(8,(.int .i64 x8)),(9,(.int .i64 x9)),(40,(.list true z30 l40)),(41,(.int .i64 x41)),(42,(.int .i64 x42))],[(5,(some (.box (Bx.cs a2))))]⟩)):=by kernel_rfl
theorem zng (N:Nat) (a2:Bx) (x1:Int) (x6:Int) (x7:Int) (x8:Int) (x9:Int) (l40:List IV) (x41:Int) (x42:Int):(z08 0 (kSq (z0f N) (z0l z0w [1,1,1,1]) (z2w (z0f N) none [(ResultVar.tmp 6),(ResultVar.tmp 7)] [[(.int .i64)],[(.int .i64)]]))) (.exit 0)
 ⟨[(1,(.int .i64 x1)),(5,(.ptr 5 0 0)),(6,(.int .i64 x6)),(7,(.int .i64 x7)),(8,(.int .i64 x8)),(9,(.int .i64 x9)),(40,(.list true z30 l40)),(41,(.int .i64 x41)),(42,(.int .i64 x42))],[(5,(some (.box (Bx.cs a2))))]⟩ =
 (some ((.tup [(.int .i64 x8),(.int .i64 x9)]),[])):=by kernel_rfl
def z1f (N:Nat):Env:=mkE [(43,z1t),(44,z9w)] [(9,⟨[3,4,5,6,7,42,43],[3,4,5],[]⟩)] 94 N
theorem zu2 (N:Nat) (m:Md) (a1:Qy) (a2:Bx):z16 (z1f N) z1v [.tmp 6] [[.bool]] [(Md.V m),(Qy.V a1),(Bx.V a2)] =
 (cond (Bx.emp a2)
 (some ((.bool true),[]))
 (cond (Bx.emp a2||z4y a2)
 (cond (Qy.k a1==1)
 (cond (decide (Qy.lo a1≤sLo m (Qy.c a1) a2)) (some ((.bool (decide (sHi m (Qy.c a1) a2≤Qy.hi a1))),[])) (some ((.bool false),[])))
 (cond (Qy.k a1==2)
 (lpE (z1f N) (z0l z1v [1,1,1,0,1,0,1,1,1,0,0,1,0,0]) ⟨[3,4,5,6,7,42,43],[3,4,5],[]⟩ N ⟨[(3,(.ptr 3 0 0)),(4,(.ptr 4 0 0)),(5,(.ptr 5 0 0)),(6,(.bool false)),(7,(.int .i64 (sLo m (Qy.c a1) a2))),(42,(.int .i64 (Md.c m))),(43,(.int .i64 0))],[(3,(some (.box (Md.cs m)))),(4,(some (.box (Qy.cs a1)))),(5,(some (.box (Bx.cs a2))))]⟩ (z08 1 (kSq (z1f N) (z0l z1v [1,1,1,0,1,0,1,1,1,0,1]) (z08 0 (kSq (z1f N) (z0l z1v [1,1,1,1]) (z2w (z1f N) none [(ResultVar.tmp 6)] [[.bool]]))))))
 (cond (decide (Qy.ft a1=ic 0))
 (cond (decide (Sp.lo (Bx.s0 a2)≥Sp.hi (Bx.s4 a2)))
 (some ((.bool true),[]))
 (cond (decide (Qy.ft a1=ic 0))
 (cond (Bx.emp {s0:=(Bx.s4 a2),s1:=(Bx.s1 a2),s2:=(Bx.s2 a2),s3:=(Bx.s3 a2),s4:=(Bx.s4 a2)}||z4y {s0:=(Bx.s4 a2),s1:=(Bx.s1 a2),s2:=(Bx.s2 a2),s3:=(Bx.s3 a2),s4:=(Bx.s4 a2)})
 (cond (Qy.fl a1)
 (some ((.bool (decide (sHi m (Qy.c a1) {s0:=(Bx.s4 a2),s1:=(Bx.s1 a2),s2:=(Bx.s2 a2),s3:=(Bx.s3 a2),s4:=(Bx.s4 a2)}≤sLo m (Qy.c a1) a2))),[]))
 (some ((.bool (decide (sLo m (Qy.c a1) {s0:=(Bx.s4 a2),s1:=(Bx.s1 a2),s2:=(Bx.s2 a2),s3:=(Bx.s3 a2),s4:=(Bx.s4 a2)}≥sHi m (Qy.c a1) a2))),[])))
 none)
 (cond (decide (Qy.ft a1=ic 1))
 (cond (Bx.emp {s0:=(Bx.s0 a2),s1:=(Bx.s4 a2),s2:=(Bx.s2 a2),s3:=(Bx.s3 a2),s4:=(Bx.s4 a2)}||z4y {s0:=(Bx.s0 a2),s1:=(Bx.s4 a2),s2:=(Bx.s2 a2),s3:=(Bx.s3 a2),s4:=(Bx.s4 a2)})
 (cond (Qy.fl a1)
 (some ((.bool (decide (sHi m (Qy.c a1) {s0:=(Bx.s0 a2),s1:=(Bx.s4 a2),s2:=(Bx.s2 a2),s3:=(Bx.s3 a2),s4:=(Bx.s4 a2)}≤sLo m (Qy.c a1) a2))),[]))
 (some ((.bool (decide (sLo m (Qy.c a1) {s0:=(Bx.s0 a2),s1:=(Bx.s4 a2),s2:=(Bx.s2 a2),s3:=(Bx.s3 a2),s4:=(Bx.s4 a2)}≥sHi m (Qy.c a1) a2))),[])))
 none)
 (cond (decide (Qy.ft a1=ic 2))
 (cond (Bx.emp {s0:=(Bx.s0 a2),s1:=(Bx.s1 a2),s2:=(Bx.s4 a2),s3:=(Bx.s3 a2),s4:=(Bx.s4 a2)}||z4y {s0:=(Bx.s0 a2),s1:=(Bx.s1 a2),s2:=(Bx.s4 a2),s3:=(Bx.s3 a2),s4:=(Bx.s4 a2)})
 (cond (Qy.fl a1)
 (some ((.bool (decide (sHi m (Qy.c a1) {s0:=(Bx.s0 a2),s1:=(Bx.s1 a2),s2:=(Bx.s4 a2),s3:=(Bx.s3 a2),s4:=(Bx.s4 a2)}≤sLo m (Qy.c a1) a2))),[]))
 (some ((.bool (decide (sLo m (Qy.c a1) {s0:=(Bx.s0 a2),s1:=(Bx.s1 a2),s2:=(Bx.s4 a2),s3:=(Bx.s3 a2),s4:=(Bx.s4 a2)}≥sHi m (Qy.c a1) a2))),[])))
 none)
 (cond (decide (Qy.ft a1=ic 3))
 (cond (Bx.emp {s0:=(Bx.s0 a2),s1:=(Bx.s1 a2),s2:=(Bx.s2 a2),s3:=(Bx.s4 a2),s4:=(Bx.s4 a2)}||z4y {s0:=(Bx.s0 a2),s1:=(Bx.s1 a2),s2:=(Bx.s2 a2),s3:=(Bx.s4 a2),s4:=(Bx.s4 a2)})
 (cond (Qy.fl a1)
 (some ((.bool (decide (sHi m (Qy.c a1) {s0:=(Bx.s0 a2),s1:=(Bx.s1 a2),s2:=(Bx.s2 a2),s3:=(Bx.s4 a2),s4:=(Bx.s4 a2)}≤sLo m (Qy.c a1) a2))),[]))
 (some ((.bool (decide (sLo m (Qy.c a1) {s0:=(Bx.s0 a2),s1:=(Bx.s1 a2),s2:=(Bx.s2 a2),s3:=(Bx.s4 a2),s4:=(Bx.s4 a2)}≥sHi m (Qy.c a1) a2))),[])))
 none)
 (cond (decide (Qy.ft a1=ic 4))
 (cond (Bx.emp a2||z4y a2)
 (cond (Qy.fl a1)
 (some ((.bool (decide (sHi m (Qy.c a1) a2≤sLo m (Qy.c a1) a2))),[]))
 (some ((.bool (decide (sLo m (Qy.c a1) a2≥sHi m (Qy.c a1) a2))),[])))
 none)
 none))))))
 (cond (decide (Qy.ft a1=ic 1))
 (cond (decide (Sp.lo (Bx.s1 a2)≥Sp.hi (Bx.s4 a2)))
 (some ((.bool true),[]))
 (cond (decide (Qy.ft a1=ic 0))
 (cond (Bx.emp {s0:=(Bx.s4 a2),s1:=(Bx.s1 a2),s2:=(Bx.s2 a2),s3:=(Bx.s3 a2),s4:=(Bx.s4 a2)}||z4y {s0:=(Bx.s4 a2),s1:=(Bx.s1 a2),s2:=(Bx.s2 a2),s3:=(Bx.s3 a2),s4:=(Bx.s4 a2)})
 (cond (Qy.fl a1)
 (some ((.bool (decide (sHi m (Qy.c a1) {s0:=(Bx.s4 a2),s1:=(Bx.s1 a2),s2:=(Bx.s2 a2),s3:=(Bx.s3 a2),s4:=(Bx.s4 a2)}≤sLo m (Qy.c a1) a2))),[]))
 (some ((.bool (decide (sLo m (Qy.c a1) {s0:=(Bx.s4 a2),s1:=(Bx.s1 a2),s2:=(Bx.s2 a2),s3:=(Bx.s3 a2),s4:=(Bx.s4 a2)}≥sHi m (Qy.c a1) a2))),[])))
 none)
 (cond (decide (Qy.ft a1=ic 1))
 (cond (Bx.emp {s0:=(Bx.s0 a2),s1:=(Bx.s4 a2),s2:=(Bx.s2 a2),s3:=(Bx.s3 a2),s4:=(Bx.s4 a2)}||z4y {s0:=(Bx.s0 a2),s1:=(Bx.s4 a2),s2:=(Bx.s2 a2),s3:=(Bx.s3 a2),s4:=(Bx.s4 a2)})
 (cond (Qy.fl a1)
 (some ((.bool (decide (sHi m (Qy.c a1) {s0:=(Bx.s0 a2),s1:=(Bx.s4 a2),s2:=(Bx.s2 a2),s3:=(Bx.s3 a2),s4:=(Bx.s4 a2)}≤sLo m (Qy.c a1) a2))),[]))
 (some ((.bool (decide (sLo m (Qy.c a1) {s0:=(Bx.s0 a2),s1:=(Bx.s4 a2),s2:=(Bx.s2 a2),s3:=(Bx.s3 a2),s4:=(Bx.s4 a2)}≥sHi m (Qy.c a1) a2))),[])))
 none)
 (cond (decide (Qy.ft a1=ic 2))
 (cond (Bx.emp {s0:=(Bx.s0 a2),s1:=(Bx.s1 a2),s2:=(Bx.s4 a2),s3:=(Bx.s3 a2),s4:=(Bx.s4 a2)}||z4y {s0:=(Bx.s0 a2),s1:=(Bx.s1 a2),s2:=(Bx.s4 a2),s3:=(Bx.s3 a2),s4:=(Bx.s4 a2)})
 (cond (Qy.fl a1)
 (some ((.bool (decide (sHi m (Qy.c a1) {s0:=(Bx.s0 a2),s1:=(Bx.s1 a2),s2:=(Bx.s4 a2),s3:=(Bx.s3 a2),s4:=(Bx.s4 a2)}≤sLo m (Qy.c a1) a2))),[]))
 (some ((.bool (decide (sLo m (Qy.c a1) {s0:=(Bx.s0 a2),s1:=(Bx.s1 a2),s2:=(Bx.s4 a2),s3:=(Bx.s3 a2),s4:=(Bx.s4 a2)}≥sHi m (Qy.c a1) a2))),[])))
 none)
 (cond (decide (Qy.ft a1=ic 3))
 (cond (Bx.emp {s0:=(Bx.s0 a2),s1:=(Bx.s1 a2),s2:=(Bx.s2 a2),s3:=(Bx.s4 a2),s4:=(Bx.s4 a2)}||z4y {s0:=(Bx.s0 a2),s1:=(Bx.s1 a2),s2:=(Bx.s2 a2),s3:=(Bx.s4 a2),s4:=(Bx.s4 a2)})
 (cond (Qy.fl a1)
 (some ((.bool (decide (sHi m (Qy.c a1) {s0:=(Bx.s0 a2),s1:=(Bx.s1 a2),s2:=(Bx.s2 a2),s3:=(Bx.s4 a2),s4:=(Bx.s4 a2)}≤sLo m (Qy.c a1) a2))),[]))
 (some ((.bool (decide (sLo m (Qy.c a1) {s0:=(Bx.s0 a2),s1:=(Bx.s1 a2),s2:=(Bx.s2 a2),s3:=(Bx.s4 a2),s4:=(Bx.s4 a2)}≥sHi m (Qy.c a1) a2))),[])))
 none)
 (cond (decide (Qy.ft a1=ic 4))
 (cond (Bx.emp a2||z4y a2)
 (cond (Qy.fl a1)
 (some ((.bool (decide (sHi m (Qy.c a1) a2≤sLo m (Qy.c a1) a2))),[]))
 (some ((.bool (decide (sLo m (Qy.c a1) a2≥sHi m (Qy.c a1) a2))),[])))
 none)
 none))))))
 (cond (decide (Qy.ft a1=ic 2))
 (cond (decide (Sp.lo (Bx.s2 a2)≥Sp.hi (Bx.s4 a2)))
 (some ((.bool true),[]))
 (cond (decide (Qy.ft a1=ic 0))
 (cond (Bx.emp {s0:=(Bx.s4 a2),s1:=(Bx.s1 a2),s2:=(Bx.s2 a2),s3:=(Bx.s3 a2),s4:=(Bx.s4 a2)}||z4y {s0:=(Bx.s4 a2),s1:=(Bx.s1 a2),s2:=(Bx.s2 a2),s3:=(Bx.s3 a2),s4:=(Bx.s4 a2)})
 (cond (Qy.fl a1)
 (some ((.bool (decide (sHi m (Qy.c a1) {s0:=(Bx.s4 a2),s1:=(Bx.s1 a2),s2:=(Bx.s2 a2),s3:=(Bx.s3 a2),s4:=(Bx.s4 a2)}≤sLo m (Qy.c a1) a2))),[]))
 (some ((.bool (decide (sLo m (Qy.c a1) {s0:=(Bx.s4 a2),s1:=(Bx.s1 a2),s2:=(Bx.s2 a2),s3:=(Bx.s3 a2),s4:=(Bx.s4 a2)}≥sHi m (Qy.c a1) a2))),[])))
 none)
 (cond (decide (Qy.ft a1=ic 1))
 (cond (Bx.emp {s0:=(Bx.s0 a2),s1:=(Bx.s4 a2),s2:=(Bx.s2 a2),s3:=(Bx.s3 a2),s4:=(Bx.s4 a2)}||z4y {s0:=(Bx.s0 a2),s1:=(Bx.s4 a2),s2:=(Bx.s2 a2),s3:=(Bx.s3 a2),s4:=(Bx.s4 a2)})
 (cond (Qy.fl a1)
 (some ((.bool (decide (sHi m (Qy.c a1) {s0:=(Bx.s0 a2),s1:=(Bx.s4 a2),s2:=(Bx.s2 a2),s3:=(Bx.s3 a2),s4:=(Bx.s4 a2)}≤sLo m (Qy.c a1) a2))),[]))
 (some ((.bool (decide (sLo m (Qy.c a1) {s0:=(Bx.s0 a2),s1:=(Bx.s4 a2),s2:=(Bx.s2 a2),s3:=(Bx.s3 a2),s4:=(Bx.s4 a2)}≥sHi m (Qy.c a1) a2))),[])))
 none)
 (cond (decide (Qy.ft a1=ic 2))
 (cond (Bx.emp {s0:=(Bx.s0 a2),s1:=(Bx.s1 a2),s2:=(Bx.s4 a2),s3:=(Bx.s3 a2),s4:=(Bx.s4 a2)}||z4y {s0:=(Bx.s0 a2),s1:=(Bx.s1 a2),s2:=(Bx.s4 a2),s3:=(Bx.s3 a2),s4:=(Bx.s4 a2)})
 (cond (Qy.fl a1)
 (some ((.bool (decide (sHi m (Qy.c a1) {s0:=(Bx.s0 a2),s1:=(Bx.s1 a2),s2:=(Bx.s4 a2),s3:=(Bx.s3 a2),s4:=(Bx.s4 a2)}≤sLo m (Qy.c a1) a2))),[]))
 (some ((.bool (decide (sLo m (Qy.c a1) {s0:=(Bx.s0 a2),s1:=(Bx.s1 a2),s2:=(Bx.s4 a2),s3:=(Bx.s3 a2),s4:=(Bx.s4 a2)}≥sHi m (Qy.c a1) a2))),[])))
 none)
 (cond (decide (Qy.ft a1=ic 3))
 (cond (Bx.emp {s0:=(Bx.s0 a2),s1:=(Bx.s1 a2),s2:=(Bx.s2 a2),s3:=(Bx.s4 a2),s4:=(Bx.s4 a2)}||z4y {s0:=(Bx.s0 a2),s1:=(Bx.s1 a2),s2:=(Bx.s2 a2),s3:=(Bx.s4 a2),s4:=(Bx.s4 a2)})
 (cond (Qy.fl a1)
 (some ((.bool (decide (sHi m (Qy.c a1) {s0:=(Bx.s0 a2),s1:=(Bx.s1 a2),s2:=(Bx.s2 a2),s3:=(Bx.s4 a2),s4:=(Bx.s4 a2)}≤sLo m (Qy.c a1) a2))),[]))
 (some ((.bool (decide (sLo m (Qy.c a1) {s0:=(Bx.s0 a2),s1:=(Bx.s1 a2),s2:=(Bx.s2 a2),s3:=(Bx.s4 a2),s4:=(Bx.s4 a2)}≥sHi m (Qy.c a1) a2))),[])))
 none)
 (cond (decide (Qy.ft a1=ic 4))
 (cond (Bx.emp a2||z4y a2)
 (cond (Qy.fl a1)
 (some ((.bool (decide (sHi m (Qy.c a1) a2≤sLo m (Qy.c a1) a2))),[]))
 (some ((.bool (decide (sLo m (Qy.c a1) a2≥sHi m (Qy.c a1) a2))),[])))
 none)
 none))))))
 (cond (decide (Qy.ft a1=ic 3))
 (cond (decide (Sp.lo (Bx.s3 a2)≥Sp.hi (Bx.s4 a2)))
 (some ((.bool true),[]))
 (cond (decide (Qy.ft a1=ic 0))
 (cond (Bx.emp {s0:=(Bx.s4 a2),s1:=(Bx.s1 a2),s2:=(Bx.s2 a2),s3:=(Bx.s3 a2),s4:=(Bx.s4 a2)}||z4y {s0:=(Bx.s4 a2),s1:=(Bx.s1 a2),s2:=(Bx.s2 a2),s3:=(Bx.s3 a2),s4:=(Bx.s4 a2)})
 (cond (Qy.fl a1)
 (some ((.bool (decide (sHi m (Qy.c a1) {s0:=(Bx.s4 a2),s1:=(Bx.s1 a2),s2:=(Bx.s2 a2),s3:=(Bx.s3 a2),s4:=(Bx.s4 a2)}≤sLo m (Qy.c a1) a2))),[]))
 (some ((.bool (decide (sLo m (Qy.c a1) {s0:=(Bx.s4 a2),s1:=(Bx.s1 a2),s2:=(Bx.s2 a2),s3:=(Bx.s3 a2),s4:=(Bx.s4 a2)}≥sHi m (Qy.c a1) a2))),[])))
 none)
 (cond (decide (Qy.ft a1=ic 1))
 (cond (Bx.emp {s0:=(Bx.s0 a2),s1:=(Bx.s4 a2),s2:=(Bx.s2 a2),s3:=(Bx.s3 a2),s4:=(Bx.s4 a2)}||z4y {s0:=(Bx.s0 a2),s1:=(Bx.s4 a2),s2:=(Bx.s2 a2),s3:=(Bx.s3 a2),s4:=(Bx.s4 a2)})
 (cond (Qy.fl a1)
 (some ((.bool (decide (sHi m (Qy.c a1) {s0:=(Bx.s0 a2),s1:=(Bx.s4 a2),s2:=(Bx.s2 a2),s3:=(Bx.s3 a2),s4:=(Bx.s4 a2)}≤sLo m (Qy.c a1) a2))),[]))
 (some ((.bool (decide (sLo m (Qy.c a1) {s0:=(Bx.s0 a2),s1:=(Bx.s4 a2),s2:=(Bx.s2 a2),s3:=(Bx.s3 a2),s4:=(Bx.s4 a2)}≥sHi m (Qy.c a1) a2))),[])))
 none)
 (cond (decide (Qy.ft a1=ic 2))
 (cond (Bx.emp {s0:=(Bx.s0 a2),s1:=(Bx.s1 a2),s2:=(Bx.s4 a2),s3:=(Bx.s3 a2),s4:=(Bx.s4 a2)}||z4y {s0:=(Bx.s0 a2),s1:=(Bx.s1 a2),s2:=(Bx.s4 a2),s3:=(Bx.s3 a2),s4:=(Bx.s4 a2)})
 (cond (Qy.fl a1)
 (some ((.bool (decide (sHi m (Qy.c a1) {s0:=(Bx.s0 a2),s1:=(Bx.s1 a2),s2:=(Bx.s4 a2),s3:=(Bx.s3 a2),s4:=(Bx.s4 a2)}≤sLo m (Qy.c a1) a2))),[]))
 (some ((.bool (decide (sLo m (Qy.c a1) {s0:=(Bx.s0 a2),s1:=(Bx.s1 a2),s2:=(Bx.s4 a2),s3:=(Bx.s3 a2),s4:=(Bx.s4 a2)}≥sHi m (Qy.c a1) a2))),[])))
 none)
 (cond (decide (Qy.ft a1=ic 3))
 (cond (Bx.emp {s0:=(Bx.s0 a2),s1:=(Bx.s1 a2),s2:=(Bx.s2 a2),s3:=(Bx.s4 a2),s4:=(Bx.s4 a2)}||z4y {s0:=(Bx.s0 a2),s1:=(Bx.s1 a2),s2:=(Bx.s2 a2),s3:=(Bx.s4 a2),s4:=(Bx.s4 a2)})
 (cond (Qy.fl a1)
 (some ((.bool (decide (sHi m (Qy.c a1) {s0:=(Bx.s0 a2),s1:=(Bx.s1 a2),s2:=(Bx.s2 a2),s3:=(Bx.s4 a2),s4:=(Bx.s4 a2)}≤sLo m (Qy.c a1) a2))),[]))
 (some ((.bool (decide (sLo m (Qy.c a1) {s0:=(Bx.s0 a2),s1:=(Bx.s1 a2),s2:=(Bx.s2 a2),s3:=(Bx.s4 a2),s4:=(Bx.s4 a2)}≥sHi m (Qy.c a1) a2))),[])))
 none)
 (cond (decide (Qy.ft a1=ic 4))
 (cond (Bx.emp a2||z4y a2)
 (cond (Qy.fl a1)
 (some ((.bool (decide (sHi m (Qy.c a1) a2≤sLo m (Qy.c a1) a2))),[]))
 (some ((.bool (decide (sLo m (Qy.c a1) a2≥sHi m (Qy.c a1) a2))),[])))
 none)
 none))))))
 (cond (decide (Qy.ft a1=ic 4))
 (cond (decide (Sp.lo (Bx.s4 a2)≥Sp.hi (Bx.s4 a2)))
 (some ((.bool true),[]))
 (cond (decide (Qy.ft a1=ic 0))
 (cond (Bx.emp {s0:=(Bx.s4 a2),s1:=(Bx.s1 a2),s2:=(Bx.s2 a2),s3:=(Bx.s3 a2),s4:=(Bx.s4 a2)}||z4y {s0:=(Bx.s4 a2),s1:=(Bx.s1 a2),s2:=(Bx.s2 a2),s3:=(Bx.s3 a2),s4:=(Bx.s4 a2)})
 (cond (Qy.fl a1)
 (some ((.bool (decide (sHi m (Qy.c a1) {s0:=(Bx.s4 a2),s1:=(Bx.s1 a2),s2:=(Bx.s2 a2),s3:=(Bx.s3 a2),s4:=(Bx.s4 a2)}≤sLo m (Qy.c a1) a2))),[]))
 (some ((.bool (decide (sLo m (Qy.c a1) {s0:=(Bx.s4 a2),s1:=(Bx.s1 a2),s2:=(Bx.s2 a2),s3:=(Bx.s3 a2),s4:=(Bx.s4 a2)}≥sHi m (Qy.c a1) a2))),[])))
 none)
 (cond (decide (Qy.ft a1=ic 1))
 (cond (Bx.emp {s0:=(Bx.s0 a2),s1:=(Bx.s4 a2),s2:=(Bx.s2 a2),s3:=(Bx.s3 a2),s4:=(Bx.s4 a2)}||z4y {s0:=(Bx.s0 a2),s1:=(Bx.s4 a2),s2:=(Bx.s2 a2),s3:=(Bx.s3 a2),s4:=(Bx.s4 a2)})
 (cond (Qy.fl a1)
 (some ((.bool (decide (sHi m (Qy.c a1) {s0:=(Bx.s0 a2),s1:=(Bx.s4 a2),s2:=(Bx.s2 a2),s3:=(Bx.s3 a2),s4:=(Bx.s4 a2)}≤sLo m (Qy.c a1) a2))),[]))
 (some ((.bool (decide (sLo m (Qy.c a1) {s0:=(Bx.s0 a2),s1:=(Bx.s4 a2),s2:=(Bx.s2 a2),s3:=(Bx.s3 a2),s4:=(Bx.s4 a2)}≥sHi m (Qy.c a1) a2))),[])))
 none)
 (cond (decide (Qy.ft a1=ic 2))
 (cond (Bx.emp {s0:=(Bx.s0 a2),s1:=(Bx.s1 a2),s2:=(Bx.s4 a2),s3:=(Bx.s3 a2),s4:=(Bx.s4 a2)}||z4y {s0:=(Bx.s0 a2),s1:=(Bx.s1 a2),s2:=(Bx.s4 a2),s3:=(Bx.s3 a2),s4:=(Bx.s4 a2)})
 (cond (Qy.fl a1)
 (some ((.bool (decide (sHi m (Qy.c a1) {s0:=(Bx.s0 a2),s1:=(Bx.s1 a2),s2:=(Bx.s4 a2),s3:=(Bx.s3 a2),s4:=(Bx.s4 a2)}≤sLo m (Qy.c a1) a2))),[]))
 (some ((.bool (decide (sLo m (Qy.c a1) {s0:=(Bx.s0 a2),s1:=(Bx.s1 a2),s2:=(Bx.s4 a2),s3:=(Bx.s3 a2),s4:=(Bx.s4 a2)}≥sHi m (Qy.c a1) a2))),[])))
 none)
 (cond (decide (Qy.ft a1=ic 3))
 (cond (Bx.emp {s0:=(Bx.s0 a2),s1:=(Bx.s1 a2),s2:=(Bx.s2 a2),s3:=(Bx.s4 a2),s4:=(Bx.s4 a2)}||z4y {s0:=(Bx.s0 a2),s1:=(Bx.s1 a2),s2:=(Bx.s2 a2),s3:=(Bx.s4 a2),s4:=(Bx.s4 a2)})
 (cond (Qy.fl a1)
 (some ((.bool (decide (sHi m (Qy.c a1) {s0:=(Bx.s0 a2),s1:=(Bx.s1 a2),s2:=(Bx.s2 a2),s3:=(Bx.s4 a2),s4:=(Bx.s4 a2)}≤sLo m (Qy.c a1) a2))),[]))
 (some ((.bool (decide (sLo m (Qy.c a1) {s0:=(Bx.s0 a2),s1:=(Bx.s1 a2),s2:=(Bx.s2 a2),s3:=(Bx.s4 a2),s4:=(Bx.s4 a2)}≥sHi m (Qy.c a1) a2))),[])))
 none)
 (cond (decide (Qy.ft a1=ic 4))
 (cond (Bx.emp a2||z4y a2)
 (cond (Qy.fl a1)
 (some ((.bool (decide (sHi m (Qy.c a1) a2≤sLo m (Qy.c a1) a2))),[]))
 (some ((.bool (decide (sLo m (Qy.c a1) a2≥sHi m (Qy.c a1) a2))),[])))
 none)
 none))))))
 none)))))))
 none)):=by kernel_rfl
theorem zga (N:Nat) (m:Md) (a1:Qy) (a2:Bx) (b6:Bool) (x7:Int) (x42:Int) (x43:Int) (again:St→Res) (k:Out→St→Res):rnd (z1f N) (z0l z1v [1,1,1,0,1,0,1,1,1,0,0,1,0,0])
 ⟨[(3,(.ptr 3 0 0)),(4,(.ptr 4 0 0)),(5,(.ptr 5 0 0)),(6,(.bool b6)),(7,(.int .i64 x7)),(42,(.int .i64 x42)),(43,(.int .i64 x43))],[(3,(some (.box (Md.cs m)))),(4,(some (.box (Qy.cs a1)))),(5,(some (.box (Bx.cs a2))))]⟩
 (z57 again ⟨[3,4,5,6,7,42,43],[3,4,5],[]⟩ k) =
 (cond (decide (x43 < x42))
 (cond (Bx.emp a2||z4y a2)
 (cond (x43 != Qy.c a1)
 (cond (decide (sHi m x43 a2≥x7))
 (k .ret ⟨[(3,(.ptr 3 0 0)),(4,(.ptr 4 0 0)),(5,(.ptr 5 0 0)),(6,(.bool false)),(7,(.int .i64 x7)),(42,(.int .i64 x42)),(43,(.int .i64 x43))],[(3,(some (.box (Md.cs m)))),(4,(some (.box (Qy.cs a1)))),(5,(some (.box (Bx.cs a2))))]⟩)
 (again ⟨[(3,(.ptr 3 0 0)),(4,(.ptr 4 0 0)),(5,(.ptr 5 0 0)),(6,(.bool b6)),(7,(.int .i64 x7)),(42,(.int .i64 x42)),(43,(.int .i64 (IntKind.wrap IntKind.i64 (x43+1))))],[(3,(some (.box (Md.cs m)))),(4,(some (.box (Qy.cs a1)))),(5,(some (.box (Bx.cs a2))))]⟩))
 (again ⟨[(3,(.ptr 3 0 0)),(4,(.ptr 4 0 0)),(5,(.ptr 5 0 0)),(6,(.bool b6)),(7,(.int .i64 x7)),(42,(.int .i64 x42)),(43,(.int .i64 (IntKind.wrap IntKind.i64 (x43+1))))],[(3,(some (.box (Md.cs m)))),(4,(some (.box (Qy.cs a1)))),(5,(some (.box (Bx.cs a2))))]⟩))
 none)
 (k (.exit 1) ⟨[(3,(.ptr 3 0 0)),(4,(.ptr 4 0 0)),(5,(.ptr 5 0 0)),(6,(.bool b6)),(7,(.int .i64 x7)),(42,(.int .i64 x42)),(43,(.int .i64 x43))],[(3,(some (.box (Md.cs m)))),(4,(some (.box (Qy.cs a1)))),(5,(some (.box (Bx.cs a2))))]⟩)):=by kernel_rfl
theorem zkq (N:Nat) (m:Md) (a1:Qy) (a2:Bx) (b6:Bool) (x7:Int) (x42:Int) (x43:Int):(z08 1 (kSq (z1f N) (z0l z1v [1,1,1,0,1,0,1,1,1,0,1]) (z08 0 (kSq (z1f N) (z0l z1v [1,1,1,1]) (z2w (z1f N) none [(ResultVar.tmp 6)] [[.bool]]))))) (.exit 1)
 ⟨[(3,(.ptr 3 0 0)),(4,(.ptr 4 0 0)),(5,(.ptr 5 0 0)),(6,(.bool b6)),(7,(.int .i64 x7)),(42,(.int .i64 x42)),(43,(.int .i64 x43))],[(3,(some (.box (Md.cs m)))),(4,(some (.box (Qy.cs a1)))),(5,(some (.box (Bx.cs a2))))]⟩ =
 (some ((.bool true),[])):=by kernel_rfl
theorem zm3 (N:Nat) (m:Md) (a1:Qy) (a2:Bx) (b6:Bool) (x7:Int) (x42:Int) (x43:Int):(z08 1 (kSq (z1f N) (z0l z1v [1,1,1,0,1,0,1,1,1,0,1]) (z08 0 (kSq (z1f N) (z0l z1v [1,1,1,1]) (z2w (z1f N) none [(ResultVar.tmp 6)] [[.bool]]))))) .ret
 ⟨[(3,(.ptr 3 0 0)),(4,(.ptr 4 0 0)),(5,(.ptr 5 0 0)),(6,(.bool b6)),(7,(.int .i64 x7)),(42,(.int .i64 x42)),(43,(.int .i64 x43))],[(3,(some (.box (Md.cs m)))),(4,(some (.box (Qy.cs a1)))),(5,(some (.box (Bx.cs a2))))]⟩ =
 (some ((.bool b6),[])):=by kernel_rfl
def z0v (N:Nat):Env:=mkE [(24,zhq),(23,z93),(22,zag),(25,z4u),(20,z2t),(21,z5n)] [(8,⟨[3,4,6,9,29,30,31],[3,4],[]⟩)] 59 N
theorem zr4 (N:Nat) (m:Md) (q:Qy) (v:Vd):z16 (z0v N) z1a [.tmp 6] [[.bool]] [(Md.V m),(Qy.V q),(Vd.V v)] =
 (cond (!z1q m q)
 (some ((.bool false),[]))
 (cond (Vd.kind v==1)
 (cond (Option.isSome (psF (z33 q) (Vd.proof v)))
 (lpE (z0v N) (z0l z1a [1,1,1,0,1,0,1,0,1,0,1,0,0]) ⟨[3,4,6,9,29,30,31],[3,4],[]⟩ N ⟨[(3,(.ptr 3 0 0)),(4,(.ptr 4 0 0)),(6,(.bool false)),(9,(.bool true)),(29,(.list true z6l (Option.getD (psF (z33 q) (Vd.proof v)) []))),(30,(.int .i64 (ic (List.length (Option.getD (psF (z33 q) (Vd.proof v)) []))))),(31,(.int .i64 0))],[(3,(some (.box (Md.cs m)))),(4,(some (.box (Qy.cs q))))]⟩ (z08 1 (kSq (z0v N) (z0l z1a [1,1,1,0,1,0,1,0,1,1]) (z08 0 (kSq (z0v N) (z0l z1a [1,1,1,1]) (z2w (z0v N) none [(ResultVar.tmp 6)] [[.bool]]))))))
 (lpE (z0v N) (z0l z1a [1,1,1,0,1,0,1,0,1,0,1,0,0]) ⟨[3,4,6,9,29,30,31],[3,4],[]⟩ N ⟨[(3,(.ptr 3 0 0)),(4,(.ptr 4 0 0)),(6,(.bool false)),(9,(.bool false)),(29,(.list true z6l [])),(30,(.int .i64 (ic 0))),(31,(.int .i64 0))],[(3,(some (.box (Md.cs m)))),(4,(some (.box (Qy.cs q))))]⟩ (z08 1 (kSq (z0v N) (z0l z1a [1,1,1,0,1,0,1,0,1,1]) (z08 0 (kSq (z0v N) (z0l z1a [1,1,1,1]) (z2w (z0v N) none [(ResultVar.tmp 6)] [[.bool]])))))))
 (cond (Vd.kind v==2)
 (cond (Bx.has (z33 q) {p0:=Vd.w0 v,p1:=Vd.w1 v,p2:=Vd.w2 v,p3:=Vd.w3 v} (Vd.twin v))
 (some ((.bool (z2l m q {p0:=Vd.w0 v,p1:=Vd.w1 v,p2:=Vd.w2 v,p3:=Vd.w3 v} (Vd.twin v))),[]))
 (some ((.bool false),[])))
 (some ((.bool false),[]))))):=by kernel_rfl
theorem z98 (N:Nat) (m:Md) (q:Qy) (b6:Bool) (b9:Bool) (l29:List IV) (x30:Int) (x31:Int) (again:St→Res) (k:Out→St→Res):rnd (z0v N) (z0l z1a [1,1,1,0,1,0,1,0,1,0,1,0,0])
 ⟨[(3,(.ptr 3 0 0)),(4,(.ptr 4 0 0)),(6,(.bool b6)),(9,(.bool b9)),(29,(.list true z6l l29)),(30,(.int .i64 x30)),(31,(.int .i64 x31))],[(3,(some (.box (Md.cs m)))),(4,(some (.box (Qy.cs q))))]⟩
 (z57 again ⟨[3,4,6,9,29,30,31],[3,4],[]⟩ k) =
 (cond (decide (x31 < x30))
 (cond (decide (0≤x31)&&decide (x31 < ic (List.length l29)))
 (cond (z1q m q&&(Bx.emp (bxI (List.getD l29 (Int.toNat x31) default))||z4y (bxI (List.getD l29 (Int.toNat x31) default))))
 (cond (!z1r m q (bxI (List.getD l29 (Int.toNat x31) default)))
 (k .ret ⟨[(3,(.ptr 3 0 0)),(4,(.ptr 4 0 0)),(6,(.bool false)),(9,(.bool b9)),(29,(.list true z6l l29)),(30,(.int .i64 x30)),(31,(.int .i64 x31))],[(3,(some (.box (Md.cs m)))),(4,(some (.box (Qy.cs q))))]⟩)
 (again ⟨[(3,(.ptr 3 0 0)),(4,(.ptr 4 0 0)),(6,(.bool b6)),(9,(.bool b9)),(29,(.list true z6l l29)),(30,(.int .i64 x30)),(31,(.int .i64 (IntKind.wrap IntKind.i64 (x31+1))))],[(3,(some (.box (Md.cs m)))),(4,(some (.box (Qy.cs q))))]⟩))
 none)
 none)
 (k (.exit 1) ⟨[(3,(.ptr 3 0 0)),(4,(.ptr 4 0 0)),(6,(.bool b6)),(9,(.bool b9)),(29,(.list true z6l l29)),(30,(.int .i64 x30)),(31,(.int .i64 x31))],[(3,(some (.box (Md.cs m)))),(4,(some (.box (Qy.cs q))))]⟩)):=by kernel_rfl
theorem zc8 (N:Nat) (m:Md) (q:Qy) (b6:Bool) (b9:Bool) (l29:List IV) (x30:Int) (x31:Int):(z08 1 (kSq (z0v N) (z0l z1a [1,1,1,0,1,0,1,0,1,1]) (z08 0 (kSq (z0v N) (z0l z1a [1,1,1,1]) (z2w (z0v N) none [(ResultVar.tmp 6)] [[.bool]]))))) (.exit 1)
 ⟨[(3,(.ptr 3 0 0)),(4,(.ptr 4 0 0)),(6,(.bool b6)),(9,(.bool b9)),(29,(.list true z6l l29)),(30,(.int .i64 x30)),(31,(.int .i64 x31))],[(3,(some (.box (Md.cs m)))),(4,(some (.box (Qy.cs q))))]⟩ =
 (some ((.bool b9),[])):=by kernel_rfl
theorem zjx (N:Nat) (m:Md) (q:Qy) (b6:Bool) (b9:Bool) (l29:List IV) (x30:Int) (x31:Int):(z08 1 (kSq (z0v N) (z0l z1a [1,1,1,0,1,0,1,0,1,1]) (z08 0 (kSq (z0v N) (z0l z1a [1,1,1,1]) (z2w (z0v N) none [(ResultVar.tmp 6)] [[.bool]]))))) .ret
 ⟨[(3,(.ptr 3 0 0)),(4,(.ptr 4 0 0)),(6,(.bool b6)),(9,(.bool b9)),(29,(.list true z6l l29)),(30,(.int .i64 x30)),(31,(.int .i64 x31))],[(3,(some (.box (Md.cs m)))),(4,(some (.box (Qy.cs q))))]⟩ =
 (some ((.bool b6),[])):=by kernel_rfl
open Go Go.Proofs
set_option maxRecDepth 100000 in
theorem zqv:z3n PR B0 48 z8a:=by
  refine z0o [] [] z8a [[.bool]] Tryz.func48 zx4 trivial ?_
  intro vs r hwf h
  unfold z8a at h
  split at h
  · rename_i s p a
    rw [R.get_ok] at h
    refine ⟨0,(ztc 0 s p a).trans ?_⟩
    rw [← h]
    unfold z54
    show _=some (V.bool (cond s (p==0&&a==0) (decide (0≤p)&&decide (p≤4))),[])
    cases s with
    | true=>
      simp only [cond_true,Bool.and_true]
      rfl
    | false=>
      simp only [cond_false]
      by_cases hp:0≤p
      · rw [decide_eq_true (show p≥0 from hp)]; rfl
      · rw [decide_eq_false (show ¬ p≥0 from hp)]; rfl
  · simp [R.get] at h
def yfj (o:Option (Int × Int)):Int:=match o with
  | some st=>cond (!(st.1==0)||decide (st.2 > 200)) 0 st.2
  | none=>0
theorem zxp (N:Nat) (l:List IV) (K:Out→St→Res) (hl:l.length≤65536)
    (hx:∀ x2 x3 x4 x11 x12,K (.exit 0) ⟨[(2,(.int .i64 x2)),(3,(.int .i64 x3)),(4,(.int .i64 x4)),(10,(.list true z0q l)),(11,(.int .i64 x11)),(12,(.int .i64 x12))],[]⟩=cond (x3 != 0) (some ((.int .i64 0),[])) (cond (decide (x4 > 200)) (some ((.int .i64 0),[])) (some ((.int .i64 x4),[]))))
    (hr:∀ x2 x3 x4 x11 x12,K .ret ⟨[(2,(.int .i64 x2)),(3,(.int .i64 x3)),(4,(.int .i64 x4)),(10,(.list true z0q l)),(11,(.int .i64 x11)),(12,(.int .i64 x12))],[]⟩=some (.int .i64 x2,[])) :
    ∀ (d i n:Nat) (left most:Int),i+d=l.length→d < n→0≤left→left≤i+1 →
      lpE (z48 N) (z0l z5f [1,1,1,0,1,0,0]) ⟨[2,3,4,10,11,12],[],[]⟩ n ⟨[(2,(.int .i64 0)),(3,(.int .i64 left)),(4,(.int .i64 most)),(10,(.list true z0q l)),(11,(.int .i64 (ic l.length))),(12,(.int .i64 (i:Int)))],[]⟩ K=some (.int .i64 (yfj (zzi (l.drop i) (left,most))),[])
  | d,i,0,_,_,_,h,_,_=>absurd h (by omega)
  | 0,i,n+1,left,most,hd,_,_,_=>by
    rw [z0b,zgw,zcy (by omega),z03,hx,List.drop_of_length_le (by omega)]
    show _=some (V.int .i64 (cond (!(left==0)||decide (most > 200)) 0 most),[])
    have:(left != 0)=!(left==0):=rfl
    rw [this]
    cases left==0 <;> cases decide (most > 200) <;> rfl
  | d+1,i,n+1,left,most,hd,hn,h0,h1=>by
    have hi:i < l.length:=by omega
    rw [z0b,zgw,zb1 hi,z01,zjz,Bool.and_self,z01,z68 (by omega),zc7 hi,List.drop_eq_getElem_cons hi,zzi]
    unfold zdw
    have er:z54 (stI (IV.toBool (IV.cell l[i] 0)) (IV.toInt (IV.cell l[i] 1)) (IV.toInt (IV.cell l[i] 2)))=z54 l[i]:=rfl
    have es:IV.toBool (IV.cell l[i] 0)=z62 l[i]:=rfl
    rw [er,es]
    generalize l[i]=x
    cases hz:(left==0) with
    | true=>rw [z01,hr]; rfl
    | false=>
      have hne:left≠0:=by simpa using hz
      rw [z03]
      cases z54 x with
      | false=>rw [Bool.not_false,z01,hr]; rfl
      | true=>
        rw [Bool.not_true,z03,Bool.or_false,z03]
        cases z62 x with
        | true=>
          rw [z01,z01,show IntKind.wrap IntKind.i64 (left - 1)=left - 1 from z12 (by omega) (by omega)]
          exact zxp N l K hl hx hr d (i+1) n (left - 1) most (by omega) (by omega) (by omega) (by omega)
        | false=>
          rw [z03,z03,show IntKind.wrap IntKind.i64 (left+1)=left+1 from z12 (by omega) (by omega)]
          exact zxp N l K hl hx hr d (i+1) n (left+1) _ (by omega) (by omega) (by omega) (by omega)
set_option maxRecDepth 100000 in
theorem ztr:z3n PR B0 26 z9u:=by
  refine z0o [(48,z8a)] [(5,⟨[2,3,4,10,11,12],[],[]⟩)] z9u [[.int .i64]] Tryz.func26 y2g ⟨zqv,trivial⟩ ?_
  intro vs r hwf h
  unfold z9u at h
  split at h
  · rename_i l
    rw [R.get_ok] at h
    refine ⟨l.length+1,(zyg (l.length+1) l).trans ?_⟩
    rw [← h]
    unfold zdx
    by_cases hl:l.length≤65536
    · rw [decide_eq_false (show ¬ ic l.length > 65536 by simp only [ic]; omega),z03,z03]
      have:=zxp (l.length+1) l _ hl (fun x2 x3 x4 x11 x12=>zn0 (l.length+1) x2 x3 x4 l x11 x12) (fun x2 x3 x4 x11 x12=>zn1 (l.length+1) x2 x3 x4 l x11 x12) l.length 0 (l.length+1) 1 1 (by omega) (by omega) (by omega) (by omega)
      rw [List.drop_zero] at this
      exact this
    · rw [decide_eq_true (show ic l.length > 65536 by simp only [ic]; omega)]
      rfl
  · simp [R.get] at h
set_option maxRecDepth 100000 in
theorem zgs:z3n PR B0 9 z5o:=by
  refine z0o [(26,z9u)] [] z5o [[.bool]] Tryz.func9 zxy ⟨ztr,trivial⟩ ?_
  intro vs r hwf h
  unfold z5o at h
  split at h
  · rename_i l
    rw [R.get_ok] at h
    exact ⟨0,(zuk 0 l).trans h⟩
  · simp [R.get] at h
set_option maxRecDepth 100000 in
theorem yha (b:Bx) (p:Pt) (t:Int):z16 (y9l 6) y0v [.tmp 6] [[.bool]] [b.V,p.V,.int .i64 t] =
 cond (!b.s0.has p.p0) (some (.bool false,[])) (cond (!b.s1.has p.p1) (some (.bool false,[])) (cond (!b.s2.has p.p2) (some (.bool false,[])) (cond (!b.s3.has p.p3) (some (.bool false,[])) (some (.bool (b.s4.has t),[]))))):=by kernel_rfl
set_option maxRecDepth 100000 in
theorem y4y:z3n PR B0 24 zhq:=by
  refine z0o [(45,z9b)] [(2,⟨[2,3,6,9,10],[3],[]⟩)] zhq [[.bool]] Tryz.func24 yao ⟨zo6,trivial⟩ ?_
  intro vs r hwf h
  unfold zhq at h
  split at h
  · rename_i b p t
    replace h:=z2b h
    obtain ⟨b,rfl,h⟩:=h
    replace h:=zbu h
    obtain ⟨p,rfl,h⟩:=h
    rw [R.get_ok] at h
    refine ⟨6,(yha b p t).trans ?_⟩
    rw [← h]
    unfold Bx.has
    cases b.s0.has p.p0 <;> cases b.s1.has p.p1 <;> cases b.s2.has p.p2 <;> cases b.s3.has p.p3 <;> rfl
  · simp [R.get] at h
open Go
theorem zfv {s:Sp} {n:Int}:s.has n=true↔s.lo≤n∧n≤s.hi:=by
  unfold Sp.has
  rw [Bool.and_eq_true,decide_eq_true_eq,decide_eq_true_eq]
theorem yhd {s:Sp}:s.emp=false↔s.lo≤s.hi:=by
  unfold Sp.emp
  rw [decide_eq_false_iff_not]
  omega
theorem y5z {lo hi n:Int}:(y3h lo hi).has n=true↔lo≤n∧n≤hi:=by
  unfold y3h
  cases hd:decide (lo > hi) with
  | true=>
    have:=of_decide_eq_true hd
    rw [z01,zfv]
    show (1:Int)≤n∧n≤0↔_
    omega
  | false=>rw [z03,zfv]
theorem zww {s:Sp} {a n:Int}:(s.cutL a).has n=true↔s.has n=true∧n≤a:=by
  unfold Sp.cutL
  rw [y5z,zfv]
  omega
theorem zwo {s:Sp} {a n:Int} (ha : -9223372036854775808≤a) (hs:s.hi≤9223372036854775807):(s.cutH a).has n=true↔s.has n=true∧a < n:=by
  unfold Sp.cutH
  cases hd:decide (a≥s.hi) with
  | true=>
    have:=of_decide_eq_true hd
    rw [z01,zfv,zfv]
    show (1:Int)≤n∧n≤0↔_
    omega
  | false=>
    have:=of_decide_eq_false hd
    have e:zds (a+1)=a+1:=z12 (by omega) (by omega)
    rw [z03,y5z,zfv,e]
    omega
def co (p:Pt) (t:Int):Nat→Int
  | 0=>p.p0
  | 1=>p.p1
  | 2=>p.p2
  | 3=>p.p3
  | _=>t
theorem zj2 {b:Bx} {p:Pt} {t:Int}:b.has p t=true↔∀ i,i < 5→(b.g i).has (co p t i)=true:=by
  unfold Bx.has
  simp only [Bool.and_eq_true]
  constructor
  · rintro ⟨h0,h1,h2,h3,h4⟩ i hi
    match i,hi with
    | 0,_=>exact h0
    | 1,_=>exact h1
    | 2,_=>exact h2
    | 3,_=>exact h3
    | 4,_=>exact h4
    | i+5,h=>exact absurd h (by omega)
  · intro h
    exact ⟨h 0 (by omega),h 1 (by omega),h 2 (by omega),h 3 (by omega),h 4 (by omega)⟩
theorem y9b {b:Bx}:b.emp=false↔∀ i,i < 5→(b.g i).lo≤(b.g i).hi:=by
  unfold Bx.emp
  simp only [Bool.or_eq_false_iff,yhd]
  constructor
  · rintro ⟨h0,h1,h2,h3,h4⟩ i hi
    match i,hi with
    | 0,_=>exact h0
    | 1,_=>exact h1
    | 2,_=>exact h2
    | 3,_=>exact h3
    | 4,_=>exact h4
    | i+5,h=>exact absurd h (by omega)
  · intro h
    exact ⟨h 0 (by omega),h 1 (by omega),h 2 (by omega),h 3 (by omega),h 4 (by omega)⟩
theorem zb3 (b:Bx) (s:Sp):∀ {i j:Nat},i < 5→j < 5→(b.p s i).g j=if j=i then s else b.g j
  | 0,0,_,_=>rfl
  | 0,1,_,_=>rfl
  | 0,2,_,_=>rfl
  | 0,3,_,_=>rfl
  | 0,4,_,_=>rfl
  | 1,0,_,_=>rfl
  | 1,1,_,_=>rfl
  | 1,2,_,_=>rfl
  | 1,3,_,_=>rfl
  | 1,4,_,_=>rfl
  | 2,0,_,_=>rfl
  | 2,1,_,_=>rfl
  | 2,2,_,_=>rfl
  | 2,3,_,_=>rfl
  | 2,4,_,_=>rfl
  | 3,0,_,_=>rfl
  | 3,1,_,_=>rfl
  | 3,2,_,_=>rfl
  | 3,3,_,_=>rfl
  | 3,4,_,_=>rfl
  | 4,0,_,_=>rfl
  | 4,1,_,_=>rfl
  | 4,2,_,_=>rfl
  | 4,3,_,_=>rfl
  | 4,4,_,_=>rfl
  | i+5,_,h,_=>absurd h (by omega)
  | _,j+5,_,h=>absurd h (by omega)
def Bx.ok (b:Bx):Prop:=∀ i,i < 5→(b.g i).hi≤2147483647
theorem zv0 (b:Bx) (h:b.emp=false):b.has b.low b.s4.hi=true:=by
  rw [y9b] at h
  rw [zj2]
  intro i hi
  rw [zfv]
  have:=h i hi
  match i,hi with
  | 0,_=>exact ⟨Int.le_refl _,this⟩
  | 1,_=>exact ⟨Int.le_refl _,this⟩
  | 2,_=>exact ⟨Int.le_refl _,this⟩
  | 3,_=>exact ⟨Int.le_refl _,this⟩
  | 4,_=>exact ⟨this,Int.le_refl _⟩
  | i+5,h=>exact absurd h (by omega)
theorem zyp {b:Bx} {p:Pt} {t:Int} (h:b.has p t=true):b.emp=false:=by
  rw [zj2] at h
  rw [y9b]
  intro i hi
  have:=zfv.1 (h i hi)
  omega
theorem y46 {b:Bx} {i:Nat} (hi:i < 5) {a:Int} {p:Pt} {t:Int}:(b.cutL (i:Int) a).has p t=true↔b.has p t=true∧co p t i≤a:=by
  unfold Bx.cutL
  rw [Int.toNat_natCast,zj2,zj2]
  constructor
  · intro h
    refine ⟨fun j hj=>?_,?_⟩
    · have:=h j hj
      rw [zb3 b _ hi hj] at this
      by_cases e:j=i
      · rw [if_pos e,zww] at this
        rw [e] at this ⊢
        exact this.1
      · rw [if_neg e] at this
        exact this
    · have:=h i hi
      rw [zb3 b _ hi hi,if_pos rfl,zww] at this
      exact this.2
  · rintro ⟨h,ha⟩ j hj
    rw [zb3 b _ hi hj]
    by_cases e:j=i
    · rw [if_pos e,zww,e]
      exact ⟨h i hi,ha⟩
    · rw [if_neg e]
      exact h j hj
theorem y59 {b:Bx} (hb:b.ok) {i:Nat} (hi:i < 5) {a:Int} (ha : -2147483648≤a) {p:Pt} {t:Int}:(b.cutH (i:Int) a).has p t=true↔b.has p t=true∧a < co p t i:=by
  have hs:=hb i hi
  unfold Bx.cutH
  rw [Int.toNat_natCast,zj2,zj2]
  constructor
  · intro h
    refine ⟨fun j hj=>?_,?_⟩
    · have:=h j hj
      rw [zb3 b _ hi hj] at this
      by_cases e:j=i
      · rw [if_pos e,zwo (by omega) (by omega)] at this
        rw [e] at this ⊢
        exact this.1
      · rw [if_neg e] at this
        exact this
    · have:=h i hi
      rw [zb3 b _ hi hi,if_pos rfl,zwo (by omega) (by omega)] at this
      exact this.2
  · rintro ⟨h,ha'⟩ j hj
    rw [zb3 b _ hi hj]
    by_cases e:j=i
    · rw [if_pos e,zwo (by omega) (by omega),e]
      exact ⟨h i hi,ha'⟩
    · rw [if_neg e]
      exact h j hj
theorem ybw {lo hi:Int} (h:hi≤2147483647):(y3h lo hi).hi≤2147483647:=by
  unfold y3h
  cases decide (lo > hi) with
  | true=>rw [z01]; show (0:Int)≤_; omega
  | false=>exact h
theorem yhu {b:Bx} (hb:b.ok) {s:Sp} (hs:s.hi≤2147483647) {i:Nat} (hi:i < 5):(b.p s i).ok:=by
  intro j hj
  rw [zb3 b _ hi hj]
  split
  · exact hs
  · exact hb j hj
theorem yba {b:Bx} (hb:b.ok) {i:Nat} (hi:i < 5) (a:Int):(b.cutL (i:Int) a).ok:=by
  unfold Bx.cutL
  rw [Int.toNat_natCast]
  refine yhu hb ?_ hi
  unfold Sp.cutL
  exact ybw (by have:=hb i hi; omega)
theorem yb7 {b:Bx} (hb:b.ok) {i:Nat} (hi:i < 5) (a:Int):(b.cutH (i:Int) a).ok:=by
  unfold Bx.cutH
  rw [Int.toNat_natCast]
  refine yhu hb ?_ hi
  unfold Sp.cutH
  cases decide (a≥(b.g i).hi) with
  | true=>rw [z01]; show (0:Int)≤_; omega
  | false=>exact ybw (hb i hi)
theorem zpr (b:Bx):bxI b.I=b:=rfl
theorem zxz (p:Pt) (t:Int):∀ {i:Nat},i < 4→co p t i=p.g i
  | 0,_=>rfl
  | 1,_=>rfl
  | 2,_=>rfl
  | 3,_=>rfl
  | i+4,h=>absurd h (by omega)
abbrev nd (l:List IV) (i:Nat):Nd:=z07 (l.getD i default).toInt
def y3z (l:List IV) (k j:Nat):Prop:=(nd l k).lf=false∧((nd l k).l=(j:Int)∨(nd l k).r=(j:Int))
structure TreeOK (l:List IV):Prop where
  len:1≤l.length∧l.length≤31
  node:∀ k,k < l.length→z7v (l.getD k default).toInt=true
  fork:∀ k,k < l.length→(nd l k).lf=false→(0≤(nd l k).f∧(nd l k).f < 4)∧z1g (nd l k).a=true∧((k:Int) < (nd l k).l∧(nd l k).l < ic l.length)∧((k:Int) < (nd l k).r∧(nd l k).r < ic l.length)∧(nd l k).l≠(nd l k).r
  parent:∀ j,1≤j→j < l.length→∃ k,k < l.length∧y3z l k j
  alone:∀ j k k',1≤j→j < l.length→k < l.length→k' < l.length→y3z l k j→y3z l k' j→k=k'
theorem yhj {l:List Nat}:∀ {k a:Nat},l[k]?=some a→a≤l.sum:=by
  induction l with
  | nil=>intro k a h; simp at h
  | cons x r ih=>
    intro k a h
    cases k with
    | zero=>simp at h; simp; omega
    | succ k=>have:=ih (k:=k) (a:=a) (by simpa using h); simp; omega
theorem yab {l:List Nat}:∀ {k k' a b:Nat},k < k'→l[k]?=some a→l[k']?=some b→a+b≤l.sum:=by
  induction l with
  | nil=>intro k k' a b _ h; simp at h
  | cons x r ih=>
    intro k k' a b hk h h'
    cases k with
    | zero=>
      cases k' with
      | zero=>omega
      | succ k'=>
        have:=yhj (l:=r) (k:=k') (a:=b) (by simpa using h')
        simp at h
        simp
        omega
    | succ k=>
      cases k' with
      | zero=>omega
      | succ k'=>
        have:=ih (k:=k) (k':=k') (a:=a) (b:=b) (by omega) (by simpa using h) (by simpa using h')
        simp
        omega
theorem yg9 {l:List Nat}:0 < l.sum→∃ (k a:Nat),l[k]?=some a∧0 < a:=by
  induction l with
  | nil=>intro h; simp at h
  | cons x r ih=>
    intro h
    by_cases hx:0 < x
    · exact ⟨0,x,rfl,hx⟩
    · obtain ⟨k,a,hk,ha⟩:=ih (by simp at h; omega)
      exact ⟨k+1,a,by simpa using hk,ha⟩
theorem zn7 {x:Nd} {j:Nat}:0 < za9 x j↔x.lf=false∧(x.l=(j:Int)∨x.r=(j:Int)):=by
  unfold za9
  cases x.lf with
  | true=>simp
  | false=>
    rw [z03]
    by_cases h1:x.l=(j:Int) <;> by_cases h2:x.r=(j:Int) <;> simp [h1,h2]
theorem zqq {l:List IV} {k:Nat} (h:k < l.length):l.getD k default=l[k]:=by simp [h]
theorem zrl {l:List IV} (h:z6v l 4=true):TreeOK l:=by
  have key:∀ {dim n:Int} {l:List IV} {i k:Nat} (hk:k < l.length),zbv dim n i l=true→z7v (l[k]).toInt=true∧zmm dim n (i+k) (z07 (l[k]).toInt)=true:=by
    intro dim n l
    induction l with
    | nil=>intro i k hk; exact absurd hk (Nat.not_lt_zero k)
    | cons w r ih=>
      intro i k hk h
      rw [zbv] at h
      simp only [Bool.and_eq_true] at h
      cases k with
      | zero=>exact h.1
      | succ k=>
        have:=ih (k:=k) (by simpa using hk) h.2
        rw [show i+1+k=i+(k+1) by omega] at this
        exact this
  unfold z6v at h
  simp only [Bool.and_eq_true] at h
  obtain ⟨⟨h1,h31⟩,hn,ho⟩:=h
  have hlen:=Nat.le_of_ble_eq_true h1
  have once:∀ j,1≤j→j < l.length→z3x l j=1:=fun j hj hjl=>by
    unfold y80 at ho
    rw [List.all_eq_true] at ho
    have:=ho (j - 1) (List.mem_range.2 (by omega))
    rw [show j - 1+1=j by omega] at this
    simpa using this
  have at_:∀ k (hk:k < l.length) j,(l.map fun w=>za9 (z07 w.toInt) j)[k]?=some (za9 (nd l k) j):=fun k hk j=>by
    rw [List.getElem?_map,List.getElem?_eq_getElem hk]
    unfold nd
    rw [zqq hk]
    rfl
  refine ⟨⟨hlen,Nat.le_of_ble_eq_true h31⟩,fun k hk=>by rw [zqq hk]; exact (key hk hn).1,fun k hk hl=>?_,fun j hj hjl=>?_,fun j k k' hj hjl hk hk' hn1 hn2=>?_⟩
  · have h2:=(key hk hn).2
    have h3:=(key hk hn).1
    rw [Nat.zero_add] at h2
    unfold nd at hl ⊢
    rw [zqq hk] at hl ⊢
    unfold zmm at h2
    rw [hl,z03] at h2
    simp only [Bool.and_eq_true,Bool.not_eq_true',decide_eq_false_iff_not,beq_eq_false_iff_ne] at h2
    obtain ⟨q1,q2,q3,q4⟩:=h2
    have hr:=(zrt h3).2
    unfold zdh zoc at hr
    rw [hl,z03] at hr
    simp only [Bool.and_eq_true,decide_eq_true_eq] at hr
    exact ⟨⟨hr.2.1,hr.2.2.1⟩,hr.2.2.2.1,⟨by omega,by simp only [ic] at q4 ⊢; omega⟩,⟨by omega,by simp only [ic] at q4 ⊢; omega⟩,q2⟩
  · have h2:=once j hj hjl
    unfold z3x at h2
    obtain ⟨k,a,hk,ha⟩:=yg9 (l:=l.map fun w=>za9 (z07 w.toInt) j) (by omega)
    have hkl:k < l.length:=by
      have:=(List.getElem?_eq_some_iff.1 hk).1
      simpa using this
    rw [at_ k hkl j] at hk
    simp only [Option.some.injEq] at hk
    subst hk
    exact ⟨k,hkl,zn7.1 ha⟩
  · have h2:=once j hj hjl
    unfold z3x at h2
    have p1:0 < za9 (nd l k) j:=zn7.2 hn1
    have p2:0 < za9 (nd l k') j:=zn7.2 hn2
    rcases Nat.lt_trichotomy k k' with hlt | heq | hlt
    · have:=yab hlt (at_ k hk j) (at_ k' hk' j)
      omega
    · exact heq
    · have:=yab hlt (at_ k' hk' j) (at_ k hk j)
      omega
def ya9 (l:List IV) (p:Pt) (i:Nat):Int:=(zpo l p 31 (i:Int)).2.v
theorem zxq {l:List IV} (h:TreeOK l) (p:Pt) {i:Nat} (hi:i < l.length) (n:Nat):zpo l p (n+1) (i:Int) =
    cond (nd l i).lf ((i:Int),nd l i) (cond (decide (p.g (nd l i).f.toNat≤(nd l i).a)) (zpo l p n (nd l i).l) (zpo l p n (nd l i).r)):=by
  rw [zpo,decide_eq_false (show ¬ (i:Int)≥ic l.length by simp only [ic]; omega),z03,Int.toNat_natCast,h.node i hi,Bool.not_true,z03]
theorem zkn {l:List IV} (h:TreeOK l) (p:Pt):∀ (n n' i:Nat),i < l.length→l.length - i≤n→l.length - i≤n'→zpo l p n (i:Int)=zpo l p n' (i:Int)
  | 0,_,i,hi,h1,_=>absurd h1 (by omega)
  | _+1,0,i,hi,_,h2=>absurd h2 (by omega)
  | n+1,n'+1,i,hi,h1,h2=>by
    rw [zxq h p hi,zxq h p hi]
    cases hl:(nd l i).lf with
    | true=>rfl
    | false=>
      obtain ⟨_,_,⟨a1,a2⟩,⟨b1,b2⟩,_⟩:=h.fork i hi hl
      simp only [ic] at a2 b2
      rw [z03,z03]
      cases decide (p.g (nd l i).f.toNat≤(nd l i).a) with
      | true=>
        have e:(nd l i).l=(((nd l i).l.toNat:Nat):Int):=by omega
        rw [z01,z01,e]
        exact zkn h p n n' _ (by omega) (by omega) (by omega)
      | false=>
        have e:(nd l i).r=(((nd l i).r.toNat:Nat):Int):=by omega
        rw [z03,z03,e]
        exact zkn h p n n' _ (by omega) (by omega) (by omega)
theorem y5g {l:List IV} (h:TreeOK l) (p:Pt) {i:Nat} (hi:i < l.length) (hl:(nd l i).lf=true):ya9 l p i=(nd l i).v:=by
  unfold ya9
  rw [zxq h p hi,hl,z01]
theorem y74 {l:List IV} (h:TreeOK l) (p:Pt) {i:Nat} (hi:i < l.length) (hl:(nd l i).lf=false):ya9 l p i=ya9 l p (cond (decide (p.g (nd l i).f.toNat≤(nd l i).a)) (nd l i).l.toNat (nd l i).r.toNat):=by
  obtain ⟨_,_,⟨a1,a2⟩,⟨b1,b2⟩,_⟩:=h.fork i hi hl
  have h31:=h.len.2
  simp only [ic] at a2 b2
  unfold ya9
  rw [zxq h p hi,hl,z03]
  cases decide (p.g (nd l i).f.toNat≤(nd l i).a) with
  | true=>
    rw [z01,z01]
    have e:(nd l i).l=(((nd l i).l.toNat:Nat):Int):=by omega
    rw [e,Int.toNat_natCast]
    rw [zkn h p 30 31 _ (by omega) (by omega) (by omega)]
  | false=>
    rw [z03,z03]
    have e:(nd l i).r=(((nd l i).r.toNat:Nat):Int):=by omega
    rw [e,Int.toNat_natCast]
    rw [zkn h p 30 31 _ (by omega) (by omega) (by omega)]
theorem yhi (l:List IV) (p:Pt):ziv l p=ya9 l p 0:=rfl
abbrev zq5 (own:List IV) (j:Nat):Bx:=bxI (own.getD j default)
def fr (l:List IV) (i j:Nat):Prop:=i≤j∧j < l.length∧(j=0∨∃ k,k < i∧y3z l k j)
structure PInv (l:List IV) (b:Bx) (i:Nat) (own out:List IV):Prop where
  len:own.length=l.length
  val:∀ j,fr l i j→∀ p t,(zq5 own j).has p t=true→b.has p t=true∧ya9 l p 0=ya9 l p j
  ok:∀ j,fr l i j→(zq5 own j).ok
  all:∀ p t,b.has p t=true→(∃ x∈out,(bxI x).has p t=true)∨∃ j,fr l i j∧(zq5 own j).has p t=true
  out:∀ x∈out,(bxI x).emp=false∧(bxI x).ok∧∀ p t,(bxI x).has p t=true→b.has p t=true∧ziv l p=pcV x
theorem y9y {l:List IV} (h:TreeOK l) {i:Nat} (hi:i < l.length):fr l i i:=by
  refine ⟨Nat.le_refl _,hi,?_⟩
  by_cases h0:i=0
  · exact .inl h0
  · obtain ⟨k,hk,hn⟩:=h.parent i (by omega) hi
    refine .inr ⟨k,?_,hn⟩
    obtain ⟨_,_,a,b,_⟩:=h.fork k hk hn.1
    rcases hn.2 with e | e <;> omega
theorem ya3 {own:List IV} {a j:Nat} {x:IV} (ha:a < own.length):(own.set a x).getD j default=if j=a then x else own.getD j default:=by
  rw [List.getD_eq_getElem?_getD,List.getElem?_set]
  by_cases e:a=j
  · subst e
    rw [if_pos rfl,if_pos ha,if_pos rfl]
    rfl
  · rw [if_neg e,if_neg (fun h=>e h.symm),← List.getD_eq_getElem?_getD]
theorem yaf {l:List IV} (h:TreeOK l) {b:Bx} {i:Nat} (hi:i < l.length) {own out:List IV} (hp:PInv l b i own out) :
    PInv l b (i+1) (zg6 (nd l i) i own) (cond ((nd l i).lf&&!(zq5 own i).emp) (out++[pcI (zq5 own i) (nd l i).v]) out):=by
  have hfi:=y9y h hi
  cases hl:(nd l i).lf with
  | true=>
    have e1:zg6 (nd l i) i own=own:=by unfold zg6; rw [hl,z01]
    have hfr:∀ j,fr l (i+1) j→fr l i j:=fun j hj=>by
      refine ⟨by have:=hj.1; omega,hj.2.1,hj.2.2.imp_right ?_⟩
      rintro ⟨k,hk,hn⟩
      refine ⟨k,?_,hn⟩
      rcases Nat.lt_succ_iff_lt_or_eq.1 hk with h1 | h1
      · exact h1
      · subst h1
        rw [hn.1] at hl
        cases hl
    have hrf:∀ j,fr l i j→j=i∨fr l (i+1) j:=fun j hj=>by
      by_cases e:j=i
      · exact .inl e
      · refine .inr ⟨by have:=hj.1; omega,hj.2.1,hj.2.2.imp_right ?_⟩
        rintro ⟨k,hk,hn⟩
        exact ⟨k,by omega,hn⟩
    rw [e1,Bool.true_and]
    have hv:=fun p=>y5g h p hi hl
    cases he:(zq5 own i).emp with
    | true=>
      rw [Bool.not_true,z03]
      refine ⟨hp.len,fun j hj=>hp.val j (hfr j hj),fun j hj=>hp.ok j (hfr j hj),fun p t hb=>?_,hp.out⟩
      rcases hp.all p t hb with h1 | ⟨j,hj,hh⟩
      · exact .inl h1
      · rcases hrf j hj with rfl | hj'
        · rw [zyp hh] at he
          cases he
        · exact .inr ⟨j,hj',hh⟩
    | false=>
      rw [Bool.not_false,z01]
      refine ⟨hp.len,fun j hj=>hp.val j (hfr j hj),fun j hj=>hp.ok j (hfr j hj),fun p t hb=>?_,fun x hx=>?_⟩
      · rcases hp.all p t hb with ⟨x,hx,hh⟩ | ⟨j,hj,hh⟩
        · exact .inl ⟨x,List.mem_append.2 (.inl hx),hh⟩
        · rcases hrf j hj with rfl | hj'
          · exact .inl ⟨_,List.mem_append.2 (.inr (List.mem_singleton.2 rfl)),hh⟩
          · exact .inr ⟨j,hj',hh⟩
      · rcases List.mem_append.1 hx with hx | hx
        · exact hp.out x hx
        · obtain rfl:=List.mem_singleton.1 hx
          refine ⟨he,hp.ok i hfi,fun p t hh=>?_⟩
          obtain ⟨q1,q2⟩:=hp.val i hfi p t hh
          refine ⟨q1,?_⟩
          rw [yhi,q2,hv p]
          rfl
  | false=>
    obtain ⟨⟨f0,f4⟩,ha,⟨a1,a2⟩,⟨b1,b2⟩,hne⟩:=h.fork i hi hl
    simp only [ic] at a2 b2
    have ef:(nd l i).f=(((nd l i).f.toNat:Nat):Int):=by omega
    have hf5:(nd l i).f.toNat < 5:=by omega
    have e1:zg6 (nd l i) i own=(own.set (nd l i).l.toNat ((zq5 own i).cutL (nd l i).f (nd l i).a).I).set (nd l i).r.toNat ((zq5 own i).cutH (nd l i).f (nd l i).a).I:=by unfold zg6; rw [hl,z03]
    have hlen:=hp.len
    have at_:∀ j,(zg6 (nd l i) i own).getD j default=if j=(nd l i).r.toNat then ((zq5 own i).cutH (nd l i).f (nd l i).a).I else if j=(nd l i).l.toNat then ((zq5 own i).cutL (nd l i).f (nd l i).a).I else own.getD j default:=fun j=>by
      rw [e1,ya3 (by rw [List.length_set]; omega)]
      congr 1
      rw [ya3 (by omega)]
    have fits : -2147483648≤(nd l i).a∧(nd l i).a≤2147483647:=by
      unfold z1g at ha
      simpa only [Bool.and_eq_true,decide_eq_true_eq] using ha
    have hok:=hp.ok i hfi
    have cl:∀ p t,((zq5 own i).cutL (nd l i).f (nd l i).a).has p t=true↔(zq5 own i).has p t=true∧p.g (nd l i).f.toNat≤(nd l i).a:=fun p t=>by
      have:=y46 (b:=zq5 own i) hf5 (a:=(nd l i).a) (p:=p) (t:=t)
      rw [← ef,zxz p t (by omega)] at this
      exact this
    have ch:∀ p t,((zq5 own i).cutH (nd l i).f (nd l i).a).has p t=true↔(zq5 own i).has p t=true∧(nd l i).a < p.g (nd l i).f.toNat:=fun p t=>by
      have:=y59 hok hf5 (a:=(nd l i).a) fits.1 (p:=p) (t:=t)
      rw [← ef,zxz p t (by omega)] at this
      exact this
    have nl:y3z l i (nd l i).l.toNat:=⟨hl,.inl (by omega)⟩
    have nr:y3z l i (nd l i).r.toNat:=⟨hl,.inr (by omega)⟩
    have hfr:∀ j,fr l (i+1) j→j≠(nd l i).l.toNat→j≠(nd l i).r.toNat→fr l i j:=fun j hj h1 h2=>by
      refine ⟨by have:=hj.1; omega,hj.2.1,hj.2.2.imp_right ?_⟩
      rintro ⟨k,hk,hn⟩
      refine ⟨k,?_,hn⟩
      rcases Nat.lt_succ_iff_lt_or_eq.1 hk with h3 | h3
      · exact h3
      · subst h3
        rcases hn.2 with e | e
        · exact absurd (by omega) h1
        · exact absurd (by omega) h2
    have hnot:∀ j,y3z l i j→¬ fr l i j:=fun j hn hj=>by
      obtain ⟨h1,h2,h3⟩:=hj
      have hj0:1≤j:=by rcases hn.2 with e | e <;> omega
      rcases h3 with h3 | ⟨k,hk,hk2⟩
      · omega
      · have:=h.alone j k i hj0 h2 (by omega) hi hk2 hn
        omega
    have fl:fr l (i+1) (nd l i).l.toNat:=⟨by omega,by omega,.inr ⟨i,by omega,nl⟩⟩
    have frr:fr l (i+1) (nd l i).r.toNat:=⟨by omega,by omega,.inr ⟨i,by omega,nr⟩⟩
    have hup:∀ j,fr l i j→j≠i→fr l (i+1) j:=fun j hj e=>by
      refine ⟨by have:=hj.1; omega,hj.2.1,hj.2.2.imp_right ?_⟩
      rintro ⟨k,hk,hn⟩
      exact ⟨k,by omega,hn⟩
    have hvf:=fun p=>y74 h p hi hl
    rw [Bool.false_and,z03]
    refine ⟨by rw [e1,List.length_set,List.length_set]; exact hp.len,fun j hj p t hh=>?_,fun j hj=>?_,fun p t hb=>?_,hp.out⟩
    · unfold zq5 at hh
      rw [at_] at hh
      by_cases hr:j=(nd l i).r.toNat
      · rw [if_pos hr,zpr,ch] at hh
        obtain ⟨q1,q2⟩:=hp.val i hfi p t hh.1
        refine ⟨q1,?_⟩
        rw [q2,hvf p,decide_eq_false (by omega),z03,hr]
      · rw [if_neg hr] at hh
        by_cases hlj:j=(nd l i).l.toNat
        · rw [if_pos hlj,zpr,cl] at hh
          obtain ⟨q1,q2⟩:=hp.val i hfi p t hh.1
          refine ⟨q1,?_⟩
          rw [q2,hvf p,decide_eq_true hh.2,z01,hlj]
        · rw [if_neg hlj] at hh
          exact hp.val j (hfr j hj hlj hr) p t hh
    · unfold zq5
      rw [at_]
      by_cases hr:j=(nd l i).r.toNat
      · rw [if_pos hr,zpr,ef]
        exact yb7 hok hf5 _
      · rw [if_neg hr]
        by_cases hlj:j=(nd l i).l.toNat
        · rw [if_pos hlj,zpr,ef]
          exact yba hok hf5 _
        · rw [if_neg hlj]
          exact hp.ok j (hfr j hj hlj hr)
    · rcases hp.all p t hb with h1 | ⟨j,hj,hh⟩
      · exact .inl h1
      · refine .inr ?_
        by_cases e:j=i
        · subst e
          by_cases hd:p.g (nd l j).f.toNat≤(nd l j).a
          · refine ⟨_,fl,?_⟩
            unfold zq5
            rw [at_,if_neg (by omega),if_pos rfl,zpr,cl]
            exact ⟨hh,hd⟩
          · refine ⟨_,frr,?_⟩
            unfold zq5
            rw [at_,if_pos rfl,zpr,ch]
            exact ⟨hh,by omega⟩
        · refine ⟨j,hup j hj e,?_⟩
          unfold zq5
          rw [at_,if_neg (fun (er:j=(nd l i).r.toNat)=>hnot j (er ▸ nr) hj),if_neg (fun (er:j=(nd l i).l.toNat)=>hnot j (er ▸ nl) hj)]
          exact hh
theorem y5m {l:List IV} (h:TreeOK l) {b:Bx}:∀ (m i:Nat) (own out:List IV),i+m=l.length→PInv l b i own out→∃ own',PInv l b l.length own' (zmv (l.drop i) i own out)
  | 0,i,own,out,hd,hp=>by
    have hi:i=l.length:=by omega
    subst hi
    rw [List.drop_length,zmv]
    exact ⟨own,hp⟩
  | m+1,i,own,out,hd,hp=>by
    have hi:i < l.length:=by omega
    rw [List.drop_eq_getElem_cons hi,zmv]
    have hs:=yaf h hi hp
    have e:nd l i=z07 (l[i]).toInt:=by unfold nd; rw [zqq hi]
    rw [e] at hs
    exact y5m h m (i+1) _ _ (by omega) hs
theorem y7t {l:List IV} (ht:z6v l 4=true) {b:Bx} (hb:b.emp=false) (hok:b.ok) :
    (∀ x∈z3w l b,(bxI x).emp=false∧(bxI x).ok∧∀ p t,(bxI x).has p t=true→b.has p t=true∧ziv l p=pcV x) ∧
      ∀ p t,b.has p t=true→∃ x∈z3w l b,(bxI x).has p t=true:=by
  have h:=zrl ht
  have h1:=h.len.1
  have hz:((List.replicate l.length bx0.I).set 0 b.I).getD 0 default=b.I:=by rw [ya3 (by simp; omega),if_pos rfl]
  have f0:∀ j,fr l 0 j→j=0:=fun j hj=>by
    rcases hj.2.2 with e | ⟨k,hk,_⟩
    · exact e
    · omega
  have h0:PInv l b 0 ((List.replicate l.length bx0.I).set 0 b.I) []:=by
    refine ⟨by simp,fun j hj p t hh=>?_,fun j hj=>?_,fun p t hh=>.inr ⟨0,y9y h (by omega),?_⟩,fun x hx=>by cases hx⟩
    · obtain rfl:=f0 j hj
      unfold zq5 at hh
      rw [hz,zpr] at hh
      exact ⟨hh,rfl⟩
    · obtain rfl:=f0 j hj
      unfold zq5
      rw [hz,zpr]
      exact hok
    · unfold zq5
      rw [hz,zpr]
      exact hh
  obtain ⟨own',hp⟩:=y5m h l.length 0 _ _ (by omega) h0
  have e:z3w l b=zmv (l.drop 0) 0 ((List.replicate l.length bx0.I).set 0 b.I) []:=by unfold z3w; rw [ht,hb]; rfl
  rw [e]
  refine ⟨hp.out,fun p t hh=>?_⟩
  rcases hp.all p t hh with h1 | ⟨j,hj,_⟩
  · exact h1
  · have:=hj.1
    have:=hj.2.1
    omega
theorem yb0:∀ {l:List IV} {a:Int},y90 l a≤a∧∀ x∈l,y90 l a≤pcV x
  | [],a=>⟨Int.le_refl _,fun x hx=>by cases hx⟩
  | y :: r,a=>by
    rw [y90]
    obtain ⟨h1,h2⟩:=yb0 (l:=r) (a:=min a (pcV y))
    refine ⟨by omega,fun x hx=>?_⟩
    rcases List.mem_cons.1 hx with rfl | hx
    · omega
    · exact h2 x hx
theorem ybi:∀ {l:List IV} {a:Int},a≤y92 l a∧∀ x∈l,pcV x≤y92 l a
  | [],a=>⟨Int.le_refl _,fun x hx=>by cases hx⟩
  | y :: r,a=>by
    rw [y92]
    obtain ⟨h1,h2⟩:=ybi (l:=r) (a:=max a (pcV y))
    refine ⟨by omega,fun x hx=>?_⟩
    rcases List.mem_cons.1 hx with rfl | hx
    · omega
    · exact h2 x hx
theorem ya2:∀ {l:List IV} {a:Int},y90 l a=a∨∃ x∈l,y90 l a=pcV x
  | [],a=>.inl rfl
  | y :: r,a=>by
    rw [y90]
    rcases ya2 (l:=r) (a:=min a (pcV y)) with h | ⟨x,hx,h⟩
    · rw [h]
      by_cases hd:a≤pcV y
      · exact .inl (by omega)
      · exact .inr ⟨y,List.mem_cons_self ..,by omega⟩
    · exact .inr ⟨x,List.mem_cons_of_mem _ hx,h⟩
theorem yb2:∀ {l:List IV} {a:Int},y92 l a=a∨∃ x∈l,y92 l a=pcV x
  | [],a=>.inl rfl
  | y :: r,a=>by
    rw [y92]
    rcases yb2 (l:=r) (a:=max a (pcV y)) with h | ⟨x,hx,h⟩
    · rw [h]
      by_cases hd:pcV y≤a
      · exact .inl (by omega)
      · exact .inr ⟨y,List.mem_cons_self ..,by omega⟩
    · exact .inr ⟨x,List.mem_cons_of_mem _ hx,h⟩
theorem yht {ps:List IV} (hp:ps≠[]):(∀ x∈ps,yie ps≤pcV x∧pcV x≤yhp ps)∧(∃ x∈ps,pcV x=yie ps)∧∃ x∈ps,pcV x=yhp ps:=by
  unfold yie yhp
  cases ps with
  | nil=>exact absurd rfl hp
  | cons y r=>
    have e:(y :: r).getD 0 default=y:=rfl
    rw [e]
    refine ⟨fun x hx=>⟨yb0.2 x hx,ybi.2 x hx⟩,?_,?_⟩
    · rcases ya2 (l:=y :: r) (a:=pcV y) with h | ⟨x,hx,h⟩
      · exact ⟨y,List.mem_cons_self ..,h.symm⟩
      · exact ⟨x,hx,h.symm⟩
    · rcases yb2 (l:=y :: r) (a:=pcV y) with h | ⟨x,hx,h⟩
      · exact ⟨y,List.mem_cons_self ..,h.symm⟩
      · exact ⟨x,hx,h.symm⟩
theorem y4g {l:List IV} (ht:z6v l 4=true) {b:Bx} (hb:b.emp=false) (hok:b.ok) :
    (∀ p t,b.has p t=true→tLo l b≤ziv l p∧ziv l p≤tHi l b)∧(∃ p t,b.has p t=true∧ziv l p=tLo l b)∧∃ p t,b.has p t=true∧ziv l p=tHi l b:=by
  obtain ⟨h1,h2⟩:=y7t ht hb hok
  have hne:z3w l b≠[]:=fun e=>by
    obtain ⟨x,hx,_⟩:=h2 b.low b.s4.hi (zv0 b hb)
    rw [e] at hx
    cases hx
  obtain ⟨q1,⟨x,hx,q2⟩,⟨y,hy,q3⟩⟩:=yht hne
  have hT:tOK l b=true:=by
    unfold tOK
    cases he:z3w l b with
    | nil=>exact absurd he hne
    | cons _ _=>rfl
  unfold tLo tHi
  rw [hT,z01,z01]
  refine ⟨fun p t hh=>?_,⟨(bxI x).low,(bxI x).s4.hi,?_⟩,⟨(bxI y).low,(bxI y).s4.hi,?_⟩⟩
  · obtain ⟨z,hz,hzh⟩:=h2 p t hh
    rw [((h1 z hz).2.2 p t hzh).2]
    exact q1 z hz
  · obtain ⟨r1,r2⟩:=(h1 x hx).2.2 _ _ (zv0 _ (h1 x hx).1)
    exact ⟨r1,r2.trans q2⟩
  · obtain ⟨r1,r2⟩:=(h1 y hy).2.2 _ _ (zv0 _ (h1 y hy).1)
    exact ⟨r1,r2.trans q3⟩
open Go
theorem zno {m:Md} (hm:z1s m=true) {t:IV} (ht:t∈m.ts):z6v (z97 t) 4=true:=by
  have h:=z1m hm
  exact y8b (zom (List.all_eq_true.1 h.2.2.2.2 t ht)).2 h.1.2
theorem y4m (g:List IV→Int) (k:Int) (p:Pt):∀ (ts:List IV) (s s':Int),(∀ t∈ts,g (z97 t)≤ziv (z97 t) p)→s≤s'→zrg g k ts s≤evF k p ts s'
  | [],_,_,_,h=>h
  | t :: r,s,s',hg,h=>by
    rw [zrg,evF]
    have h1:=hg t (List.mem_cons_self ..)
    refine y4m g k p r _ _ (fun u hu=>hg u (List.mem_cons_of_mem _ hu)) ?_
    cases (ye8 t==k) <;> simp only [cond_true,cond_false] <;> omega
theorem y5f (g:List IV→Int) (k:Int) (p:Pt):∀ (ts:List IV) (s s':Int),(∀ t∈ts,ziv (z97 t) p≤g (z97 t))→s'≤s→evF k p ts s'≤zrg g k ts s
  | [],_,_,_,h=>h
  | t :: r,s,s',hg,h=>by
    rw [zrg,evF]
    have h1:=hg t (List.mem_cons_self ..)
    refine y5f g k p r _ _ (fun u hu=>hg u (List.mem_cons_of_mem _ hu)) ?_
    cases (ye8 t==k) <;> simp only [cond_true,cond_false] <;> omega
theorem zrk {m:Md} {k:Int} {b:Bx} (h:sOK m k b=true):z1s m=true∧zai m k=true∧b.emp=false:=by
  unfold sOK at h
  simp only [Bool.and_eq_true,Bool.not_eq_true'] at h
  exact h
theorem y6j {m:Md} {k:Int} (hm:z1s m=true) (hk:zai m k=true) (p:Pt):z2a m k p=evF k p m.ts (zb2 m k):=by
  unfold z2a
  rw [hm,hk]
  rfl
theorem yj2 {m:Md} {k:Int} {b:Bx} (h:sOK m k b=true) (hok:b.ok) {p:Pt} {t:Int} (hh:b.has p t=true):sLo m k b≤z2a m k p∧z2a m k p≤sHi m k b:=by
  obtain ⟨hm,hk,hb⟩:=zrk h
  unfold sLo sHi
  rw [h,z01,z01,y6j hm hk]
  exact ⟨y4m _ k p m.ts _ _ (fun t ht=>((y4g (zno hm ht) hb hok).1 p _ hh).1) (Int.le_refl _),y5f _ k p m.ts _ _ (fun t ht=>((y4g (zno hm ht) hb hok).1 p _ hh).2) (Int.le_refl _)⟩
theorem yfv {m:Md} {k:Int} {b:Bx} (h:sOK m k b=true) (hok:b.ok) {p:Pt} {t:Int} (hh:b.has p t=true) (hc:∀ u∈m.ts,∀ p' t',b.has p' t'=true→ziv (z97 u) p'=ziv (z97 u) p):sLo m k b=z2a m k p∧sHi m k b=z2a m k p:=by
  obtain ⟨hm,hk,hb⟩:=zrk h
  have h1:=yj2 h hok hh
  have h2:z2a m k p≤sLo m k b∧sHi m k b≤z2a m k p:=by
    unfold sLo sHi
    rw [h,z01,z01,y6j hm hk]
    refine ⟨y5f _ k p m.ts _ _ (fun u hu=>?_) (Int.le_refl _),y4m _ k p m.ts _ _ (fun u hu=>?_) (Int.le_refl _)⟩
    · obtain ⟨_,⟨p',t',q1,q2⟩,_⟩:=y4g (zno hm hu) hb hok
      rw [← hc u hu p' t' q1]
      exact Int.le_of_eq q2
    · obtain ⟨_,_,⟨p',t',q1,q2⟩⟩:=y4g (zno hm hu) hb hok
      rw [← hc u hu p' t' q1]
      exact Int.le_of_eq q2.symm
  omega
theorem zrs {x:Int}:∀ {l:List Int} {p:Int},x∈l→x=p∨x∈y56 p l
  | y :: r,p,h=>by
    rw [y56]
    cases hb:(y==p) with
    | true=>
      have hb:=beq_iff_eq.1 hb
      rw [z01]
      rcases List.mem_cons.1 h with h | h
      · exact .inl (h.trans hb)
      · rcases zrs (p:=y) h with h1 | h1
        · exact .inl (h1.trans hb)
        · exact .inr h1
    | false=>
      rw [z03]
      rcases List.mem_cons.1 h with h | h
      · exact .inr (h ▸ List.mem_cons_self ..)
      · rcases zrs (p:=y) h with h1 | h1
        · exact .inr (h1 ▸ List.mem_cons_self ..)
        · exact .inr (List.mem_cons_of_mem _ h1)
theorem yar {x:Int} {l:List Int} (h:x∈l):x∈zxe l:=by
  cases l with
  | nil=>cases h
  | cons y r=>
    rw [zxe]
    rcases List.mem_cons.1 h with h | h
    · exact h ▸ List.mem_cons_self ..
    · rcases zrs (p:=y) h with h1 | h1
      · exact h1 ▸ List.mem_cons_self ..
      · exact List.mem_cons_of_mem _ h1
theorem yg6 {ts:List IV} {f a:Int}:a∈ztm ts f↔∃ t∈ts,∃ w∈z97 t,(z07 w.toInt).lf=false∧(z07 w.toInt).f=f∧(z07 w.toInt).a=a:=by
  have e:a∈ztm ts f↔a∈z5q ts f:=by
    unfold ztm
    exact ⟨fun h=>(z6p _).mem_iff.1 (y65 h),fun h=>yar ((z6p _).mem_iff.2 h)⟩
  rw [e]
  unfold z5q
  simp only [List.mem_flatMap]
  constructor
  · rintro ⟨t,ht,w,hw,h⟩
    unfold zsw at h
    cases hc:(!(z07 w.toInt).lf&&(z07 w.toInt).f==f) with
    | false=>rw [hc,z03] at h; cases h
    | true=>
      rw [hc,z01] at h
      simp only [Bool.and_eq_true,Bool.not_eq_true',beq_iff_eq] at hc
      exact ⟨t,ht,w,hw,hc.1,hc.2,(List.mem_singleton.1 h).symm⟩
  · rintro ⟨t,ht,w,hw,h1,h2,h3⟩
    refine ⟨t,ht,w,hw,?_⟩
    unfold zsw
    rw [h1,h2,beq_self_eq_true]
    exact List.mem_singleton.2 h3.symm
def zvw (m:Md) (s:Sp) (f:Int):Prop:=∀ a∈ztm m.ts f,¬ (s.lo≤a∧a < s.hi)
theorem yd1 {lo hi a:Int} {l:List Int}:a∈zgq lo hi l↔a∈l∧lo≤a∧a < hi:=by
  unfold zgq
  rw [List.mem_filter]
  simp only [Bool.not_eq_true',Bool.or_eq_false_iff,decide_eq_false_iff_not]
  constructor
  · rintro ⟨h,h1,h2⟩; exact ⟨h,by omega,by omega⟩
  · rintro ⟨h,h1,h2⟩; exact ⟨h,by omega,by omega⟩
theorem zfl {m:Md} {q:Qy} {b:Bx} {i:Nat} {a:Int}:a∈z35 m q b i↔0≤zb5 q (i:Int)∧a∈ztm m.ts (zb5 q (i:Int))∧(b.g i).lo≤a∧a < (b.g i).hi:=by
  unfold z35
  cases hd:decide (zb5 q (i:Int) < 0) with
  | true=>
    have:=of_decide_eq_true hd
    rw [z01]
    constructor
    · intro h; cases h
    · rintro ⟨h,_⟩; omega
  | false=>
    have:=of_decide_eq_false hd
    rw [z03,yd1]
    constructor
    · intro h; exact ⟨by omega,h⟩
    · exact fun h=>h.2
theorem yc7 {m:Md} {q:Qy} {b:Bx} {i:Nat} (h:z35 m q b i=[]) (hf:0≤zb5 q (i:Int)):zvw m (b.g i) (zb5 q (i:Int)):=by
  intro a ha hr
  have:a∈z35 m q b i:=zfl.2 ⟨hf,ha,hr⟩
  rw [h] at this
  cases this
theorem zz5 {q:Qy} {i:Nat} (hi:i < 4):zb5 q (i:Int)=(i:Int):=by
  unfold zb5
  rw [decide_eq_true (show (i:Int)≥0 by omega),decide_eq_true (show (i:Int) < 4 by omega)]
  rfl
theorem zzb {l:List IV} {p p':Pt} (h:∀ w∈l,z7v w.toInt=true→(z07 w.toInt).lf=false→(p.g (z07 w.toInt).f.toNat≤(z07 w.toInt).a↔p'.g (z07 w.toInt).f.toNat≤(z07 w.toInt).a)):∀ (n:Nat) (a:Int),zpo l p n a=zpo l p' n a
  | 0,_=>rfl
  | n+1,a=>by
    rw [zpo,zpo]
    cases decide (a≥ic l.length) with
    | true=>rfl
    | false=>
      rw [z03,z03]
      by_cases hlt:a.toNat < l.length
      · have hw:l.getD a.toNat default∈l:=by rw [zqq hlt]; exact List.getElem_mem hlt
        generalize l.getD a.toNat default=w at hw ⊢
        cases hb:z7v w.toInt with
        | false=>rfl
        | true=>
          rw [Bool.not_true,z03,z03]
          cases hl:(z07 w.toInt).lf with
          | true=>rfl
          | false=>
            have:=h w hw hb hl
            have ed:decide (p.g (z07 w.toInt).f.toNat≤(z07 w.toInt).a)=decide (p'.g (z07 w.toInt).f.toNat≤(z07 w.toInt).a):=by
              rw [Bool.eq_iff_iff,decide_eq_true_eq,decide_eq_true_eq]
              exact this
            rw [z03,z03,ed,zzb h n _,zzb h n _]
      · have e:l.getD a.toNat default=default:=by
          rw [List.getD_eq_getElem?_getD,List.getElem?_eq_none (by omega)]
          rfl
        rw [e]
        rfl
theorem ydf {m:Md} {b:Bx} (hf:∀ f:Nat,f < 4→zvw m (b.g f) (f:Int)) {u:IV} (hu:u∈m.ts) {p p':Pt} {t t':Int} (h:b.has p t=true) (h':b.has p' t'=true):ziv (z97 u) p'=ziv (z97 u) p:=by
  unfold ziv ycs
  rw [zzb (p:=p') (p':=p) fun w hw hb hl=>?_]
  obtain ⟨⟨f0,f4⟩,_⟩:=zre hb hl
  have ef:(z07 w.toInt).f=(((z07 w.toInt).f.toNat:Nat):Int):=by omega
  have hlt:(z07 w.toInt).f.toNat < 4:=by omega
  have h1:=zfv.1 (zj2.1 h _ (show (z07 w.toInt).f.toNat < 5 by omega))
  have h2:=zfv.1 (zj2.1 h' _ (show (z07 w.toInt).f.toNat < 5 by omega))
  rw [zxz _ _ hlt] at h1 h2
  have h3:=hf _ hlt (z07 w.toInt).a (yg6.2 ⟨u,hu,w,hw,hl,ef,rfl⟩)
  omega
theorem y2x {m:Md} {k:Int} {b:Bx} (h:sOK m k b=true) (hok:b.ok) (hf:∀ f:Nat,f < 4→zvw m (b.g f) (f:Int)) {p:Pt} {t:Int} (hh:b.has p t=true):sLo m k b=z2a m k p∧sHi m k b=z2a m k p:=
  yfv h hok hh fun _ hu _ _ h'=>ydf hf hu hh h'
theorem zsm {m:Md} {c lo:Int} {b:Bx}:∀ (d:Nat) (i a:Int) (z:Bool),(0 < zu9 m c lo b d i a z↔(z=true∨∃ j:Nat,j < d∧i+j≠c)∧(z=true→0 < a)∧∀ j:Nat,j < d→i+j≠c→sHi m (i+j) b < lo)∨(z=false∧∀ j:Nat,j < d→i+j=c)
  | 0,i,a,z=>by
    cases z with
    | false=>exact .inr ⟨rfl,fun j hj=>absurd hj (Nat.not_lt_zero j)⟩
    | true=>
      refine .inl ?_
      rw [zu9]
      exact ⟨fun h=>⟨.inl rfl,fun _=>h,fun j hj=>absurd hj (Nat.not_lt_zero j)⟩,fun h=>h.2.1 rfl⟩
  | d+1,i,a,z=>by
    rw [zu9]
    have sh:∀ j:Nat,i+1+(j:Int)=i+((j+1:Nat):Int):=fun j=>by omega
    cases hc:(i==c) with
    | true=>
      have hc:=beq_iff_eq.1 hc
      rw [z01]
      rcases zsm (m:=m) (c:=c) (lo:=lo) (b:=b) d (i+1) a z with h | ⟨h1,h2⟩
      · refine .inl (h.trans ?_)
        constructor
        · rintro ⟨q1,q2,q3⟩
          refine ⟨q1.imp_right ?_,q2,fun j hj hne=>?_⟩
          · rintro ⟨j,hj,hne⟩; exact ⟨j+1,by omega,by rw [← sh j]; exact hne⟩
          · cases j with
            | zero=>exact absurd (by simpa using hc) hne
            | succ j=>rw [← sh j] at hne ⊢; exact q3 j (by omega) hne
        · rintro ⟨q1,q2,q3⟩
          refine ⟨q1.imp_right ?_,q2,fun j hj hne=>?_⟩
          · rintro ⟨j,hj,hne⟩
            cases j with
            | zero=>exact absurd (by simpa using hc) hne
            | succ j=>exact ⟨j,by omega,by rw [sh j]; exact hne⟩
          · rw [sh j] at hne ⊢; exact q3 (j+1) (by omega) hne
      · refine .inr ⟨h1,fun j hj=>?_⟩
        cases j with
        | zero=>simpa using hc
        | succ j=>rw [← sh j]; exact h2 j (by omega)
    | false=>
      have hc:i≠c:=fun e=>by rw [e,beq_self_eq_true] at hc; cases hc
      rw [z03]
      refine .inl ?_
      have key:∀ (a':Int),(0 < a'↔(z=true→0 < a)∧sHi m i b < lo)→(0 < zu9 m c lo b d (i+1) a' true↔(z=true∨∃ j:Nat,j < d+1∧i+(j:Int)≠c)∧(z=true→0 < a)∧∀ j:Nat,j < d+1→i+(j:Int)≠c→sHi m (i+j) b < lo):=fun a' ha'=>by
        rcases zsm (m:=m) (c:=c) (lo:=lo) (b:=b) d (i+1) a' true with h | ⟨h1,_⟩
        · rw [h]
          constructor
          · rintro ⟨_,q2,q3⟩
            obtain ⟨r1,r2⟩:=ha'.1 (q2 rfl)
            refine ⟨.inr ⟨0,by omega,by simpa using hc⟩,r1,fun j hj hne=>?_⟩
            cases j with
            | zero=>simpa using r2
            | succ j=>rw [← sh j] at hne ⊢; exact q3 j (by omega) hne
          · rintro ⟨_,q2,q3⟩
            have r2:=q3 0 (by omega) (by simpa using hc)
            refine ⟨.inl rfl,fun _=>ha'.2 ⟨q2,by simpa using r2⟩,fun j hj hne=>?_⟩
            rw [sh j] at hne ⊢
            exact q3 (j+1) (by omega) hne
        · cases h1
      cases z with
      | false=>
        rw [Bool.not_false,Bool.true_or,z01]
        exact key _ ⟨fun h=>⟨fun h=>(by cases h),by omega⟩,fun h=>by have:=h.2; omega⟩
      | true=>
        rw [Bool.not_true,Bool.false_or]
        cases hd:decide (lo - sHi m i b < a) with
        | true=>
          have hd:=of_decide_eq_true hd
          rw [z01]
          exact key _ ⟨fun h=>⟨fun _=>by omega,by omega⟩,fun h=>by have:=h.2; omega⟩
        | false=>
          have hd:=of_decide_eq_false hd
          rw [z03]
          exact key _ ⟨fun h=>⟨fun _=>h,by omega⟩,fun h=>h.1 rfl⟩
theorem y63 {m:Md} {c:Int} {b:Bx} (h:y67 m c b=true):0 < yep m c b↔∀ j:Nat,(j:Int) < m.c→(j:Int)≠c→sHi m (j:Int) b < sLo m c b:=by
  have h0:=h
  unfold y67 at h0
  rw [Bool.and_eq_true,decide_eq_true_eq] at h0
  obtain ⟨hs,h2⟩:=h0
  have hc:=y6f (zrk hs).2.1
  unfold yep
  rw [h,z01]
  rcases zsm (m:=m) (c:=c) (lo:=sLo m c b) (b:=b) m.c.toNat 0 0 false with h1 | ⟨_,h1⟩
  · rw [h1]
    simp only [Int.zero_add]
    constructor
    · rintro ⟨_,_,q⟩ j hj hne
      exact q j (by omega) hne
    · intro q
      refine ⟨.inr ?_,fun h=>(by cases h),fun j hj hne=>q j (by omega) hne⟩
      by_cases e:c=0
      · exact ⟨1,by omega,by omega⟩
      · exact ⟨0,by omega,by omega⟩
  · have q0:=h1 0 (by omega)
    have q1:=h1 1 (by omega)
    omega
theorem yh8 (p:Pt) (x t:Int):∀ {f i:Nat},f < 4→i < 5→co (p.p x f) t i=if i=f then x else co p t i
  | 0,0,_,_=>rfl
  | 0,1,_,_=>rfl
  | 0,2,_,_=>rfl
  | 0,3,_,_=>rfl
  | 0,4,_,_=>rfl
  | 1,0,_,_=>rfl
  | 1,1,_,_=>rfl
  | 1,2,_,_=>rfl
  | 1,3,_,_=>rfl
  | 1,4,_,_=>rfl
  | 2,0,_,_=>rfl
  | 2,1,_,_=>rfl
  | 2,2,_,_=>rfl
  | 2,3,_,_=>rfl
  | 2,4,_,_=>rfl
  | 3,0,_,_=>rfl
  | 3,1,_,_=>rfl
  | 3,2,_,_=>rfl
  | 3,3,_,_=>rfl
  | 3,4,_,_=>rfl
  | f+4,_,h,_=>absurd h (by omega)
  | _,i+5,_,h=>absurd h (by omega)
theorem yjh (p:Pt) (t t':Int):∀ {i:Nat},i < 4→co p t i=co p t' i
  | 0,_=>rfl
  | 1,_=>rfl
  | 2,_=>rfl
  | 3,_=>rfl
  | i+4,h=>absurd h (by omega)
theorem y9r {q:Qy} {b:Bx} (hp:z42 q=true) {p:Pt} {t:Int} (h:b.has p t=true):(z86 q b).has p 0=true:=by
  rw [zj2] at h ⊢
  intro i hi
  unfold z86
  rw [hp,z01,zb3 _ _ (by omega) hi]
  by_cases e:i=4
  · subst e
    rw [if_pos rfl]
    rfl
  · rw [if_neg e,yjh p 0 t (by omega)]
    exact h i hi
theorem y8q {q:Qy} {b:Bx} (hp:z42 q=true) {p:Pt} {t:Int} (h:b.has p t=true):(z55 q b).has (z4h q p t) 0=true:=by
  have hf:q.ft.toNat < 4:=by rcases z7i hp with e | e | e | e <;> rw [e] <;> decide
  rw [zj2] at h ⊢
  intro i hi
  unfold z55 z4h
  rw [hp,z01,z01,zb3 _ _ (by omega) hi]
  by_cases e:i=4
  · subst e
    rw [if_pos rfl]
    have:co (p.p t q.ft.toNat) 0 4=0:=rfl
    rw [this]
    rfl
  · rw [if_neg e,zb3 _ _ (by omega) hi,yh8 p t 0 hf hi]
    by_cases e2:i=q.ft.toNat
    · rw [if_pos e2,if_pos e2]
      exact h 4 (by omega)
    · rw [if_neg e2,if_neg e2,yjh p 0 t (by omega)]
      exact h i hi
theorem ye6 {q:Qy} {b:Bx} (hb:b.ok):(z86 q b).ok:=by
  unfold z86
  cases z42 q with
  | true=>exact yhu (s:=⟨0,0⟩) (i:=4) hb (show (0:Int)≤2147483647 by omega) (by omega)
  | false=>exact hb
theorem yby {q:Qy} {b:Bx} (hb:b.ok):(z55 q b).ok:=by
  unfold z55
  cases hp:z42 q with
  | true=>
    have hf:q.ft.toNat < 5:=by rcases z7i hp with e | e | e | e <;> rw [e] <;> decide
    exact yhu (s:=⟨0,0⟩) (i:=4) (yhu hb (hb 4 (by omega)) hf) (show (0:Int)≤2147483647 by omega) (by omega)
  | false=>exact hb
theorem zwp {m:Md} {k:Int} (h0:0≤k) (h1:k < m.c):zai m k=true:=by
  unfold zai
  rw [decide_eq_true h0,decide_eq_true h1]
  rfl
theorem zsy {m:Md} {k:Int} {b:Bx} (hm:z1s m=true) (hk:zai m k=true) (hb:b.emp=false):sOK m k b=true:=by
  unfold sOK
  rw [hm,hk,hb]
  rfl
theorem zt1 {m:Md} {q:Qy} (hm:z1s m=true) (hk:q.k=3) (hf:0≤q.ft∧q.ft < m.d):z42 q=true:=by
  have:=(z1m hm).1
  unfold z42
  rw [hk,decide_eq_true (show q.ft≥0 by omega),decide_eq_true (show q.ft < 4 by omega)]
  rfl
theorem y7p {m:Md} {q:Qy} {p:Pt} {own:Int}:zl0 m q p own=true↔∃ j:Nat,(j:Int) < m.c∧(j:Int)≠q.c∧z2a m (j:Int) p≥own:=by
  unfold zl0
  rw [List.any_eq_true]
  constructor
  · rintro ⟨c,hc,h⟩
    simp only [Bool.and_eq_true,Bool.not_eq_true',beq_eq_false_iff_ne,decide_eq_true_eq] at h
    exact ⟨c,by have:=List.mem_range.1 hc; omega,h.1,h.2⟩
  · rintro ⟨j,h1,h2,h3⟩
    refine ⟨j,List.mem_range.2 (by omega),?_⟩
    simp only [Bool.and_eq_true,Bool.not_eq_true',beq_eq_false_iff_ne,decide_eq_true_eq]
    exact ⟨h2,h3⟩
theorem y2a {m:Md} {q:Qy} {b:Bx} (hr:z1q m q=true) (hb:b.emp=false) (hok:b.ok) (hn:∀ i,i < 5→z35 m q b i=[]):z1r m q b=true∨z2l m q b.low b.s4.hi=true:=by
  obtain ⟨hm,⟨c0,c1⟩,_,_,hk⟩:=z61 hr
  have hcl:=zwp c0 c1
  have hs:=zsy hm hcl hb
  have hh:=zv0 b hb
  have hfl:∀ f:Nat,f < 4→zvw m (b.g f) (f:Int):=fun f hf=>by
    have:=yc7 (hn f (by omega)) (by rw [zz5 hf]; omega)
    rwa [zz5 hf] at this
  unfold z1r z2l
  rw [hr,hb,Bool.true_and,Bool.true_and,z03]
  rcases zhx hk with ⟨e,_⟩ | ⟨e,h2,_⟩ | ⟨e,hf,_⟩
  · rw [e]
    obtain ⟨q1,q2⟩:=y2x hs hok hfl hh
    show (sOK m q.c b&&(decide (q.lo≤sLo m q.c b)&&decide (sHi m q.c b≤q.hi)))=true∨(!(Sp.has ⟨q.lo,q.hi⟩ (z2a m q.c b.low)))=true
    rw [hs,q1,q2,Bool.true_and]
    unfold Sp.has
    cases (decide (q.lo≤z2a m q.c b.low)&&decide (z2a m q.c b.low≤q.hi)) with
    | true=>exact .inl rfl
    | false=>exact .inr rfl
  · rw [e]
    show (y67 m q.c b&&decide (yep m q.c b > 0))=true∨zl0 m q b.low (z2a m q.c b.low)=true
    have hg:y67 m q.c b=true:=by unfold y67; rw [hs,decide_eq_true (show m.c≥2 from h2)]; rfl
    rw [hg,Bool.true_and]
    cases ho:zl0 m q b.low (z2a m q.c b.low) with
    | true=>exact .inr rfl
    | false=>
      refine .inl (decide_eq_true ((y63 hg).2 fun j hj hne=>?_))
      have q1:=(y2x hs hok hfl hh).1
      have q2:=(y2x (zsy hm (zwp (k:=(j:Int)) (by omega) hj) hb) hok hfl hh).2
      have q3:¬ z2a m (j:Int) b.low≥z2a m q.c b.low:=fun h=>by
        rw [y7p.2 ⟨j,hj,hne,h⟩] at ho
        cases ho
      omega
  · rw [e]
    have hp:=zt1 hm e hf
    have hf5:q.ft.toNat < 4:=by rcases z7i hp with e | e | e | e <;> rw [e] <;> decide
    have ef:q.ft=((q.ft.toNat:Nat):Int):=by omega
    show cond (!(zbr q b)) true (cond q.fl (y2n m q b&&decide (ycn m q b≤0)) (y2n m q b&&decide (ydk m q b≥0)))=true∨cond (decide (b.low.g q.ft.toNat≥b.s4.hi)) false (cond q.fl (decide (z2a m q.c (z4h q b.low b.s4.hi) > z2a m q.c b.low)) (decide (z2a m q.c (z4h q b.low b.s4.hi) < z2a m q.c b.low)))=true
    cases ho:zbr q b with
    | false=>exact .inl rfl
    | true=>
      have hlt:b.low.g q.ft.toNat < b.s4.hi:=by
        unfold zbr at ho
        simp only [Bool.and_eq_true,decide_eq_true_eq] at ho
        have h1:=ho.2.2
        have:b.low.g q.ft.toNat=(b.g q.ft.toNat).lo:=by
          match q.ft.toNat,hf5 with
          | 0,_=>rfl
          | 1,_=>rfl
          | 2,_=>rfl
          | 3,_=>rfl
          | n+4,h=>exact absurd h (by omega)
        omega
      have f1:=y9r (b:=b) hp hh
      have f2:=y8q (b:=b) hp hh
      have k1:=zsy hm hcl (zyp f1)
      have k2:=zsy hm hcl (zyp f2)
      have fl1:∀ f:Nat,f < 4→zvw m ((z86 q b).g f) (f:Int):=fun f hf=>by
        unfold z86
        rw [hp,z01,zb3 _ _ (by omega) (by omega),if_neg (by omega)]
        exact hfl f hf
      have fl2:∀ f:Nat,f < 4→zvw m ((z55 q b).g f) (f:Int):=fun f hf=>by
        unfold z55
        rw [hp,z01,zb3 _ _ (by omega) (by omega),if_neg (by omega),zb3 _ _ (by omega) (by omega)]
        by_cases e2:f=q.ft.toNat
        · rw [if_pos e2]
          have e4:zb5 q ((4:Nat):Int)=q.ft:=by unfold zb5; rw [e]; rfl
          have:=yc7 (hn 4 (by omega)) (by rw [e4]; omega)
          rw [e4,ef,← e2] at this
          exact this
        · rw [if_neg e2]
          exact hfl f hf
      obtain ⟨q1,q2⟩:=y2x k1 (ye6 hok) fl1 f1
      obtain ⟨q3,q4⟩:=y2x k2 (yby hok) fl2 f2
      have hch:y2n m q b=true:=by unfold y2n; rw [hp,k1,k2]; rfl
      rw [Bool.not_true,z03,hch,Bool.true_and,Bool.true_and,decide_eq_false (show ¬ b.low.g q.ft.toNat≥b.s4.hi by omega),z03]
      unfold ycn ydk
      rw [hch,z01,z01,q1,q2,q3,q4]
      cases q.fl with
      | true=>
        rw [z01,z01]
        by_cases hd:z2a m q.c (z4h q b.low b.s4.hi) > z2a m q.c b.low
        · exact .inr (decide_eq_true hd)
        · exact .inl (decide_eq_true (by omega))
      | false=>
        rw [z03,z03]
        by_cases hd:z2a m q.c (z4h q b.low b.s4.hi) < z2a m q.c b.low
        · exact .inr (decide_eq_true hd)
        · exact .inl (decide_eq_true (by omega))
theorem y64 {m:Md} {q:Qy} {b:Bx}:∀ (d i:Nat),(spR m q b d i).isSome=false→∀ j,i≤j→j < i+d→z35 m q b j=[]
  | 0,i,_,j,h1,h2=>by omega
  | d+1,i,h,j,h1,h2=>by
    rw [spR] at h
    cases hc:decide ((z35 m q b i).length > 0) with
    | true=>rw [hc,z01] at h; cases h
    | false=>
      rw [hc,z03] at h
      have hc:=of_decide_eq_false hc
      by_cases e:j=i
      · subst e
        exact List.length_eq_zero_iff.1 (by omega)
      · exact y64 d (i+1) h j (by omega) (by omega)
theorem y8h {m:Md} {q:Qy} {b:Bx} (h:(z1b m q b).isSome=false):∀ i,i < 5→z35 m q b i=[]:=fun i hi=>y64 5 0 h i (Nat.zero_le _) (by omega)
theorem y6x {m:Md} {q:Qy} {b:Bx}:∀ (d i:Nat),(spR m q b d i).isSome=true→∃ j:Nat,i≤j∧j < i+d∧spI (spR m q b d i)=(j:Int)∧0 < (z35 m q b j).length∧zr2 (spR m q b d i)=(z35 m q b j).getD (((z35 m q b j).length - 1) / 2) 0∧∀ k,i≤k→k < j→z35 m q b k=[]
  | 0,i,h=>by rw [spR] at h; cases h
  | d+1,i,h=>by
    rw [spR] at h ⊢
    cases hc:decide ((z35 m q b i).length > 0) with
    | true=>exact ⟨i,Nat.le_refl _,by omega,rfl,of_decide_eq_true hc,rfl,fun k h1 h2=>absurd h1 (by omega)⟩
    | false=>
      rw [hc,z03] at h
      rw [z03]
      have hc:=of_decide_eq_false hc
      obtain ⟨j,h1,h2,h3,h4,h5,h6⟩:=y6x d (i+1) h
      refine ⟨j,by omega,by omega,h3,h4,h5,fun k hk1 hk2=>?_⟩
      by_cases e:k=i
      · subst e
        exact List.length_eq_zero_iff.1 (by omega)
      · exact h6 k (by omega) hk2
theorem znb {m:Md} {q:Qy} {b:Bx} (h:(z1b m q b).isSome=true):∃ j:Nat,j < 5∧spI (z1b m q b)=(j:Int)∧0 < (z35 m q b j).length∧zr2 (z1b m q b)=(z35 m q b j).getD (((z35 m q b j).length - 1) / 2) 0∧zr2 (z1b m q b)∈z35 m q b j:=by
  obtain ⟨j,_,h2,h3,h4,h5,_⟩:=y6x 5 0 h
  refine ⟨j,by omega,h3,h4,h5,?_⟩
  have hlt:((z35 m q b j).length - 1) / 2 < (z35 m q b j).length:=by omega
  have:zr2 (z1b m q b)=(z35 m q b j)[((z35 m q b j).length - 1) / 2]:=by
    refine Eq.trans h5 ?_
    simp [hlt]
  rw [this]
  exact List.getElem_mem hlt
open Go
abbrev kFt:List Kd:=[.int .i64,.list false [.int .i64],.list false [.int .i64],.list false [.int .i64],.list false [.int .i64]]
structure Ft where
  d:Int
  c:Int
  bias:List IV
  ts:List IV
def Ft.cs (f:Ft):List FM.V:=[.int .i64 f.d,.int .i64 f.c,.list false [.int .i64] f.bias,.list true kFt f.ts]
def Ft.V (f:Ft):FM.V:=.agg f.cs
def Ft.M (f:Ft):Md:=yb4 f.d f.c f.bias f.ts
def ftOf?:List FM.V→Option Ft
  | [.int .i64 d,.int .i64 c,.list false [.int .i64] b,.list true [.int .i64,.list false [.int .i64],.list false [.int .i64],.list false [.int .i64],.list false [.int .i64]] t]=>some ⟨d,c,b,t⟩
  | _=>none
def akOf?:List FM.V→Option Ak
  | [.int .i64 k,.int .i64 c,.int .i64 lo,.int .i64 size,.int .i64 ft,.int .i64 bu,.bool fl,.list false [.int .i64] sp]=>some ⟨k,c,lo,size,ft,bu,fl,sp⟩
  | _=>none
abbrev ygb (v:FM.V) (k:Ft→R):R:=ztz ftOf? v k
abbrev yf0 (v:FM.V) (k:Ak→R):R:=ztz akOf? v k
theorem y22 {v:FM.V} {k:Ft→R} {z:FM.V × List (List FM.V)} (h:(ygb v k).get=some z):∃ x:Ft,v=x.V∧(k x).get=some z:=by
  obtain ⟨l,x,rfl,hx,h⟩:=za4 h
  unfold ftOf? at hx
  split at hx
  · simp only [Option.some.injEq] at hx
    subst hx
    exact ⟨_,rfl,h⟩
  · cases hx
theorem y0e {v:FM.V} {k:Ak→R} {z:FM.V × List (List FM.V)} (h:(yf0 v k).get=some z):∃ x:Ak,v=x.V∧(k x).get=some z:=by
  obtain ⟨l,x,rfl,hx,h⟩:=za4 h
  unfold akOf? at hx
  split at hx
  · simp only [Option.some.injEq] at hx
    subst hx
    exact ⟨_,rfl,h⟩
  · cases hx
def z3z (a:Ak) (m:Md):Qy:=z89 a m.d m.c
def yih (m:Md):Bool:=(decide (1≤m.d)&&decide (m.d≤4))&&(decide (1≤m.c)&&decide (m.c≤3))
def z2h:z0x
  | [f]=>ygb f fun f=>.ok f.M.V []
  | _=>.no
def z3f:z0x
  | [a,m]=>yf0 a fun a=>zfk m fun m=>.br (yih m) (.ok (z3z a m).V []) .no
  | _=>.no
def Qy.bud (q:Qy) (b:Int):Qy:=⟨q.k,q.c,q.a0,q.b0,q.a1,q.b1,q.a2,q.b2,q.a3,q.b3,q.a4,q.b4,q.lo,q.hi,q.ft,q.fl,b⟩
theorem y9m {vs:List FM.V} {z:FM.V × List (List FM.V)} (h:(z2h vs).get=some z):(z3l vs).get=some z:=by
  unfold z2h at h
  split at h
  · replace h:=y22 h
    obtain ⟨f,rfl,h⟩:=h
    exact h
  · simp [R.get] at h
theorem yc2 {vs:List FM.V} {z:FM.V × List (List FM.V)} (h:(z3f vs).get=some z):(z4t vs).get=some z:=by
  unfold z3f at h
  split at h
  · replace h:=y0e h
    obtain ⟨a,rfl,h⟩:=h
    replace h:=z32 h
    obtain ⟨m,rfl,h⟩:=h
    exact h
  · simp [R.get] at h
open Go
def Bx.good (b:Bx):Prop:=∀ i,i < 5 → -2147483648≤(b.g i).lo∧(b.g i).lo≤(b.g i).hi∧(b.g i).hi≤2147483647
theorem Bx.good.emp {b:Bx} (h:b.good):b.emp=false:=y9b.2 fun i hi=>(h i hi).2.1
theorem Bx.good.ok {b:Bx} (h:b.good):b.ok:=fun i hi=>(h i hi).2.2
def Sp.good (s:Sp):Prop := -2147483648≤s.lo∧s.lo≤s.hi∧s.hi≤2147483647
theorem zos {b:Bx} (hb:b.good) {s:Sp} (hs:s.good) {i:Nat} (hi:i < 5):(b.p s i).good:=by
  intro j hj
  rw [zb3 b s hi hj]
  by_cases h:j=i
  · rw [if_pos h]; exact hs
  · rw [if_neg h]; exact hb j hj
theorem y1v {lo hi:Int} (h0 : -2147483648≤lo) (h1:lo≤hi) (h2:hi≤2147483647):(y3h lo hi).good:=by
  unfold y3h
  rw [decide_eq_false (by omega),z03]
  exact ⟨h0,h1,h2⟩
theorem y2r {b:Bx} (hb:b.good) {i:Nat} (hi:i < 5) {a:Int} (h1:(b.g i).lo≤a) (h2:a < (b.g i).hi):(b.cutL (i:Int) a).good:=by
  unfold Bx.cutL
  rw [Int.toNat_natCast]
  have h:=hb i hi
  refine zos hb (y1v h.1 ?_ ?_) hi <;> omega
theorem y2h {b:Bx} (hb:b.good) {i:Nat} (hi:i < 5) {a:Int} (h1:(b.g i).lo≤a) (h2:a < (b.g i).hi):(b.cutH (i:Int) a).good:=by
  unfold Bx.cutH
  rw [Int.toNat_natCast]
  have h:=hb i hi
  have e:zds (a+1)=a+1:=z12 (by omega) (by omega)
  refine zos hb ?_ hi
  unfold Sp.cutH
  rw [decide_eq_false (by omega),z03,e]
  exact y1v (by omega) (by omega) h.2.2
theorem zgn {d i:Int} {s:Sp} (h:zzj d i s=true):s.good:=by
  unfold zzj at h
  simp only [Bool.and_eq_true,Bool.not_eq_true',z1g,Sp.emp,decide_eq_true_eq,decide_eq_false_iff_not] at h
  obtain ⟨_,h1,h2,h3⟩:=h
  exact ⟨h2.1,by omega,h3.2⟩
theorem z9a {m:Md} {q:Qy} (h:z1q m q=true):z1s m=true∧(0≤q.c∧q.c < m.c)∧(0≤q.bu∧q.bu≤65536)∧zrn q.bx m.d=true∧zu8 m q=true:=by
  unfold z1q at h
  simp only [Bool.and_eq_true,decide_eq_true_eq] at h
  exact ⟨h.1,⟨h.2.1,h.2.2.1⟩,⟨h.2.2.2.1,h.2.2.2.2.1⟩,h.2.2.2.2.2.1,h.2.2.2.2.2.2⟩
theorem ycf {b:Bx} {d:Int} (h:zrn b d=true):b.good:=by
  unfold zrn at h
  simp only [Bool.and_eq_true] at h
  intro i hi
  match i,hi with
  | 0,_=>exact zgn h.1
  | 1,_=>exact zgn h.2.1
  | 2,_=>exact zgn h.2.2.1
  | 3,_=>exact zgn h.2.2.2.1
  | 4,_=>exact zgn h.2.2.2.2
  | n+5,hi=>omega
theorem znj {m:Md} {q:Qy} (h:z1q m q=true):(z33 q).good:=by
  have hb:=ycf (z9a h).2.2.2.1
  unfold z33
  refine zos hb ?_ (by omega)
  cases hp:z42 q with
  | false=>rw [z03]; exact ⟨by decide,by decide,by decide⟩
  | true=>
    rw [z01]
    unfold z42 at hp
    simp only [Bool.and_eq_true,decide_eq_true_eq] at hp
    exact hb q.ft.toNat (by omega)
def y8w (s:Sr):Prop:=∀ x∈s.left,(bxI x).good
theorem zpp {s:Sr} (h:y8w s) (hl:0 < s.left.length):(z2k s.left).good:=by
  unfold z2k
  refine h _ ?_
  rw [List.getD_eq_getElem?_getD,List.getElem?_eq_getElem (by omega)]
  exact List.getElem_mem _
theorem ybu {m:Md} {q:Qy} (h:z1q m q=true):y8w ⟨[(z33 q).I],[],Vd.none,0⟩:=by
  intro x hx
  obtain rfl:=List.mem_singleton.1 hx
  rw [zpr]
  exact znj h
theorem zvk {m:Md} {q:Qy} {s:Sr} (hr:z1q m q=true) (hg:y8w s) (hl:0 < s.left.length) (h1:z1r m q (z2k s.left)=false) (h2:z2l m q (z2k s.left).low (z2k s.left).s4.hi=false) :
    (z1b m q (z2k s.left)).isSome=true:=by
  have ht:=zpp hg hl
  cases hs:(z1b m q (z2k s.left)).isSome with
  | true=>rfl
  | false=>
    rcases y2a hr ht.emp ht.ok (y8h hs) with h | h
    · rw [h1] at h; cases h
    · rw [h2] at h; cases h
theorem znt {l:List IV} {x:IV} (h:x∈zdr l):x∈l:=List.mem_of_mem_take h
theorem y7f {m:Md} {q:Qy} {s:Sr} (hg:y8w s) (hl:0 < s.left.length):y8w (z5a m q s):=by
  have hp:∀ x∈zdr s.left,(bxI x).good:=fun x hx=>hg x (znt hx)
  unfold z5a
  cases z1r m q (z2k s.left) with
  | true=>exact hp
  | false=>
    cases z2l m q (z2k s.left).low (z2k s.left).s4.hi with
    | true=>exact hp
    | false=>
      cases hs:(z1b m q (z2k s.left)).isSome with
      | false=>exact hp
      | true=>
        obtain ⟨j,hj,ei,_,_,hm⟩:=znb hs
        have hc:=zfl.1 hm
        have ht:=zpp hg hl
        intro x hx
        rw [z03,z03,z01] at hx
        rcases List.mem_append.1 hx with hx | hx
        · exact hp x hx
        · rw [ei] at hx
          rcases List.mem_cons.1 hx with rfl | hx
          · rw [zpr]; exact y2h ht hj hc.2.2.1 hc.2.2.2
          · obtain rfl:=List.mem_singleton.1 hx
            rw [zpr]; exact y2r ht hj hc.2.2.1 hc.2.2.2
theorem win (n lo hi:Int) (h:lo≤hi) (h0 : -2000000000000000000≤lo) (h1:hi≤2000000000000000000):lo≤z00 n lo hi∧z00 n lo hi≤hi:=
  (z2n (n:=n) (lo:=lo) (hi:=hi) (by omega) (by omega) (by omega)).2
theorem yfz (f:Ft):z1s f.M=true:=y4i _ _ _ _
theorem yic (f:Ft):yih f.M=true:=by
  have hd:1≤f.M.d∧f.M.d≤3:=zq9 f.d
  have hc:1≤f.M.c∧f.M.c≤3:=zxl f.c
  unfold yih
  rw [decide_eq_true hd.1,decide_eq_true (show f.M.d≤4 by omega),decide_eq_true hc.1,decide_eq_true hc.2]
  rfl
theorem y62 (d:Int) (l:List IV) (i:Nat):zzj d (i:Int) ⟨zfy d l (i:Int),zgb d l (i:Int)⟩=true:=by
  have h1:=win (z1x l (2*(i:Int))) (-2) 9 (by omega) (by omega) (by omega)
  have h2:=win (z1x l (2*(i:Int)+1)) 0 11 (by omega) (by omega) (by omega)
  unfold zzj Sp.emp zfy zgb z1g
  by_cases h:(i:Int) < d
  · rw [decide_eq_true h,z01,z01,decide_eq_false (show ¬ (i:Int)≥d by omega)]
    simp only [Bool.false_and,Bool.not_false,Bool.true_and,Bool.and_eq_true,Bool.not_eq_true',decide_eq_true_eq,decide_eq_false_iff_not]
    omega
  · rw [decide_eq_false h,z03,z03]
    simp
theorem ydd (a:Ak) (c:Int):zaw a c=1∨(zaw a c=2∧2≤c)∨zaw a c=3:=by
  have h:=win a.k 1 3 (by omega) (by omega) (by omega)
  unfold zaw
  cases h2:(z00 a.k 1 3==2) with
  | true=>
    have h2':z00 a.k 1 3=2:=by simpa using h2
    by_cases hc:c < 2
    · rw [decide_eq_true hc]; exact .inl rfl
    · rw [decide_eq_false hc]; exact .inr (.inl ⟨h2',by omega⟩)
  | false=>
    have h2':z00 a.k 1 3≠2:=by simpa using h2
    rw [Bool.false_and,z03]
    omega
theorem y9s (f:Ft) (a:Ak) {w:Int} (h0:0≤w) (h1:w≤65536):z1q f.M ((z3z a f.M).bud w)=true:=by
  have hd:1≤f.M.d∧f.M.d≤3:=zq9 f.d
  have hc:1≤f.M.c∧f.M.c≤3:=zxl f.c
  have hm:=yfz f
  generalize f.M=m at hd hc hm ⊢
  have hcl:=win a.c 0 (m.c - 1) (by omega) (by omega) (by omega)
  have hlo:=win a.size 0 18000 (by omega) (by omega) (by omega)
  have hft:=win a.ft 0 (m.d - 1) (by omega) (by omega) (by omega)
  have hreg:zrn ((z3z a m).bud w).bx m.d=true:=by
    unfold zrn
    simp only [Bool.and_eq_true]
    refine ⟨y62 m.d a.sp 0,y62 m.d a.sp 1,y62 m.d a.sp 2,y62 m.d a.sp 3,?_⟩
    show zzj m.d 4 ⟨0,0⟩=true
    unfold zzj
    simp [Sp.emp,z1g]
  have hkind:zu8 m ((z3z a m).bud w)=true:=by
    unfold zu8
    show cond (zaw a m.c==1) (decide (cond (zaw a m.c==1) (loA a) 0≤cond (zaw a m.c==1) (loA a+z00 a.size 0 18000) 0)&&((cond (zaw a m.c==3) (z00 a.ft 0 (m.d - 1)) 0==0)&&!(cond (zaw a m.c==3) a.fl false)))
      (cond (zaw a m.c==2) (decide (m.c≥2)&&((cond (zaw a m.c==1) (loA a) 0==0)&&((cond (zaw a m.c==1) (loA a+z00 a.size 0 18000) 0==0)&&((cond (zaw a m.c==3) (z00 a.ft 0 (m.d - 1)) 0==0)&&!(cond (zaw a m.c==3) a.fl false)))))
        (cond (zaw a m.c==3) (decide (cond (zaw a m.c==3) (z00 a.ft 0 (m.d - 1)) 0≥0)&&(decide (cond (zaw a m.c==3) (z00 a.ft 0 (m.d - 1)) 0 < m.d)&&((cond (zaw a m.c==1) (loA a) 0==0)&&(cond (zaw a m.c==1) (loA a+z00 a.size 0 18000) 0==0)))) false))=true
    rcases ydd a m.c with h | ⟨h,h2⟩ | h
    · rw [h]
      show (decide (loA a≤loA a+z00 a.size 0 18000)&&true)=true
      rw [decide_eq_true (by omega)]; rfl
    · rw [h]
      show (decide (m.c≥2)&&true)=true
      rw [decide_eq_true h2]; rfl
    · rw [h]
      show (decide (z00 a.ft 0 (m.d - 1)≥0)&&(decide (z00 a.ft 0 (m.d - 1) < m.d)&&true))=true
      rw [decide_eq_true hft.1,decide_eq_true (by omega)]; rfl
  unfold z1q
  rw [hm,hreg,hkind,decide_eq_true (show ((z3z a m).bud w).c≥0 from hcl.1),decide_eq_true (show ((z3z a m).bud w).c < m.c by show z00 a.c 0 (m.c - 1) < m.c; omega),decide_eq_true (show ((z3z a m).bud w).bu≥0 from h0),decide_eq_true (show ((z3z a m).bud w).bu≤65536 from h1)]
  rfl
open Go
abbrev yig:List Kd:=[.int .i64,.int .i64,.int .i64,.int .i64,.int .i64,.int .i64,.int .i64,.int .i64,.int .i64,.int .i64,.int .i64]
def ybk (a:Int) (b:Bx):IV:=.agg [.int a,.int b.s0.lo,.int b.s0.hi,.int b.s1.lo,.int b.s1.hi,.int b.s2.lo,.int b.s2.hi,.int b.s3.lo,.int b.s3.hi,.int b.s4.lo,.int b.s4.hi]
abbrev zm5 (x:IV):Int:=cI x 0
def ztu (x:IV):Bx:=⟨⟨cI x 1,cI x 2⟩,⟨cI x 3,cI x 4⟩,⟨cI x 5,cI x 6⟩,⟨cI x 7,cI x 8⟩,⟨cI x 9,cI x 10⟩⟩
theorem y4p (a:Int) (b:Bx):zm5 (ybk a b)=a:=rfl
theorem zxm (a:Int) (b:Bx):ztu (ybk a b)=b:=rfl
structure En where
  todo:List IV
  lo:Int
  hi:Int
  any:Bool
def z2p (l:List IV):IV:=l.getD (l.length - 1) default
def z8i (l:List IV) (e:En):Nd:=z07 (l.getD (zm5 (z2p e.todo)).toNat default).toInt
def y2j (l:List IV) (e:En):En:=
  cond (!(z7v (l.getD (zm5 (z2p e.todo)).toNat default).toInt)||(ztu (z2p e.todo)).emp) ⟨zdr e.todo,e.lo,e.hi,e.any⟩
    (cond (!(z8i l e).lf)
      ⟨zdr e.todo++[ybk (z8i l e).l ((ztu (z2p e.todo)).cutL (z8i l e).f (z8i l e).a),ybk (z8i l e).r ((ztu (z2p e.todo)).cutH (z8i l e).f (z8i l e).a)],e.lo,e.hi,e.any⟩
      ⟨zdr e.todo,min (cond e.any e.lo (z8i l e).v) (z8i l e).v,max (cond e.any e.hi (z8i l e).v) (z8i l e).v,true⟩)
def en0 (b:Bx):En:=⟨[ybk 0 b],0,0,false⟩
structure EnI (l:List IV) (b:Bx) (e:En):Prop where
  at_:∀ (j:Nat) (x:IV),e.todo[j]?=some x→(j:Int)≤zm5 x∧zm5 x < ic l.length
  ok:∀ x∈e.todo,(ztu x).ok
  val:∀ x∈e.todo,∀ p t,(ztu x).has p t=true→b.has p t=true∧ziv l p=ya9 l p (zm5 x).toNat
  all:∀ p t,b.has p t=true→(∃ x∈e.todo,(ztu x).has p t=true)∨(e.any=true∧e.lo≤ziv l p∧ziv l p≤e.hi)
  lo:e.any=true→∃ p t,b.has p t=true∧ziv l p=e.lo
  hi:e.any=true→∃ p t,b.has p t=true∧ziv l p=e.hi
theorem zsq {l:List IV} {j:Nat} {x:IV} (h:(zdr l)[j]?=some x):l[j]?=some x:=by
  unfold zdr at h
  rw [List.getElem?_take] at h
  split at h
  · exact h
  · cases h
theorem zmq {l:List IV} {x:IV} (hl:0 < l.length) (h:x∈l):x∈zdr l∨x=z2p l:=by
  obtain ⟨j,hj⟩:=List.getElem?_of_mem h
  have hjl:=(List.getElem?_eq_some_iff.1 hj).1
  by_cases hc:j < l.length - 1
  · refine .inl (List.mem_of_getElem? (i:=j) ?_)
    unfold zdr
    rw [List.getElem?_take,if_pos hc]
    exact hj
  · have:j=l.length - 1:=by omega
    subst this
    refine .inr ?_
    unfold z2p
    rw [List.getD_eq_getElem?_getD,hj]
    rfl
theorem zgx {l:List IV} (hl:0 < l.length):z2p l∈l∧l[l.length - 1]?=some (z2p l):=by
  unfold z2p
  rw [List.getD_eq_getElem?_getD,List.getElem?_eq_getElem (by omega)]
  exact ⟨List.getElem_mem _,rfl⟩
theorem z6d (l:List IV):(zdr l).length=l.length - 1:=by
  unfold zdr
  rw [List.length_take]; omega
theorem yfi {l:List IV} (ht:TreeOK l) {b:Bx} {e:En} (h:EnI l b e) (hl:0 < e.todo.length):EnI l b (y2j l e):=by
  obtain ⟨hm,hg⟩:=zgx hl
  have ha:=h.at_ _ _ hg
  have h31:=ht.len.2
  have hpm:∀ x∈zdr e.todo,x∈e.todo:=fun x hx=>znt hx
  have e0:((zm5 (z2p e.todo)).toNat:Int)=zm5 (z2p e.todo):=by omega
  have hlt:(zm5 (z2p e.todo)).toNat < l.length:=by have:=ha.2; simp only [ic] at this; omega
  have hn:=ht.node _ hlt
  have hv:=h.val _ hm
  have hok:=h.ok _ hm
  unfold y2j
  rw [hn,Bool.not_true,Bool.false_or]
  cases he:(ztu (z2p e.todo)).emp with
  | true=>
    rw [z01]
    refine ⟨fun j x hj=>h.at_ j x (zsq hj),fun x hx=>h.ok x (hpm x hx),fun x hx=>h.val x (hpm x hx),fun p t hh=>?_,h.lo,h.hi⟩
    rcases h.all p t hh with ⟨x,hx,hxh⟩ | hr
    · rcases zmq hl hx with hx | rfl
      · exact .inl ⟨x,hx,hxh⟩
      · have:=zyp hxh
        rw [he] at this; cases this
    · exact .inr hr
  | false=>
    rw [z03]
    cases hlf:(z8i l e).lf with
    | true=>
      rw [Bool.not_true,z03]
      have hvl:∀ p t,(ztu (z2p e.todo)).has p t=true→b.has p t=true∧ziv l p=(z8i l e).v:=fun p t hh=>by
        obtain ⟨h1,h2⟩:=hv p t hh
        exact ⟨h1,h2.trans (y5g ht p hlt hlf)⟩
      have hlow:=hvl _ _ (zv0 _ he)
      refine ⟨fun j x hj=>h.at_ j x (zsq hj),fun x hx=>h.ok x (hpm x hx),fun x hx=>h.val x (hpm x hx),fun p t hh=>?_,fun _=>?_,fun _=>?_⟩
      · rcases h.all p t hh with ⟨x,hx,hxh⟩ | ⟨h1,h2,h3⟩
        · rcases zmq hl hx with hx | rfl
          · exact .inl ⟨x,hx,hxh⟩
          · refine .inr ⟨rfl,?_,?_⟩
            · rw [(hvl p t hxh).2]; show min _ _≤_; omega
            · rw [(hvl p t hxh).2]; show _≤max _ _; omega
        · refine .inr ⟨rfl,?_,?_⟩
          · show min (cond e.any e.lo _) _≤_
            rw [h1,z01]; omega
          · show _≤max (cond e.any e.hi _) _
            rw [h1,z01]; omega
      · show ∃ p t,b.has p t=true∧ziv l p=min (cond e.any e.lo (z8i l e).v) (z8i l e).v
        cases hany:e.any with
        | false=>exact ⟨_,_,hlow.1,by rw [hlow.2,z03]; omega⟩
        | true=>
          rw [z01]
          by_cases hc:e.lo≤(z8i l e).v
          · obtain ⟨p,t,h1,h2⟩:=h.lo hany
            exact ⟨p,t,h1,by omega⟩
          · exact ⟨_,_,hlow.1,by rw [hlow.2]; omega⟩
      · show ∃ p t,b.has p t=true∧ziv l p=max (cond e.any e.hi (z8i l e).v) (z8i l e).v
        cases hany:e.any with
        | false=>exact ⟨_,_,hlow.1,by rw [hlow.2,z03]; omega⟩
        | true=>
          rw [z01]
          by_cases hc:(z8i l e).v≤e.hi
          · obtain ⟨p,t,h1,h2⟩:=h.hi hany
            exact ⟨p,t,h1,by omega⟩
          · exact ⟨_,_,hlow.1,by rw [hlow.2]; omega⟩
    | false=>
      rw [Bool.not_false,z01]
      obtain ⟨⟨f0,f4⟩,fa,⟨l1,l2⟩,⟨r1,r2⟩,_⟩:=ht.fork _ hlt hlf
      replace f0:0≤(z8i l e).f:=f0
      replace f4:(z8i l e).f < 4:=f4
      replace l1:((zm5 (z2p e.todo)).toNat:Int) < (z8i l e).l:=l1
      replace l2:(z8i l e).l < ic l.length:=l2
      replace r1:((zm5 (z2p e.todo)).toNat:Int) < (z8i l e).r:=r1
      replace r2:(z8i l e).r < ic l.length:=r2
      have ef:(z8i l e).f=(((z8i l e).f.toNat:Nat):Int):=by omega
      have hfl:(z8i l e).f.toNat < 5:=by omega
      have fa' : -2147483648≤(z8i l e).a:=by
        have:z1g (z8i l e).a=true:=fa
        unfold z1g at this
        simp only [Bool.and_eq_true,decide_eq_true_eq] at this
        exact this.1
      have vf:∀ p:Pt,ya9 l p (zm5 (z2p e.todo)).toNat=ya9 l p (cond (decide (p.g (z8i l e).f.toNat≤(z8i l e).a)) (z8i l e).l.toNat (z8i l e).r.toNat):=fun p=>y74 ht p hlt hlf
      have hL:∀ p t,((ztu (z2p e.todo)).cutL (z8i l e).f (z8i l e).a).has p t=true↔(ztu (z2p e.todo)).has p t=true∧co p t (z8i l e).f.toNat≤(z8i l e).a:=fun p t=>by
        have:=y46 (b:=ztu (z2p e.todo)) hfl (a:=(z8i l e).a) (p:=p) (t:=t)
        rwa [← ef] at this
      have hH:∀ p t,((ztu (z2p e.todo)).cutH (z8i l e).f (z8i l e).a).has p t=true↔(ztu (z2p e.todo)).has p t=true∧(z8i l e).a < co p t (z8i l e).f.toNat:=fun p t=>by
        have:=y59 hok hfl fa' (p:=p) (t:=t)
        rwa [← ef] at this
      have okL:((ztu (z2p e.todo)).cutL (z8i l e).f (z8i l e).a).ok:=by
        have:=yba hok hfl (z8i l e).a
        rwa [← ef] at this
      have okH:((ztu (z2p e.todo)).cutH (z8i l e).f (z8i l e).a).ok:=by
        have:=yb7 hok hfl (z8i l e).a
        rwa [← ef] at this
      have hco:∀ p t,co p t (z8i l e).f.toNat=p.g (z8i l e).f.toNat:=fun p t=>zxz p t (by omega)
      refine ⟨fun j x hj=>?_,fun x hx=>?_,fun x hx=>?_,fun p t hh=>?_,h.lo,h.hi⟩
      · rw [List.getElem?_append,z6d] at hj
        split at hj
        · exact h.at_ j x (zsq hj)
        · rename_i hc
          have h1:=ha.1
          rcases Nat.lt_or_ge (j - (e.todo.length - 1)) 1 with h0 | h0
          · have:j - (e.todo.length - 1)=0:=by omega
            rw [this] at hj
            simp only [List.getElem?_cons_zero,Option.some.injEq] at hj
            subst hj
            rw [y4p]
            omega
          · rcases Nat.lt_or_ge (j - (e.todo.length - 1)) 2 with h2 | h2
            · have:j - (e.todo.length - 1)=1:=by omega
              rw [this] at hj
              simp only [List.getElem?_cons_succ,List.getElem?_cons_zero,Option.some.injEq] at hj
              subst hj
              rw [y4p]
              omega
            · rw [List.getElem?_eq_none (by simpa using h2)] at hj
              cases hj
      · rcases List.mem_append.1 hx with hx | hx
        · exact h.ok x (hpm x hx)
        · rcases List.mem_cons.1 hx with rfl | hx
          · rw [zxm]; exact okL
          · obtain rfl:=List.mem_singleton.1 hx
            rw [zxm]; exact okH
      · rcases List.mem_append.1 hx with hx | hx
        · exact h.val x (hpm x hx)
        · rcases List.mem_cons.1 hx with rfl | hx
          · intro p t hh
            rw [zxm] at hh
            obtain ⟨h1,h2⟩:=(hL p t).1 hh
            obtain ⟨h3,h4⟩:=hv p t h1
            rw [hco] at h2
            rw [y4p]
            exact ⟨h3,by rw [h4,vf,decide_eq_true h2,z01]⟩
          · obtain rfl:=List.mem_singleton.1 hx
            intro p t hh
            rw [zxm] at hh
            obtain ⟨h1,h2⟩:=(hH p t).1 hh
            obtain ⟨h3,h4⟩:=hv p t h1
            rw [hco] at h2
            rw [y4p]
            exact ⟨h3,by rw [h4,vf,decide_eq_false (by omega),z03]⟩
      · rcases h.all p t hh with ⟨x,hx,hxh⟩ | hr
        · rcases zmq hl hx with hx | rfl
          · exact .inl ⟨x,List.mem_append.2 (.inl hx),hxh⟩
          · by_cases hc:co p t (z8i l e).f.toNat≤(z8i l e).a
            · exact .inl ⟨_,List.mem_append.2 (.inr (List.mem_cons_self ..)),by rw [zxm]; exact (hL p t).2 ⟨hxh,hc⟩⟩
            · exact .inl ⟨_,List.mem_append.2 (.inr (List.mem_cons_of_mem _ (List.mem_cons_self ..))),by rw [zxm]; exact (hH p t).2 ⟨hxh,by omega⟩⟩
        · exact .inr hr
theorem yhz {l:List IV} (ht:TreeOK l) {b:Bx} (hb:b.ok):EnI l b (en0 b):=by
  have h1:=ht.len.1
  refine ⟨fun j x hj=>?_,fun x hx=>?_,fun x hx=>?_,fun p t hh=>.inl ⟨_,List.mem_cons_self ..,by rw [zxm]; exact hh⟩,(fun h=>by cases h),(fun h=>by cases h)⟩
  · match j,hj with
    | 0,hj=>
      obtain rfl:ybk 0 b=x:=by simpa [en0] using hj
      rw [y4p]
      simp only [ic]
      omega
    | j+1,hj=>simp [en0] at hj
  · obtain rfl:=List.mem_singleton.1 hx
    rw [zxm]; exact hb
  · obtain rfl:=List.mem_singleton.1 hx
    intro p t hh
    rw [zxm] at hh
    exact ⟨hh,rfl⟩
def enW (l:List IV):Nat:=(l.map fun x=>3 ^ (31 - (zm5 x).toNat)).sum
theorem EnI.depth {l:List IV} (ht:TreeOK l) {b:Bx} {e:En} (h:EnI l b e):e.todo.length≤31:=by
  by_cases hc:e.todo.length≤31
  · exact hc
  · obtain ⟨x,hx⟩:∃ x,e.todo[31]?=some x:=⟨_,List.getElem?_eq_getElem (by omega)⟩
    have:=h.at_ 31 x hx
    have h2:=ht.len.2
    simp only [ic] at this
    omega
theorem yg2 {l:List IV} (hl:0 < l.length):enW l=enW (zdr l)+3 ^ (31 - (zm5 (z2p l)).toNat):=by
  have e:l=zdr l++[z2p l]:=by
    have h2:=(zgx hl).2
    have h3:l[l.length - 1]=z2p l:=Option.some.inj ((List.getElem?_eq_getElem (by omega)).symm.trans h2)
    unfold zdr
    rw [← h3,List.take_append_getElem,List.take_of_length_le (by omega)]
  unfold enW
  conv=>lhs; rw [e]
  rw [List.map_append,List.sum_append]
  simp
theorem y98 {a b c:Nat} (h1:a < b) (h2:a < c) (ha:a < 31):3 ^ (31 - b)+3 ^ (31 - c)+1≤3 ^ (31 - a):=by
  have e:3 ^ (31 - a)=3*3 ^ (30 - a):=by
    rw [show 31 - a=(30 - a)+1 by omega,Nat.pow_succ]; omega
  have e1:3 ^ (31 - b)≤3 ^ (30 - a):=Nat.pow_le_pow_right (by omega) (by omega)
  have e2:3 ^ (31 - c)≤3 ^ (30 - a):=Nat.pow_le_pow_right (by omega) (by omega)
  have e3:0 < 3 ^ (30 - a):=Nat.pow_pos (by omega)
  omega
theorem ygh {l:List IV} (ht:TreeOK l) {b:Bx} {e:En} (h:EnI l b e) (hl:0 < e.todo.length):enW (y2j l e).todo+1≤enW e.todo:=by
  obtain ⟨hm,hg⟩:=zgx hl
  have ha:=h.at_ _ _ hg
  have h31:=ht.len.2
  have hlt:(zm5 (z2p e.todo)).toNat < l.length:=by have:=ha.2; simp only [ic] at this; omega
  have hpos:0 < 3 ^ (31 - (zm5 (z2p e.todo)).toNat):=Nat.pow_pos (by omega)
  rw [yg2 hl]
  unfold y2j
  cases !z7v (l.getD (zm5 (z2p e.todo)).toNat default).toInt||(ztu (z2p e.todo)).emp with
  | true=>rw [z01]; show enW (zdr e.todo)+1≤_; omega
  | false=>
    rw [z03]
    cases hlf:(z8i l e).lf with
    | true=>rw [Bool.not_true,z03]; show enW (zdr e.todo)+1≤_; omega
    | false=>
      rw [Bool.not_false,z01]
      obtain ⟨_,_,⟨l1,l2⟩,⟨r1,r2⟩,_⟩:=ht.fork _ hlt hlf
      replace l1:((zm5 (z2p e.todo)).toNat:Int) < (z8i l e).l:=l1
      replace r1:((zm5 (z2p e.todo)).toNat:Int) < (z8i l e).r:=r1
      have:=y98 (a:=(zm5 (z2p e.todo)).toNat) (b:=(z8i l e).l.toNat) (c:=(z8i l e).r.toNat) (by omega) (by omega) (by omega)
      unfold enW at *
      rw [List.map_append,List.sum_append]
      simp only [List.map_cons,List.map_nil,List.sum_cons,List.sum_nil,y4p]
      omega
theorem yhe {l:List IV} (hT:z6v l 4=true) {b:Bx} (hb:b.emp=false) (hok:b.ok) {e:En} (h:EnI l b e) (hl:e.todo=[]):e.lo=tLo l b∧e.hi=tHi l b:=by
  obtain ⟨t1,⟨p1,u1,q1,q2⟩,⟨p2,u2,q3,q4⟩⟩:=y4g hT hb hok
  have hall:∀ p t,b.has p t=true→e.any=true∧e.lo≤ziv l p∧ziv l p≤e.hi:=fun p t hh=>by
    rcases h.all p t hh with ⟨x,hx,_⟩ | hr
    · rw [hl] at hx; cases hx
    · exact hr
  have hany:=(hall _ _ q1).1
  obtain ⟨p3,u3,q5,q6⟩:=h.lo hany
  obtain ⟨p4,u4,q7,q8⟩:=h.hi hany
  have a1:=hall _ _ q1
  have a2:=hall _ _ q3
  have a3:=t1 _ _ q5
  have a4:=t1 _ _ q7
  omega
theorem yi6 {l:List IV} (hT:z6v l 4=true) {b c:Bx} (hb:b.emp=false) (hok:b.ok) (hc:c.emp=false) (hokc:c.ok) (h:∀ p,(∃ t,b.has p t=true)↔∃ t,c.has p t=true):tLo l b=tLo l c∧tHi l b=tHi l c:=by
  obtain ⟨t1,⟨p1,u1,q1,q2⟩,⟨p2,u2,q3,q4⟩⟩:=y4g hT hb hok
  obtain ⟨s1,⟨p3,u3,q5,q6⟩,⟨p4,u4,q7,q8⟩⟩:=y4g hT hc hokc
  obtain ⟨v1,w1⟩:=(h p1).1 ⟨u1,q1⟩
  obtain ⟨v2,w2⟩:=(h p2).1 ⟨u2,q3⟩
  obtain ⟨v3,w3⟩:=(h p3).2 ⟨u3,q5⟩
  obtain ⟨v4,w4⟩:=(h p4).2 ⟨u4,q7⟩
  have a1:=s1 _ _ w1
  have a2:=s1 _ _ w2
  have a3:=t1 _ _ w3
  have a4:=t1 _ _ w4
  omega
open Go
theorem yc5:∀ {l:List IV} {st st':List IV × List IV} {x:IV},zqc l st=some st'→zqc (l++[x]) st=zdv st' x
  | [],st,st',x,h=>by
    obtain rfl:=Option.some.inj h
    rw [List.nil_append,zqc]
    cases zdv st x <;> rfl
  | y :: r,st,st',x,h=>by
    rw [List.cons_append,zqc]
    rw [zqc] at h
    cases hs:zdv st y with
    | none=>rw [hs] at h; cases h
    | some s1=>rw [hs] at h; exact yc5 h
theorem y99:∀ {l:List IV} {st st':Int × Int} {x:IV},zzi l st=some st'→zzi (l++[x]) st=zdw st' x
  | [],st,st',x,h=>by
    obtain rfl:=Option.some.inj h
    rw [List.nil_append,zzi]
    cases zdw st x <;> rfl
  | y :: r,st,st',x,h=>by
    rw [List.cons_append,zzi]
    rw [zzi] at h
    cases hs:zdw st y with
    | none=>rw [hs] at h; cases h
    | some s1=>rw [hs] at h; exact y99 h
def pot (m:Md) (q:Qy) (b:Bx):Nat:=(z35 m q b 0).length+(z35 m q b 1).length+(z35 m q b 2).length+(z35 m q b 3).length+(z35 m q b 4).length
theorem y26 {α:Type} {p q:α→Bool}:∀ {l:List α},(∀ x∈l,p x=true→q x=true)→(l.filter p).length≤(l.filter q).length
  | [],_=>Nat.le_refl _
  | x :: l,h=>by
    have ih:=y26 (l:=l) (p:=p) (q:=q) fun y hy=>h y (List.mem_cons_of_mem _ hy)
    have hx:=h x (List.mem_cons_self ..)
    rw [List.filter_cons,List.filter_cons]
    cases hp:p x with
    | true=>rw [hx hp,if_pos rfl,if_pos rfl]; simp only [List.length_cons]; omega
    | false=>
      rw [if_neg (by decide)]
      cases q x with
      | true=>rw [if_pos rfl]; simp only [List.length_cons]; omega
      | false=>rw [if_neg (by decide)]; exact ih
theorem zzl {α:Type} {p q:α→Bool} {a:α}:∀ {l:List α},a∈l→p a=false→q a=true→(∀ x∈l,p x=true→q x=true)→(l.filter p).length < (l.filter q).length
  | [],h,_,_,_=>by cases h
  | x :: l,hm,h1,h2,h=>by
    have hx:=h x (List.mem_cons_self ..)
    have hr:=fun y hy=>h y (List.mem_cons_of_mem _ hy)
    rw [List.filter_cons,List.filter_cons]
    rcases List.mem_cons.1 hm with rfl | hm
    · rw [h1,h2,if_neg (by decide),if_pos rfl]
      have:=y26 hr
      simp only [List.length_cons]; omega
    · have ih:=zzl hm h1 h2 hr
      cases hp:p x with
      | true=>rw [hx hp,if_pos rfl,if_pos rfl]; simp only [List.length_cons]; omega
      | false=>
        rw [if_neg (by decide)]
        cases q x with
        | true=>rw [if_pos rfl]; simp only [List.length_cons]; omega
        | false=>rw [if_neg (by decide)]; exact ih
theorem ygc {m:Md} {q:Qy} {b c:Bx} {i:Nat} (h:c.g i=b.g i):z35 m q c i=z35 m q b i:=by unfold z35; rw [h]
theorem yb5 {m:Md} {q:Qy} {b c:Bx} {i:Nat} {a:Int} (ha:a∈z35 m q b i) (h1:(b.g i).lo≤(c.g i).lo) (h2:(c.g i).hi≤(b.g i).hi) (h3:a < (c.g i).lo∨(c.g i).hi≤a):(z35 m q c i).length < (z35 m q b i).length:=by
  obtain ⟨hf,hm,hl,hh⟩:=zfl.1 ha
  unfold z35
  rw [decide_eq_false (by omega),z03,z03]
  unfold zgq
  refine zzl hm ?_ ?_ ?_
  · simp only [Bool.not_eq_false',Bool.or_eq_true,decide_eq_true_eq]; omega
  · simp only [Bool.not_eq_true',Bool.or_eq_false_iff,decide_eq_false_iff_not]; omega
  · intro x _
    simp only [Bool.not_eq_true',Bool.or_eq_false_iff,decide_eq_false_iff_not]; omega
theorem yeg {m:Md} {q:Qy} {b c:Bx} {j:Nat} (hj:j < 5) (h1:(z35 m q c j).length < (z35 m q b j).length) (h2:∀ i,i < 5→i≠j→c.g i=b.g i):pot m q c < pot m q b:=by
  have e:∀ i,i < 5→i≠j→(z35 m q c i).length=(z35 m q b i).length:=fun i hi hn=>by rw [ygc (h2 i hi hn)]
  unfold pot
  match j,hj with
  | 0,_=>have:=e 1 (by omega) (by omega); have:=e 2 (by omega) (by omega); have:=e 3 (by omega) (by omega); have:=e 4 (by omega) (by omega); omega
  | 1,_=>have:=e 0 (by omega) (by omega); have:=e 2 (by omega) (by omega); have:=e 3 (by omega) (by omega); have:=e 4 (by omega) (by omega); omega
  | 2,_=>have:=e 0 (by omega) (by omega); have:=e 1 (by omega) (by omega); have:=e 3 (by omega) (by omega); have:=e 4 (by omega) (by omega); omega
  | 3,_=>have:=e 0 (by omega) (by omega); have:=e 1 (by omega) (by omega); have:=e 2 (by omega) (by omega); have:=e 4 (by omega) (by omega); omega
  | 4,_=>have:=e 0 (by omega) (by omega); have:=e 1 (by omega) (by omega); have:=e 2 (by omega) (by omega); have:=e 3 (by omega) (by omega); omega
  | n+5,h=>omega
theorem y9x {lo hi:Int} (h:lo≤hi):y3h lo hi=⟨lo,hi⟩:=by unfold y3h; rw [decide_eq_false (by omega),z03]
theorem y5u {m:Md} {q:Qy} {b:Bx} {j:Nat} (hj:j < 5) {a:Int} (ha:a∈z35 m q b j):pot m q (b.cutL (j:Int) a) < pot m q b:=by
  obtain ⟨hf,hm,hl,hh⟩:=zfl.1 ha
  have e:∀ i,i < 5→(b.cutL (j:Int) a).g i=if i=j then ⟨(b.g j).lo,a⟩ else b.g i:=fun i hi=>by
    unfold Bx.cutL
    rw [Int.toNat_natCast,zb3 b _ hj hi]
    unfold Sp.cutL
    rw [show min (b.g j).hi a=a by omega,y9x hl]
  refine yeg hj (yb5 ha ?_ ?_ ?_) fun i hi hn=>by rw [e i hi,if_neg hn]
  · rw [e j hj,if_pos rfl]; exact Int.le_refl _
  · rw [e j hj,if_pos rfl]; show a≤_; omega
  · rw [e j hj,if_pos rfl]; exact .inr (Int.le_refl _)
theorem ydx {m:Md} {q:Qy} {b:Bx} (hb:b.good) {j:Nat} (hj:j < 5) {a:Int} (ha:a∈z35 m q b j):pot m q (b.cutH (j:Int) a) < pot m q b:=by
  obtain ⟨hf,hm,hl,hh⟩:=zfl.1 ha
  have hg:=hb j hj
  have e:∀ i,i < 5→(b.cutH (j:Int) a).g i=if i=j then ⟨a+1,(b.g j).hi⟩ else b.g i:=fun i hi=>by
    unfold Bx.cutH
    rw [Int.toNat_natCast,zb3 b _ hj hi]
    unfold Sp.cutH
    rw [decide_eq_false (by omega),z03,show zds (a+1)=a+1 from z12 (by omega) (by omega),show max (b.g j).lo (a+1)=a+1 by omega,y9x (by omega)]
  refine yeg hj (yb5 ha ?_ ?_ ?_) fun i hi hn=>by rw [e i hi,if_neg hn]
  · rw [e j hj,if_pos rfl]; show _≤a+1; omega
  · rw [e j hj,if_pos rfl]; exact Int.le_refl _
  · rw [e j hj,if_pos rfl]; exact .inl (by show a < a+1; omega)
structure Rp (m:Md) (q:Qy) (s:Sr):Prop where
  left:y8w s
  pt:∀ (j:Nat) (x:IV),s.left[j]?=some x→pot m q (bxI x)+j≤pot m q (z33 q)
  ps:∃ outs,zqc s.proof ([(z33 q).I],[])=some (s.left,outs)∧∀ x∈outs,z1r m q (bxI x)=true
  dp:∃ most,zzi s.proof (1,1)=some (ic s.left.length,most)∧1≤most∧most≤(pot m q (z33 q):Int)+1
theorem yhn {m:Md} {q:Qy} (h:z1q m q=true):Rp m q ⟨[(z33 q).I],[],Vd.none,0⟩ where
  left:=ybu h
  pt j x hj:=by
    match j,hj with
    | 0,hj=>
      obtain rfl:(z33 q).I=x:=by simpa using hj
      rw [zpr]; omega
    | j+1,hj=>simp at hj
  ps:=⟨[],rfl,fun x hx=>by cases hx⟩
  dp:=⟨1,rfl,by omega,by omega⟩
theorem ya6 {m:Md} {q:Qy} {s:Sr} (hr:z1q m q=true) (h:Rp m q s) (hl:0 < s.left.length) (hn:z1r m q (z2k s.left)=false→z2l m q (z2k s.left).low (z2k s.left).s4.hi=false):Rp m q (z5a m q s):=by
  obtain ⟨outs,hps,hout⟩:=h.ps
  obtain ⟨most,hdp,hm1,hm2⟩:=h.dp
  have hg:=y7f (m:=m) (q:=q) h.left hl
  have ht:=zpp h.left hl
  have htop:s.left[s.left.length - 1]?=some (z2p s.left):=(zgx hl).2
  have ept:z2k s.left=bxI (z2p s.left):=rfl
  have hpt:=h.pt _ _ htop
  rw [← ept] at hpt
  cases hc:z1r m q (z2k s.left) with
  | true=>
    have e:(z5a m q s).left=zdr s.left∧(z5a m q s).proof=s.proof++[stI true 0 0]:=by
      unfold z5a
      rw [hc,z01]
      exact ⟨rfl,rfl⟩
    refine ⟨hg,fun j x hj=>?_,⟨outs++[(z2k s.left).I],?_,fun x hx=>?_⟩,⟨most,?_,hm1,hm2⟩⟩
    · rw [e.1] at hj
      exact h.pt j x (zsq hj)
    · rw [e.2,yc5 hps,e.1]
      rfl
    · rcases List.mem_append.1 hx with hx | hx
      · exact hout x hx
      · obtain rfl:=List.mem_singleton.1 hx
        rw [zpr]; exact hc
    · rw [e.2,y99 hdp,e.1,z6d]
      unfold zdw
      have h1:(ic s.left.length==0)=false:=beq_eq_false_iff_ne.2 (by simp only [ic]; omega)
      show cond ((ic s.left.length==0)||!true) none (some (ic s.left.length - 1,most))=_
      rw [h1]
      show some (ic s.left.length - 1,most)=_
      rw [show ic s.left.length - 1=ic (s.left.length - 1) by simp only [ic]; omega]
  | false=>
    have hb:=hn hc
    have hs:=zvk hr h.left hl hc hb
    obtain ⟨j,hj,ei,_,_,hm⟩:=znb hs
    have hcut:=zfl.1 hm
    have e:(z5a m q s).left=zdr s.left++[((z2k s.left).cutH (j:Int) (zr2 (z1b m q (z2k s.left)))).I,((z2k s.left).cutL (j:Int) (zr2 (z1b m q (z2k s.left)))).I]∧(z5a m q s).proof=s.proof++[stI false (j:Int) (zr2 (z1b m q (z2k s.left)))]:=by
      unfold z5a
      rw [hc,z03,hb,z03,hs,z01,ei]
      exact ⟨rfl,rfl⟩
    generalize zr2 (z1b m q (z2k s.left))=a at hm hcut e
    refine ⟨hg,fun k x hk=>?_,⟨outs,?_,hout⟩,⟨max most (ic s.left.length+1),?_,by omega,?_⟩⟩
    · rw [e.1,List.getElem?_append,z6d] at hk
      split at hk
      · exact h.pt k x (zsq hk)
      · rcases Nat.lt_or_ge (k - (s.left.length - 1)) 1 with h0 | h0
        · rw [show k - (s.left.length - 1)=0 by omega] at hk
          simp only [List.getElem?_cons_zero,Option.some.injEq] at hk
          subst hk
          rw [zpr]
          have:=ydx ht hj hm
          omega
        · rcases Nat.lt_or_ge (k - (s.left.length - 1)) 2 with h2 | h2
          · rw [show k - (s.left.length - 1)=1 by omega] at hk
            simp only [List.getElem?_cons_succ,List.getElem?_cons_zero,Option.some.injEq] at hk
            subst hk
            rw [zpr]
            have:=y5u (q:=q) hj hm
            omega
          · rw [List.getElem?_eq_none (by simpa using h2)] at hk
            cases hk
    · rw [e.2,yc5 hps,e.1]
      unfold zdv
      show cond false _ (cond (decide (a < ((z2k s.left).g ((j:Int)).toNat).lo)||decide (a≥((z2k s.left).g ((j:Int)).toNat).hi)) none _)=_
      rw [z03,Int.toNat_natCast,decide_eq_false (by omega),decide_eq_false (by omega)]
      rfl
    · rw [e.2,y99 hdp,e.1]
      unfold zdw
      have h1:(ic s.left.length==0)=false:=beq_eq_false_iff_ne.2 (by simp only [ic]; omega)
      have h2:z54 (stI false (j:Int) a)=true:=by
        show (decide ((0:Int)≤(j:Int))&&decide ((j:Int)≤4))=true
        rw [decide_eq_true (by omega),decide_eq_true (by omega)]; rfl
      show cond ((ic s.left.length==0)||!(z54 (stI false (j:Int) a))) none (some (ic s.left.length+1,max most (ic s.left.length+1)))=_
      rw [h1,h2]
      show some (ic s.left.length+1,max most (ic s.left.length+1))=_
      rw [List.length_append,z6d]
      have:ic (s.left.length - 1+[((z2k s.left).cutH (j:Int) a).I,((z2k s.left).cutL (j:Int) a).I].length)=ic s.left.length+1:=by simp only [ic,List.length_cons,List.length_nil]; omega
      rw [this]
    · have h3:0 < pot m q (z2k s.left):=Nat.lt_of_le_of_lt (Nat.zero_le _) (y5u (q:=q) hj hm)
      simp only [ic]
      omega
open Go
def ndN (ts:List IV):Nat:=(ts.map fun t=>(z97 t).length).sum
theorem ydy (w:IV):(zsw 0 w).length+(zsw 1 w).length+(zsw 2 w).length+(zsw 3 w).length≤1:=by
  unfold zsw
  cases (z07 w.toInt).lf with
  | true=>simp
  | false=>
    generalize (z07 w.toInt).f=f
    by_cases h0:f=0
    · subst h0; exact Nat.le_refl _
    by_cases h1:f=1
    · subst h1; exact Nat.le_refl _
    by_cases h2:f=2
    · subst h2; exact Nat.le_refl _
    by_cases h3:f=3
    · subst h3; exact Nat.le_refl _
    rw [beq_eq_false_iff_ne.2 h0,beq_eq_false_iff_ne.2 h1,beq_eq_false_iff_ne.2 h2,beq_eq_false_iff_ne.2 h3]
    simp
theorem yfb (f:Int) (w:IV):(zsw f w).length≤1:=by
  unfold zsw
  cases (!(z07 w.toInt).lf&&(z07 w.toInt).f==f) <;> simp
theorem y0g:∀ (l:List IV),(l.flatMap (zsw 0)).length+(l.flatMap (zsw 1)).length+(l.flatMap (zsw 2)).length+(l.flatMap (zsw 3)).length≤l.length
  | []=>Nat.le_refl _
  | w :: l=>by
    have:=y0g l
    have:=ydy w
    simp only [List.flatMap_cons,List.length_append,List.length_cons]
    omega
theorem y6i (f:Int):∀ (l:List IV),(l.flatMap (zsw f)).length≤l.length
  | []=>Nat.le_refl _
  | w :: l=>by
    have:=y6i f l
    have:=yfb f w
    simp only [List.flatMap_cons,List.length_append,List.length_cons]
    omega
theorem yb3:∀ (ts:List IV),(z5q ts 0).length+(z5q ts 1).length+(z5q ts 2).length+(z5q ts 3).length≤ndN ts
  | []=>Nat.le_refl _
  | t :: ts=>by
    have:=yb3 ts
    have:=y0g (z97 t)
    unfold z5q ndN at *
    simp only [List.flatMap_cons,List.length_append,List.map_cons,List.sum_cons]
    omega
theorem ye9 (f:Int):∀ (ts:List IV),(z5q ts f).length≤ndN ts
  | []=>Nat.le_refl _
  | t :: ts=>by
    have:=ye9 f ts
    have:=y6i f (z97 t)
    unfold z5q ndN at *
    simp only [List.flatMap_cons,List.length_append,List.map_cons,List.sum_cons]
    omega
theorem zqg (m:Md) (q:Qy) (b:Bx) (i:Nat):(z35 m q b i).length≤(z5q m.ts (zb5 q (i:Int))).length:=by
  unfold z35
  cases decide (zb5 q (i:Int) < 0) with
  | true=>rw [z01]; exact Nat.zero_le _
  | false=>
    rw [z03]
    unfold zgq ztm
    refine Nat.le_trans (List.length_filter_le ..) ?_
    rw [← (z6p (z5q m.ts (zb5 q (i:Int)))).length_eq]
    exact zpw _
theorem yh6 (m:Md) (q:Qy) (b:Bx):pot m q b≤2*ndN m.ts:=by
  have h0:=zqg m q b 0
  have h1:=zqg m q b 1
  have h2:=zqg m q b 2
  have h3:=zqg m q b 3
  have h4:=zqg m q b 4
  have h5:=ye9 (zb5 q ((4:Nat):Int)) m.ts
  have h6:=yb3 m.ts
  rw [zz5 (by omega)] at h0 h1 h2 h3
  unfold pot
  simp only [Int.natCast_zero] at *
  have e1:((1:Nat):Int)=1:=rfl
  have e2:((2:Nat):Int)=2:=rfl
  have e3:((3:Nat):Int)=3:=rfl
  rw [e1] at h1
  rw [e2] at h2
  rw [e3] at h3
  omega
theorem y7v (f:Ft):ndN f.M.ts≤60:=by
  have hd:=zq9 f.d
  have key:∀ (l:List IV),ndN (l.map (y8l f.d f.c))≤15*l.length:=by
    intro l
    induction l with
    | nil=>exact Nat.le_refl _
    | cons t l ih=>
      obtain ⟨i,hi,hn⟩:=yc9 (t.cell 1).toList (t.cell 2).toList (t.cell 3).toList (t.cell 4).toList (dim:=y82 f.d) ⟨hd.1,by omega⟩
      have e:(z97 (y8l f.d f.c t)).length=2*i+1:=by
        show ((zg2 (t.cell 1).toList (t.cell 2).toList (t.cell 3).toList (t.cell 4).toList (y82 f.d)).nodes.map zx9).length=_
        rw [List.length_map,hn.len]
      unfold ndN at *
      simp only [List.map_cons,List.sum_cons,List.length_cons]
      rw [e]
      omega
  have h4:(f.ts.take 4).length≤4:=by rw [List.length_take]; omega
  have:=key (f.ts.take 4)
  show ndN ((f.ts.take 4).map (y8l f.d f.c))≤60
  omega
open Go
def yjs (q:Qy) (s:Sr):Prop:=∀ x∈s.left,∀ p t,(bxI x).has p t=true→(z33 q).has p t=true
structure Ri (m:Md) (q:Qy) (s:Sr):Prop where
  sp:0≤s.spent∧s.spent≤q.bu
  opn:s.v.kind=0→Rp m q s∧0 < s.left.length∧s.spent=ic s.proof.length∧s.v.proof=[]∧yjs q s
  holds:s.v.kind=1→Rp m q s∧s.left=[]∧s.spent=ic s.proof.length∧s.v.proof=s.proof
  fails:s.v.kind=2→s.v.proof=[]∧1≤s.spent∧(z33 q).has ⟨s.v.w0,s.v.w1,s.v.w2,s.v.w3⟩ s.v.twin=true∧z2l m q ⟨s.v.w0,s.v.w1,s.v.w2,s.v.w3⟩ s.v.twin=true
  kinds:s.v.kind=0∨s.v.kind=1∨s.v.kind=2
theorem yhm {m:Md} {q:Qy} (h:z1q m q=true):Ri m q ⟨[(z33 q).I],[],Vd.none,0⟩ where
  sp:=⟨Int.le_refl _,(z9a h).2.2.1.1⟩
  opn _:=⟨yhn h,by simp,rfl,rfl,fun x hx p t hh=>by
    obtain rfl:=List.mem_singleton.1 hx
    rw [zpr] at hh; exact hh⟩
  holds h:=absurd (show (0:Int)=1 from h) (by decide)
  fails h:=absurd (show (0:Int)=2 from h) (by decide)
  kinds:=.inl rfl
theorem yg4 {m:Md} {q:Qy} {s:Sr} (hr:z1q m q=true) (h:Ri m q s) (ho:zdt q s=false):Ri m q (z5a m q s):=by
  unfold zdt at ho
  rw [Bool.or_eq_false_iff] at ho
  have hk:s.v.kind=0:=by simpa using ho.1
  have hs:¬ s.spent≥q.bu:=of_decide_eq_false ho.2
  obtain ⟨hrp,hl,hsp,hvp,hsub⟩:=h.opn hk
  have hsp0:=h.sp
  have ht:=zpp hrp.left hl
  have htm:z2p s.left∈s.left:=(zgx hl).1
  have ept:z2k s.left=bxI (z2p s.left):=rfl
  cases hc:z1r m q (z2k s.left) with
  | true=>
    have hrp':=ya6 hr hrp hl (fun h=>by rw [hc] at h; cases h)
    have e:z5a m q s=⟨zdr s.left,s.proof++[stI true 0 0],cond (ic (s.left.length - 1)==0) ⟨1,s.proof++[stI true 0 0],0,0,0,0,0,0⟩ s.v,s.spent+1⟩:=by
      unfold z5a
      rw [hc,z01]
    rw [e] at hrp' ⊢
    have hlen:s.spent+1=ic (s.proof++[stI true 0 0]).length:=by
      rw [hsp]; simp only [ic,List.length_append,List.length_cons,List.length_nil]; omega
    cases he:(ic (s.left.length - 1)==0) with
    | true=>
      rw [he] at hrp'
      have h1:s.left.length=1:=by
        have:ic (s.left.length - 1)=0:=by simpa using he
        simp only [ic] at this; omega
      have hnil:zdr s.left=[]:=List.length_eq_zero_iff.1 (by rw [z6d]; omega)
      exact ⟨⟨by show 0≤s.spent+1; omega,by show s.spent+1≤_; omega⟩,fun h=>absurd (show (1:Int)=0 from h) (by decide),fun _=>⟨hrp',hnil,hlen,rfl⟩,fun h=>absurd (show (1:Int)=2 from h) (by decide),.inr (.inl rfl)⟩
    | false=>
      rw [he] at hrp'
      have h1:s.left.length - 1≠0:=fun h=>by rw [h] at he; exact absurd he (by decide)
      refine ⟨⟨by show 0≤s.spent+1; omega,by show s.spent+1≤_; omega⟩,fun _=>⟨hrp',?_,hlen,hvp,fun x hx=>hsub x (znt hx)⟩,fun h=>?_,fun h=>?_,.inl hk⟩
      · show 0 < (zdr s.left).length
        rw [z6d]; omega
      · replace h:s.v.kind=1:=h
        omega
      · replace h:s.v.kind=2:=h
        omega
  | false=>
    cases hb:z2l m q (z2k s.left).low (z2k s.left).s4.hi with
    | true=>
      have e:z5a m q s=⟨zdr s.left,s.proof,⟨2,[],(z2k s.left).s0.lo,(z2k s.left).s1.lo,(z2k s.left).s2.lo,(z2k s.left).s3.lo,(z2k s.left).s4.hi,0⟩,s.spent+1⟩:=by
        unfold z5a
        rw [hc,z03,hb,z01]
      rw [e]
      refine ⟨⟨by show 0≤s.spent+1; omega,by show s.spent+1≤_; omega⟩,fun h=>absurd (show (2:Int)=0 from h) (by decide),fun h=>absurd (show (2:Int)=1 from h) (by decide),fun _=>⟨rfl,by show 1≤s.spent+1; omega,?_,hb⟩,.inr (.inr rfl)⟩
      exact hsub _ htm _ _ (by rw [← ept]; exact zv0 _ ht.emp)
    | false=>
      have hrp':=ya6 hr hrp hl (fun _=>hb)
      have hs2:=zvk hr hrp.left hl hc hb
      obtain ⟨j,hj,ei,_,_,hm⟩:=znb hs2
      have hcut:=zfl.1 hm
      have hg:=ht j hj
      have e:z5a m q s=⟨zdr s.left++[((z2k s.left).cutH (j:Int) (zr2 (z1b m q (z2k s.left)))).I,((z2k s.left).cutL (j:Int) (zr2 (z1b m q (z2k s.left)))).I],
          s.proof++[stI false (j:Int) (zr2 (z1b m q (z2k s.left)))],s.v,s.spent+1⟩:=by
        unfold z5a
        rw [hc,z03,hb,z03,hs2,z01,ei]
      rw [e] at hrp' ⊢
      generalize zr2 (z1b m q (z2k s.left))=a at hm hcut hrp'
      refine ⟨⟨by show 0≤s.spent+1; omega,by show s.spent+1≤_; omega⟩,fun _=>⟨hrp',by simp,?_,hvp,fun x hx p t hh=>?_⟩,fun h=>?_,fun h=>?_,.inl hk⟩
      · show s.spent+1=_
        rw [hsp]; simp only [ic,List.length_append,List.length_cons,List.length_nil]; omega
      · rcases List.mem_append.1 hx with hx | hx
        · exact hsub x (znt hx) p t hh
        · rcases List.mem_cons.1 hx with rfl | hx
          · rw [zpr] at hh
            exact hsub _ htm p t (by rw [← ept]; exact ((y59 ht.ok hj (by omega)).1 hh).1)
          · obtain rfl:=List.mem_singleton.1 hx
            rw [zpr] at hh
            exact hsub _ htm p t (by rw [← ept]; exact ((y46 hj).1 hh).1)
      · replace h:s.v.kind=1:=h
        omega
      · replace h:s.v.kind=2:=h
        omega
theorem yeq {m:Md} {q:Qy} (hr:z1q m q=true):∀ (d:Nat) (s:Sr),Ri m q s→q.bu < s.spent+d→Ri m q (y39 m q d s)∧zdt q (y39 m q d s)=true
  | 0,s,h,hd=>⟨h,by
    unfold zdt
    have:y39 m q 0 s=s:=rfl
    rw [this,decide_eq_true (show s.spent≥q.bu by omega)]
    simp⟩
  | d+1,s,h,hd=>by
    rw [y39]
    cases ho:zdt q s with
    | true=>rw [z01]; exact ⟨h,ho⟩
    | false=>
      rw [z03]
      refine yeq hr d (z5a m q s) (yg4 hr h ho) ?_
      have:(z5a m q s).spent=s.spent+1:=by
        unfold z5a
        cases z1r m _ _ <;> cases z2l m _ _ _ <;> cases (z1b m _ _).isSome <;> rfl
      omega
theorem y6y {m:Md} {q:Qy} (hr:z1q m q=true) (hp:pot m q (z33 q)≤199) :
    ((z6y m q).kind=1→zdj m q (z6y m q)=true∧ic (z6y m q).proof.length=(z6y m q).spent∧0 < zdx (z6y m q).proof) ∧
    ((z6y m q).kind=2→zdj m q (z6y m q)=true∧(z6y m q).proof=[]∧1≤(z6y m q).spent) ∧
    ((z6y m q).kind=3→(z6y m q).spent=q.bu∧(z6y m q).proof=[]) ∧
    ((z6y m q).kind=1∨(z6y m q).kind=2∨(z6y m q).kind=3)∧0≤(z6y m q).spent∧(z6y m q).spent≤q.bu:=by
  have h3:=(z9a hr).2.2.1
  have hnew:yej m q=⟨[(z33 q).I],[],Vd.none,0⟩:=by unfold yej; rw [hr,z01]
  obtain ⟨hi,ho⟩:=yeq hr (q.bu.toNat+1) _ (yhm hr) (by show q.bu < 0+_; omega)
  unfold z6y
  rw [hnew]
  generalize y39 m q (q.bu.toNat+1) _=s at hi ho
  rcases hi.kinds with hk | hk | hk
  · have ek:(zir s).kind=3:=by simp [zir,hk]
    have hsp:s.spent=q.bu:=by
      unfold zdt at ho
      rw [hk] at ho
      have:s.spent≥q.bu:=by simpa using ho
      have:=hi.sp
      omega
    exact ⟨fun h=>by omega,fun h=>by omega,fun _=>⟨hsp,(hi.opn hk).2.2.2.1⟩,.inr (.inr ek),hi.sp.1,hi.sp.2⟩
  · have ek:(zir s).kind=1:=by simp [zir,hk]
    obtain ⟨hrp,hl,hsp,hvp⟩:=hi.holds hk
    obtain ⟨outs,hps,hout⟩:=hrp.ps
    obtain ⟨most,hdp,hm1,hm2⟩:=hrp.dp
    have hlen:=hi.sp
    rw [hl] at hps hdp
    have hdeep:zdx s.proof=most:=by
      unfold zdx
      rw [decide_eq_false (by omega),z03,hdp]
      show cond (!((ic ([]:List IV).length)==0)||decide (most > 200)) 0 most=most
      rw [decide_eq_false (by omega)]
      rfl
    have epr:(zir s).proof=s.proof:=hvp
    refine ⟨fun _=>⟨?_,?_,?_⟩,fun h=>by omega,fun h=>by omega,.inl ek,hi.sp.1,hi.sp.2⟩
    · unfold zdj
      rw [hr,ek,epr]
      show (true&&cond true (match psF (z33 q) s.proof with | some l=>l.all fun x=>z1r m q (bxI x) | none=>false) _)=true
      unfold psF
      rw [hdeep,decide_eq_true (show most > 0 by omega),z01,hps]
      show (true&&(outs.all fun x=>z1r m q (bxI x)))=true
      rw [Bool.true_and,List.all_eq_true]
      exact hout
    · rw [epr]; exact hsp.symm
    · rw [epr,hdeep]; omega
  · have ek:(zir s).kind=2:=by simp [zir,hk]
    obtain ⟨hvp,hsp,hh,hb⟩:=hi.fails hk
    refine ⟨fun h=>by omega,fun _=>⟨?_,hvp,hsp⟩,fun h=>by omega,.inr (.inl ek),hi.sp.1,hi.sp.2⟩
    unfold zdj
    rw [hr,ek]
    show (true&&((z33 q).has ⟨s.v.w0,s.v.w1,s.v.w2,s.v.w3⟩ s.v.twin&&z2l m q ⟨s.v.w0,s.v.w1,s.v.w2,s.v.w3⟩ s.v.twin))=true
    rw [hh,hb]
    rfl
open Go
theorem y8v {s:Sp}:zr9 s=true↔s.good:=by
  unfold zr9 Sp.good
  simp only [Bool.and_eq_true,decide_eq_true_eq]
theorem zee {b:Bx}:z4y b=true↔b.good:=by
  unfold z4y
  simp only [Bool.and_eq_true,y8v]
  constructor
  · rintro ⟨h0,h1,h2,h3,h4⟩ i hi
    match i,hi with
    | 0,_=>exact h0
    | 1,_=>exact h1
    | 2,_=>exact h2
    | 3,_=>exact h3
    | 4,_=>exact h4
    | n+5,hi=>omega
  · intro h
    exact ⟨h 0 (by omega),h 1 (by omega),h 2 (by omega),h 3 (by omega),h 4 (by omega)⟩
theorem ydl {b:Bx} (h4:b.s4.lo≤b.s4.hi) (p:Pt):(∃ t,(b.p ⟨0,0⟩ 4).has p t=true)↔∃ t,b.has p t=true:=by
  constructor
  · rintro ⟨t,h⟩
    refine ⟨b.s4.lo,?_⟩
    unfold Bx.has at h ⊢
    simp only [Bool.and_eq_true] at h ⊢
    exact ⟨h.1,h.2.1,h.2.2.1,h.2.2.2.1,zfv.2 ⟨Int.le_refl _,h4⟩⟩
  · rintro ⟨t,h⟩
    refine ⟨0,?_⟩
    unfold Bx.has at h ⊢
    simp only [Bool.and_eq_true] at h ⊢
    exact ⟨h.1,h.2.1,h.2.2.1,h.2.2.2.1,zfv.2 ⟨Int.le_refl _,Int.le_refl _⟩⟩
theorem y4l {g g':List IV→Int} (k:Int):∀ (ts:List IV) (s:Int),(∀ t∈ts,g (z97 t)=g' (z97 t))→zrg g k ts s=zrg g' k ts s
  | [],_,_=>rfl
  | t :: ts,s,h=>by
    rw [zrg,zrg,h t (List.mem_cons_self ..)]
    exact y4l k ts _ fun u hu=>h u (List.mem_cons_of_mem _ hu)
theorem yer {m:Md} (hm:z1s m=true) (k:Int) {b:Bx} (hb:b.good):sLo m k (b.p ⟨0,0⟩ 4)=sLo m k b∧sHi m k (b.p ⟨0,0⟩ 4)=sHi m k b:=by
  have hg:(b.p ⟨0,0⟩ 4).good:=zos hb ⟨by decide,by decide,by decide⟩ (by omega)
  have ht:∀ t∈m.ts,tLo (z97 t) (b.p ⟨0,0⟩ 4)=tLo (z97 t) b∧tHi (z97 t) (b.p ⟨0,0⟩ 4)=tHi (z97 t) b:=fun t ht=>
    yi6 (zno hm ht) hg.emp hg.ok hb.emp hb.ok (ydl (hb 4 (by omega)).2.1)
  have es:sOK m k (b.p ⟨0,0⟩ 4)=sOK m k b:=by unfold sOK; rw [hg.emp,hb.emp]
  unfold sLo sHi
  rw [es]
  cases sOK m k b with
  | false=>exact ⟨rfl,rfl⟩
  | true=>
    rw [z01,z01,z01,z01]
    exact ⟨y4l k m.ts _ fun t h=>(ht t h).1,y4l k m.ts _ fun t h=>(ht t h).2⟩
def y50 (m:Md) (q:Qy) (b:Bx):Nat→Nat→Bool
  | 0,_=>true
  | d+1,i=>cond (!((i:Int)==q.c)&&decide (sHi m (i:Int) b≥sLo m q.c b)) false (y50 m q b d (i+1))
def zzf (q:Qy) (b:Bx):Bx:=b.p b.s4 q.ft.toNat
def yak (m:Md) (q:Qy) (b:Bx):Bool:=
  cond b.emp true
    (cond (q.k==1) (decide (q.lo≤sLo m q.c b)&&decide (sHi m q.c b≤q.hi))
      (cond (q.k==2) (y50 m q b m.c.toNat 0)
        (cond (decide ((b.g q.ft.toNat).lo≥b.s4.hi)) true
          (cond q.fl (decide (sHi m q.c (zzf q b)≤sLo m q.c b)) (decide (sLo m q.c (zzf q b)≥sHi m q.c b))))))
theorem y2y {m:Md} {q:Qy} {b:Bx}:∀ (d i:Nat),y50 m q b d i=true↔∀ j:Nat,i≤j→j < i+d→(j:Int)≠q.c→sHi m (j:Int) b < sLo m q.c b
  | 0,i=>⟨fun _ j h1 h2=>by omega,fun _=>rfl⟩
  | d+1,i=>by
    rw [y50]
    cases hc:(!((i:Int)==q.c)&&decide (sHi m (i:Int) b≥sLo m q.c b)) with
    | true=>
      rw [z01]
      simp only [Bool.and_eq_true,Bool.not_eq_true',beq_eq_false_iff_ne,decide_eq_true_eq] at hc
      refine ⟨(fun h=>by cases h),fun h=>?_⟩
      have:=h i (Nat.le_refl _) (by omega) hc.1
      omega
    | false=>
      rw [z03,y2y d (i+1)]
      rw [Bool.and_eq_false_iff,Bool.not_eq_false',beq_iff_eq,decide_eq_false_iff_not] at hc
      constructor
      · intro h j h1 h2 hn
        rcases Nat.lt_or_ge i j with h3 | h3
        · exact h j h3 (by omega) hn
        · have:j=i:=by omega
          subst this
          rcases hc with hc | hc
          · exact absurd hc hn
          · omega
      · intro h j h1 h2 hn
        exact h j (by omega) (by omega) hn
theorem y2w {m:Md} {q:Qy} {b:Bx} (hr:z1q m q=true) (hb:b.emp=true∨b.good):yak m q b=z1r m q b:=by
  unfold yak z1r
  rw [hr,Bool.true_and]
  cases he:b.emp with
  | true=>rfl
  | false=>
    rw [z03,z03]
    have hg:b.good:=by
      rcases hb with h | h
      · rw [he] at h; cases h
      · exact h
    obtain ⟨hm,⟨c0,c1⟩,_,_,hk⟩:=z9a hr
    have hcl:=zwp c0 c1
    have hs:=zsy hm hcl he
    rcases zhx hk with ⟨e,_⟩ | ⟨e,h2,_⟩ | ⟨e,hf,_⟩
    · rw [e]
      show (decide (q.lo≤sLo m q.c b)&&decide (sHi m q.c b≤q.hi))=(sOK m q.c b&&(decide (q.lo≤sLo m q.c b)&&decide (sHi m q.c b≤q.hi)))
      rw [hs,Bool.true_and]
    · rw [e]
      show y50 m q b m.c.toNat 0=(y67 m q.c b&&decide (yep m q.c b > 0))
      have hmg:y67 m q.c b=true:=by unfold y67; rw [hs,decide_eq_true (by omega)]; rfl
      rw [hmg,Bool.true_and,Bool.eq_iff_iff,y2y,decide_eq_true_eq]
      have:=y63 hmg
      constructor
      · intro h
        exact this.2 fun j hj hn=>h j (Nat.zero_le _) (by omega) hn
      · intro h j _ h2 hn
        exact this.1 h j (by omega) hn
    · rw [e]
      have hp:=zt1 hm e hf
      have h44:=hg 4 (by omega)
      have hg2:(zzf q b).good:=zos hg h44 (by have:=hf; have:=(z9a hr).1; rcases z7i hp with e | e | e | e <;> rw [e] <;> decide)
      have s1:=yer hm q.c hg
      have s2:=yer hm q.c hg2
      have f1:z86 q b=b.p ⟨0,0⟩ 4:=by unfold z86; rw [hp,z01]
      have f2:z55 q b=(zzf q b).p ⟨0,0⟩ 4:=by unfold z55; rw [hp,z01]; rfl
      have hch:y2n m q b=true:=by
        unfold y2n
        rw [hp,f1,f2,zsy hm hcl (zos hg ⟨by decide,by decide,by decide⟩ (by omega)).emp,zsy hm hcl (zos hg2 ⟨by decide,by decide,by decide⟩ (by omega)).emp]
        rfl
      have e1:ycn m q b=sHi m q.c (zzf q b) - sLo m q.c b:=by unfold ycn; rw [hch,z01,f1,f2,s1.1,s2.2]
      have e2:ydk m q b=sLo m q.c (zzf q b) - sHi m q.c b:=by unfold ydk; rw [hch,z01,f1,f2,s1.2,s2.1]
      have eo:zbr q b=!decide ((b.g q.ft.toNat).lo≥b.s4.hi):=by
        unfold zbr
        rw [hp,he]
        by_cases h:(b.g q.ft.toNat).lo < b.s4.hi
        · rw [decide_eq_true h,decide_eq_false (by omega)]; rfl
        · rw [decide_eq_false h,decide_eq_true (by omega)]; rfl
      show cond (decide ((b.g q.ft.toNat).lo≥b.s4.hi)) true _=cond (!(zbr q b)) true (cond q.fl (y2n m q b&&decide (ycn m q b≤0)) (y2n m q b&&decide (ydk m q b≥0)))
      rw [eo,Bool.not_not,hch,Bool.true_and,Bool.true_and,e1,e2]
      have d1:decide (sHi m q.c (zzf q b) - sLo m q.c b≤0)=decide (sHi m q.c (zzf q b)≤sLo m q.c b):=by
        rw [Bool.eq_iff_iff,decide_eq_true_eq,decide_eq_true_eq]; omega
      have d2:decide (sLo m q.c (zzf q b) - sHi m q.c b≥0)=decide (sLo m q.c (zzf q b)≥sHi m q.c b):=by
        rw [Bool.eq_iff_iff,decide_eq_true_eq,decide_eq_true_eq]; omega
      rw [d1,d2]
open Go
theorem zze {x:IV} {left most:Int} {st:Int × Int} (h:zdw (left,most) x=some st):left≠0∧z54 x=true∧((z62 x=true∧st=(left - 1,most))∨(z62 x=false∧st=(left+1,max most (left+1)))):=by
  unfold zdw at h
  cases hz:(left==0) with
  | true=>simp only [hz,Bool.true_or,cond_true] at h; cases h
  | false=>
    have hne:left≠0:=by simpa using hz
    simp only [hz,Bool.false_or] at h
    cases hr:z54 x with
    | false=>rw [hr] at h; cases h
    | true=>
      rw [hr] at h
      simp only [Bool.not_true,cond_false] at h
      cases hs:z62 x with
      | true=>rw [hs] at h; exact ⟨hne,rfl,.inl ⟨rfl,(Option.some.inj h).symm⟩⟩
      | false=>rw [hs] at h; exact ⟨hne,rfl,.inr ⟨rfl,(Option.some.inj h).symm⟩⟩
theorem zju {x:IV} (h:z54 x=true) (hs:z62 x=false):0≤z0t x∧z0t x≤4:=by
  unfold z54 at h
  rw [hs,z03,Bool.and_eq_true,decide_eq_true_eq,decide_eq_true_eq] at h
  exact h
theorem zo0 {x:IV} {left out:List IV} {most:Int} {st:Int × Int} {lo:List IV × List IV} (hl:∀ y∈left,(bxI y).good) (ho:∀ y∈out,(bxI y).good) (hd:zdw (ic left.length,most) x=some st) (hp:zdv (left,out) x=some lo) :
    (∀ y∈lo.1,(bxI y).good)∧(∀ y∈lo.2,(bxI y).good)∧st.1=ic lo.1.length:=by
  obtain ⟨hne,hr,hd⟩:=zze hd
  have hlen:0 < left.length:=by simp only [ic] at hne; omega
  have ht:(z2k left).good:=hl _ (zgx hlen).1
  unfold zdv at hp
  rcases hd with ⟨hs,rfl⟩ | ⟨hs,rfl⟩
  · rw [hs] at hp
    obtain rfl:=Option.some.inj hp
    refine ⟨fun y hy=>hl y (znt hy),fun y hy=>?_,?_⟩
    · rcases List.mem_append.1 hy with hy | hy
      · exact ho y hy
      · obtain rfl:=List.mem_singleton.1 hy
        rw [zpr]; exact ht
    · show ic left.length - 1=ic (zdr left).length
      rw [z6d]; simp only [ic]; omega
  · rw [hs] at hp
    have hpl:=zju hr hs
    have ej:z0t x=(((z0t x).toNat:Nat):Int):=by omega
    cases hc:(decide (zbk x < ((z2k left).g (z0t x).toNat).lo)||decide (zbk x≥((z2k left).g (z0t x).toNat).hi)) with
    | true=>simp only [hc,cond_false,cond_true] at hp; cases hp
    | false=>
      simp only [hc,cond_false] at hp
      obtain rfl:=Option.some.inj hp
      simp only [Bool.or_eq_false_iff,decide_eq_false_iff_not] at hc
      refine ⟨fun y hy=>?_,ho,?_⟩
      · rcases List.mem_append.1 hy with hy | hy
        · exact hl y (znt hy)
        · rcases List.mem_cons.1 hy with rfl | hy
          · rw [zpr,ej]; exact y2h ht (by omega) (by omega) (by omega)
          · obtain rfl:=List.mem_singleton.1 hy
            rw [zpr,ej]; exact y2r ht (by omega) (by omega) (by omega)
      · show ic left.length+1=ic (zdr left++[_,_]).length
        rw [List.length_append,z6d]
        simp only [ic,List.length_cons,List.length_nil]; omega
theorem y9j:∀ {l:List IV} {left out:List IV} {most:Int} {st:Int × Int} {lo:List IV × List IV},(∀ y∈left,(bxI y).good)→(∀ y∈out,(bxI y).good)→zzi l (ic left.length,most)=some st→zqc l (left,out)=some lo→∀ y∈lo.2,(bxI y).good
  | [],left,out,most,st,lo,_,ho,_,hp=>by
    obtain rfl:=Option.some.inj hp
    exact ho
  | x :: l,left,out,most,st,lo,hl,ho,hd,hp=>by
    rw [zzi] at hd
    rw [zqc] at hp
    cases h1:zdw (ic left.length,most) x with
    | none=>rw [h1] at hd; cases hd
    | some s1=>
      cases h2:zdv (left,out) x with
      | none=>rw [h2] at hp; cases hp
      | some l1=>
        rw [h1] at hd
        rw [h2] at hp
        obtain ⟨g1,g2,g3⟩:=zo0 hl ho h1 h2
        obtain ⟨a,b⟩:=l1
        obtain ⟨c,d⟩:=s1
        obtain rfl:c=ic a.length:=g3
        exact y9j g1 g2 hd hp
theorem zs2 {l:List IV} (h:zdx l > 0):∃ st,zzi l (1,1)=some st:=by
  unfold zdx at h
  cases hc:decide (ic l.length > 65536) with
  | true=>rw [hc,z01] at h; omega
  | false=>
    rw [hc,z03] at h
    cases hd:zzi l (1,1) with
    | none=>rw [hd] at h; exact absurd h (by decide)
    | some st=>exact ⟨st,rfl⟩
theorem ycm {b:Bx} (hb:b.good) {l outs:List IV} (h:psF b l=some outs):∀ y∈outs,(bxI y).good:=by
  unfold psF at h
  cases hd:decide (zdx l > 0) with
  | false=>rw [hd,z03] at h; cases h
  | true=>
    rw [hd,z01] at h
    obtain ⟨st,hst⟩:=zs2 (of_decide_eq_true hd)
    cases hp:zqc l ([b.I],[]) with
    | none=>rw [hp] at h; cases h
    | some lo=>
      rw [hp] at h
      obtain rfl:=Option.some.inj h
      refine y9j (left:=[b.I]) (out:=[]) (most:=1) (fun y hy=>?_) (fun y hy=>by cases hy) hst hp
      obtain rfl:=List.mem_singleton.1 hy
      rw [zpr]; exact hb
open Go Go.Proofs
def z7y (N:Nat):Env:=mkE [(37,z69),(43,z1t),(88,z1y)] [(3,⟨[0,4,5,6,7,8,9],[500],[⟨.tmp 9,500,151,true,yig⟩]⟩)] 88 N
open Go Go.Proofs
set_option maxRecDepth 100000
def zui (l O:List IV) (n:Nat) (lo hi:Int) (any:Bool):St:=⟨[(0,.list false [.int .u64] l),(4,.int .i64 0),(5,.int .i64 0),(6,.int .i64 lo),(7,.int .i64 hi),(8,.bool any),(9,.row 500 0 n)],[(500,some (.row true 151 true yig O))]⟩
abbrev yix:KP:=⟨[0,4,5,6,7,8,9],[500],[⟨.tmp 9,500,151,true,yig⟩]⟩
noncomputable abbrev yiv (N:Nat):Out→St→Res:=z08 0 (kSq (z7y N) (z0l z7z [1,1,1,1]) (z2w (z7y N) none [.tmp 4,.tmp 5] [[.int .i64],[.int .i64]]))
def eW (n:Nat):Int:=IntKind.wrap IntKind.i64 (ic (n - 0) - 1)
def eX (O:List IV) (n:Nat):IV:=O.getD (0+(eW n).toNat) default
def eWd (l:List IV) (x:IV):Int:=(l.getD (zm5 x).toNat default).toInt
theorem yfm (N:Nat) (l:List IV) (b:Bx):z16 (z7y N) z7z [.tmp 4,.tmp 5] [[.int .i64],[.int .i64]] [.list false [.int .u64] l,b.V] =
 lpE (z7y N) (z0l z7z [1,1,1,0,0,0]) yix N (zui l [ybk 0 b] 1 0 0 false) (yiv N):=by kernel_rfl
theorem yc8 (N:Nat) (l O:List IV) (n:Nat) (lo hi:Int) (any:Bool) (again:St→Res) (k:Out→St→Res):rnd (z7y N) (z0l z7z [1,1,1,0,0,0]) (zui l O n lo hi any) (z57 again yix k) =
 cond (decide (ic (n - 0) > 0)) (cond (decide (0≤eW n)&&decide (eW n < ic (n - 0))) (cond (decide (0≤eW n)&&decide (eW n≤ic (n - 0)))
 (cond (decide (0≤zm5 (eX O n))&&decide (zm5 (eX O n) < ic l.length))
 (cond (!(z7v (eWd l (eX O n)))) (again (zui l O (0+(eW n).toNat) lo hi any))
 (cond (ztu (eX O n)).emp (again (zui l O (0+(eW n).toNat) lo hi any))
 (cond (!(z07 (eWd l (eX O n))).lf)
 (cond (znf (z07 (eWd l (eX O n))).f) (cond (decide ((0+(eW n).toNat+2)*88≤z0d))
 (again (zui l (O.take (0+(eW n).toNat)++[ybk (z07 (eWd l (eX O n))).l ((ztu (eX O n)).cutL (z07 (eWd l (eX O n))).f (z07 (eWd l (eX O n))).a),ybk (z07 (eWd l (eX O n))).r ((ztu (eX O n)).cutH (z07 (eWd l (eX O n))).f (z07 (eWd l (eX O n))).a)]) (0+(eW n).toNat+2) lo hi any)) none) none)
 (cond (!any) (again (zui l O (0+(eW n).toNat) (min (z07 (eWd l (eX O n))).v (z07 (eWd l (eX O n))).v) (max (z07 (eWd l (eX O n))).v (z07 (eWd l (eX O n))).v) true))
 (again (zui l O (0+(eW n).toNat) (min lo (z07 (eWd l (eX O n))).v) (max hi (z07 (eWd l (eX O n))).v) any)))))) none) none) none)
 (k (.exit 0) (zui l O n lo hi any)):=by kernel_rfl
theorem yg3 (N:Nat) (l O:List IV) (n:Nat) (lo hi:Int) (any:Bool):yiv N (.exit 0) (zui l O n lo hi any)=some (.tup [.int .i64 lo,.int .i64 hi],[]):=by kernel_rfl
theorem zhy (N:Nat) {l:List IV} (hT:z6v l 4=true) {b:Bx} (hb:b.good):∀ (c:Nat) (O:List IV) (n:Nat) (lo hi:Int) (any:Bool),n≤O.length→EnI l b ⟨O.take n,lo,hi,any⟩→enW (O.take n) < c →
    lpE (z7y N) (z0l z7z [1,1,1,0,0,0]) yix c (zui l O n lo hi any) (yiv N)=some (.tup [.int .i64 (tLo l b),.int .i64 (tHi l b)],[])
  | 0,_,_,_,_,_,_,_,h=>absurd h (by omega)
  | c+1,O,0,lo,hi,any,hn,h,hc=>by
    obtain ⟨e1,e2⟩:=yhe hT hb.emp hb.ok h rfl
    replace e1:lo=tLo l b:=e1
    replace e2:hi=tHi l b:=e2
    rw [z0b,yc8,show decide (ic (0 - 0) > 0)=false from rfl,z03,yg3,e1,e2]
  | c+1,O,j+1,lo,hi,any,hn,h,hc=>by
    have ht:=zrl hT
    have hlen:(O.take (j+1)).length=j+1:=by rw [List.length_take]; omega
    have hl:0 < (En.mk (O.take (j+1)) lo hi any).todo.length:=by show 0 < (O.take (j+1)).length; omega
    have hd:=h.depth ht
    replace hd:(O.take (j+1)).length≤31:=hd
    have hs:=yfi ht h hl
    have hw:=ygh ht h hl
    have htop:z2p (O.take (j+1))=O.getD j default:=by
      unfold z2p
      rw [hlen,List.getD_eq_getElem?_getD,List.getD_eq_getElem?_getD,List.getElem?_take,if_pos (by omega)]
      rfl
    have hpop:zdr (O.take (j+1))=O.take j:=by
      unfold zdr
      rw [hlen,List.take_take]
      congr 1
      omega
    have ew:eW (j+1)=(j:Int):=by
      unfold eW
      rw [show ic (j+1 - 0) - 1=(j:Int) by simp only [ic]; omega]
      exact z12 (by omega) (by omega)
    have ej:0+(eW (j+1)).toNat=j:=by rw [ew]; omega
    have ex:eX O (j+1)=z2p (O.take (j+1)):=by unfold eX; rw [ej,htop]
    have ha:=h.at_ _ _ (zgx hl).2
    replace ha:((((O.take (j+1)).length - 1:Nat)):Int)≤zm5 (z2p (O.take (j+1)))∧zm5 (z2p (O.take (j+1))) < ic l.length:=ha
    have i1:decide (ic (j+1 - 0) > 0)=true:=decide_eq_true (by simp only [ic]; omega)
    have i2:(decide (0≤eW (j+1))&&decide (eW (j+1) < ic (j+1 - 0)))=true:=by rw [ew,decide_eq_true (by omega),decide_eq_true (by simp only [ic]; omega)]; rfl
    have i3:(decide (0≤eW (j+1))&&decide (eW (j+1)≤ic (j+1 - 0)))=true:=by rw [ew,decide_eq_true (by omega),decide_eq_true (by simp only [ic]; omega)]; rfl
    rw [z0b,yc8,i1,z01,i2,z01,i3,z01,ej,ex,decide_eq_true (show 0≤zm5 (z2p (O.take (j+1))) by omega),decide_eq_true ha.2,Bool.and_self,z01]
    unfold y2j at hs hw
    simp only [z8i,hpop] at hs hw
    have eWdef:eWd l (z2p (O.take (j+1)))=(l.getD (zm5 (z2p (O.take (j+1)))).toNat default).toInt:=rfl
    rw [← eWdef] at hs hw
    have hfk:(z07 (eWd l (z2p (O.take (j+1))))).lf=false→znf (z07 (eWd l (z2p (O.take (j+1))))).f=true:=fun hf=>by
      have hk:(zm5 (z2p (O.take (j+1)))).toNat < l.length:=by have:=ha.2; simp only [ic] at this; omega
      have:=(ht.fork _ hk hf).1
      replace this:0≤(z07 (eWd l (z2p (O.take (j+1))))).f∧(z07 (eWd l (z2p (O.take (j+1))))).f < 4:=this
      unfold znf
      rw [decide_eq_true this.1,decide_eq_true (by omega)]
      rfl
    generalize eWd l (z2p (O.take (j+1)))=wd at hs hw hfk ⊢
    generalize ztu (z2p (O.take (j+1)))=vb at hs hw ⊢
    cases hnb:z7v wd with
    | false=>
      rw [Bool.not_false,z01]
      simp only [hnb,Bool.not_false,Bool.true_or,cond_true] at hs hw
      exact zhy N hT hb c O j lo hi any (by omega) hs (by omega)
    | true=>
      rw [Bool.not_true,z03]
      simp only [hnb,Bool.not_true,Bool.false_or] at hs hw
      cases he:vb.emp with
      | true=>
        rw [z01]
        simp only [he,cond_true] at hs hw
        exact zhy N hT hb c O j lo hi any (by omega) hs (by omega)
      | false=>
        rw [z03]
        simp only [he,cond_false] at hs hw
        cases hlf:(z07 wd).lf with
        | true=>
          rw [Bool.not_true,z03]
          simp only [hlf,Bool.not_true,cond_false] at hs hw
          cases any with
          | false=>
            rw [Bool.not_false,z01]
            exact zhy N hT hb c O j _ _ true (by omega) hs (by omega)
          | true=>
            rw [Bool.not_true,z03]
            exact zhy N hT hb c O j _ _ true (by omega) hs (by omega)
        | false=>
          rw [Bool.not_false,z01]
          simp only [hlf,Bool.not_false,cond_true] at hs hw
          have e2:∀ v1 v2:IV,(O.take j++[v1,v2]).take (j+2)=O.take j++[v1,v2]:=fun v1 v2=>List.take_of_length_le (by simp only [List.length_append,List.length_take,List.length_cons,List.length_nil]; omega)
          rw [hfk hlf,z01,decide_eq_true (show (j+2)*88≤z0d by unfold z0d; omega),z01]
          refine zhy N hT hb c _ (j+2) lo hi any (by simp only [List.length_append,List.length_take,List.length_cons,List.length_nil]; omega) ?_ ?_
          · rw [e2]; exact hs
          · rw [e2]; omega
set_option maxRecDepth 100000 in
theorem ztk:z3n PR B0 69 zad:=by
  refine z0o [(37,z69),(43,z1t),(88,z1y)] [(3,⟨[0,4,5,6,7,8,9],[500],[⟨.tmp 9,500,151,true,yig⟩]⟩)] zad [[.int .i64],[.int .i64]] Tryz.func69 y2i ⟨zes,z5j,z6e,trivial⟩ ?_
  intro vs r hwf h
  unfold zad at h
  split at h
  · rename_i l b
    replace h:=z2b h
    obtain ⟨b,rfl,h⟩:=h
    cases hg:(z6v l 4&&z4y b) with
    | false=>rw [hg] at h; simp [R.get] at h
    | true=>
    rw [hg,R.get_br,z01,R.get_ok] at h
    rw [Bool.and_eq_true] at hg
    refine ⟨3 ^ 31+1,(yfm (3 ^ 31+1) l b).trans ?_⟩
    rw [← h]
    have hgd:=zee.1 hg.2
    refine zhy (3 ^ 31+1) hg.1 hgd (3 ^ 31+1) [ybk 0 b] 1 0 0 false (Nat.le_refl _) (yhz (zrl hg.1) hgd.ok) ?_
    show enW [ybk 0 b] < 3 ^ 31+1
    unfold enW
    simp only [List.map_cons,List.map_nil,List.sum_cons,List.sum_nil,y4p]
    show 3 ^ 31+0 < 3 ^ 31+1
    omega
  · simp [R.get] at h
open Go Go.Proofs
def z82 (N:Nat):Env:=mkE [(37,z69),(9,z5o)] [(6,⟨[4,5,6,7,19,20,21],[500,501],[⟨.tmp 6,500,36,true,z6l⟩,⟨.tmp 7,501,36,true,z6l⟩]⟩)] 75 N
open Go Go.Proofs
set_option maxRecDepth 100000
def ycb (l L:List IV) (n:Nat) (out:List IV) (m:Nat) (i:Int):St:=⟨[(4,.zs),(5,.bool false),(6,.row 500 0 n),(7,.row 501 0 m),(19,.list true z0q l),(20,.int .i64 (ic l.length)),(21,.int .i64 i)],[(500,some (.row true 36 true z6l L)),(501,some (.row true 36 true z6l out))]⟩
abbrev yj7:KP:=⟨[4,5,6,7,19,20,21],[500,501],[⟨.tmp 6,500,36,true,z6l⟩,⟨.tmp 7,501,36,true,z6l⟩]⟩
def plK (p:Int) (f:Nat→Res):Res:=cond (decide (p=ic 0)) (f 0) (cond (decide (p=ic 1)) (f 1) (cond (decide (p=ic 2)) (f 2) (cond (decide (p=ic 3)) (f 3) (cond (decide (p=ic 4)) (f 4) none))))
def eW' (n:Nat):Int:=IntKind.wrap IntKind.i64 (ic (n - 0) - 1)
def pX (L:List IV) (n:Nat):IV:=L.getD (0+(eW' n).toNat) default
noncomputable abbrev kPs (N:Nat):Out→St→Res:=z08 0 (kSq (z82 N) (z0l z84 [1,1,1,1,1]) (z2w (z82 N) none [.tmp 4,.tmp 5] [[.list true z6l],[.bool]]))
theorem yj0 (N:Nat) (l:List IV) (b:Bx):z16 (z82 N) z84 [.tmp 4,.tmp 5] [[.list true z6l],[.bool]] [b.V,.list true z0q l] =
 cond (!decide (zdx l > 0)) (some (.tup [.list true z6l [],.bool false],[])) (lpE (z82 N) (z0l z84 [1,1,1,1,0,1,0,0]) yj7 N (ycb l [b.I] 1 [] 0 0) (kPs N)):=by kernel_rfl
theorem yj3 (N:Nat) (l L out:List IV) (n m:Nat) (i:Int):kPs N (.exit 0) (ycb l L n out m i)=some (.tup [.list true z6l (List.take m out),.bool true],[]):=by kernel_rfl
theorem ye7 (N:Nat) (l L out:List IV) (n m:Nat) (i:Int):kPs N .ret (ycb l L n out m i)=some (.tup [.list true z6l [],.bool false],[]):=by kernel_rfl
theorem yia (N:Nat) (l L out:List IV) (n m:Nat) (i:Int) (again:St→Res) (k:Out→St→Res):rnd (z82 N) (z0l z84 [1,1,1,1,0,1,0,0]) (ycb l L n out m i) (z57 again yj7 k) =
 cond (decide (i < ic l.length)) (cond (decide (0≤i)&&decide (i < ic l.length)) (cond (decide (0≤eW' n)&&decide (eW' n < ic (n - 0))) (cond (decide (0≤eW' n)&&decide (eW' n≤ic (n - 0)))
 (cond (z62 (l.getD i.toNat default)) (cond (decide ((m+1)*80≤z0d)) (again (ycb l L (0+(eW' n).toNat) (out.take m++[(bxI (pX L n)).I]) (m+1) (zds (i+1)))) none)
 (plK (z0t (l.getD i.toNat default)) fun j=>cond (decide (zbk (l.getD i.toNat default) < cI (pX L n) (2*j))) (k .ret (ycb l L (0+(eW' n).toNat) out m i))
 (plK (z0t (l.getD i.toNat default)) fun j=>cond (decide (zbk (l.getD i.toNat default)≥cI (pX L n) (2*j+1))) (k .ret (ycb l L (0+(eW' n).toNat) out m i))
 (cond (znf (z0t (l.getD i.toNat default))) (cond (decide ((0+(eW' n).toNat+2)*80≤z0d))
 (again (ycb l (L.take (0+(eW' n).toNat)++[((bxI (pX L n)).cutH (z0t (l.getD i.toNat default)) (zbk (l.getD i.toNat default))).I,((bxI (pX L n)).cutL (z0t (l.getD i.toNat default)) (zbk (l.getD i.toNat default))).I]) (0+(eW' n).toNat+2) out m (zds (i+1)))) none) none)))) none) none) none)
 (k (.exit 0) (ycb l L n out m i)):=by kernel_rfl
theorem yeh {p:Int} {a:Nat} (h:p=(a:Int)) (ha:a < 5) (f:Nat→Res):plK p f=f a:=by
  subst h
  match a,ha with
  | 0,_=>rfl
  | 1,_=>rfl
  | 2,_=>rfl
  | 3,_=>rfl
  | 4,_=>rfl
  | n+5,h=>omega
theorem yis (x:IV):∀ {a:Nat},a < 5→(bxI x).g a=⟨cI x (2*a),cI x (2*a+1)⟩
  | 0,_=>rfl
  | 1,_=>rfl
  | 2,_=>rfl
  | 3,_=>rfl
  | 4,_=>rfl
  | n+5,h=>by omega
def ygf (o:Option (List IV × List IV)):Res:=match o with
  | some lo=>some (.tup [.list true z6l lo.2,.bool true],[])
  | none=>some (.tup [.list true z6l [],.bool false],[])
theorem yc0 (N:Nat) (l:List IV) (hl:l.length≤65536):∀ (d c i:Nat) (L:List IV) (n:Nat) (out:List IV) (most:Int) (st:Int × Int),i+d=l.length→d < c→n≤L.length→n≤i+1→out.length≤i→zzi (l.drop i) (ic n,most)=some st →
    lpE (z82 N) (z0l z84 [1,1,1,1,0,1,0,0]) yj7 c (ycb l L n out out.length (i:Int)) (kPs N)=ygf (zqc (l.drop i) (L.take n,out))
  | d,0,_,_,_,_,_,_,_,h,_,_,_,_=>absurd h (by omega)
  | 0,c+1,i,L,n,out,most,st,hd,_,_,_,_,_=>by
    rw [z0b,yia,zcy (by omega),z03,List.drop_of_length_le (by omega),yj3,List.take_length]
    rfl
  | d+1,c+1,i,L,n,out,most,st,hd,hc,hn,hn2,ho,hdp=>by
    have hi:i < l.length:=by omega
    rw [List.drop_eq_getElem_cons hi,zzi] at hdp
    rw [z0b,yia,zb1 hi,z01,zjz,Bool.and_self,z01,zc7 hi,List.drop_eq_getElem_cons hi,zqc]
    have ei:zds ((i:Int)+1)=((i+1:Nat):Int):=z68 (by omega)
    rw [ei]
    generalize l[i]=x at hdp ⊢
    cases h1:zdw (ic n,most) x with
    | none=>rw [h1] at hdp; cases hdp
    | some s1=>
      rw [h1] at hdp
      obtain ⟨hne,hr,hcase⟩:=zze h1
      obtain ⟨j,rfl⟩:∃ j,n=j+1:=⟨n - 1,by simp only [ic] at hne; omega⟩
      have hlen:(L.take (j+1)).length=j+1:=by rw [List.length_take]; omega
      have htop:z2p (L.take (j+1))=L.getD j default:=by
        unfold z2p
        rw [hlen,List.getD_eq_getElem?_getD,List.getD_eq_getElem?_getD,List.getElem?_take,if_pos (by omega)]
        rfl
      have hpop:zdr (L.take (j+1))=L.take j:=by
        unfold zdr
        rw [hlen,List.take_take]
        congr 1
        omega
      have ew:eW' (j+1)=(j:Int):=by
        unfold eW'
        rw [show ic (j+1 - 0) - 1=(j:Int) by simp only [ic]; omega]
        exact z12 (by omega) (by omega)
      have ej:0+(eW' (j+1)).toNat=j:=by rw [ew]; omega
      have ex:pX L (j+1)=z2p (L.take (j+1)):=by unfold pX; rw [ej,htop]
      have i2:(decide (0≤eW' (j+1))&&decide (eW' (j+1) < ic (j+1 - 0)))=true:=by rw [ew,decide_eq_true (by omega),decide_eq_true (by simp only [ic]; omega)]; rfl
      have i3:(decide (0≤eW' (j+1))&&decide (eW' (j+1)≤ic (j+1 - 0)))=true:=by rw [ew,decide_eq_true (by omega),decide_eq_true (by simp only [ic]; omega)]; rfl
      have et:z2k (L.take (j+1))=bxI (z2p (L.take (j+1))):=rfl
      rw [i2,z01,i3,z01,ej,ex]
      unfold zdv
      simp only [hpop,et]
      generalize z2p (L.take (j+1))=y
      rcases hcase with ⟨hs,rfl⟩ | ⟨hs,rfl⟩
      · rw [hs,z01,z01,decide_eq_true (show (out.length+1)*80≤z0d by unfold z0d; omega),z01,List.take_length]
        have:=yc0 N l hl d c (i+1) L j (out++[(bxI y).I]) most st (by omega) (by omega) (by omega) (by omega) (by simp only [List.length_append,List.length_cons,List.length_nil]; omega) (by rw [show ic j=ic (j+1) - 1 by simp only [ic]; omega]; exact hdp)
        rw [show (out++[(bxI y).I]).length=out.length+1 by simp] at this
        exact this
      · have hpl:=zju hr hs
        obtain ⟨a,ha⟩:∃ a:Nat,z0t x=(a:Int):=⟨(z0t x).toNat,by omega⟩
        have ha5:a < 5:=by omega
        rw [hs,z03,z03,yeh ha ha5,yeh ha ha5]
        have eg:=yis y ha5
        rw [show (z0t x).toNat=a by omega,eg]
        show cond (decide (zbk x < cI y (2*a))) _ _=ygf (match cond (decide (zbk x < cI y (2*a))||decide (zbk x≥cI y (2*a+1))) none _ with | some st'=>zqc (l.drop (i+1)) st' | none=>none)
        cases decide (zbk x < cI y (2*a)) with
        | true=>rw [z01,ye7,Bool.true_or,z01]; rfl
        | false=>
          rw [z03,Bool.false_or]
          cases decide (zbk x≥cI y (2*a+1)) with
          | true=>rw [z01,ye7,z01]; rfl
          | false=>
            have hin:znf (z0t x)=true:=by unfold znf; rw [decide_eq_true hpl.1,decide_eq_true (by omega)]; rfl
            rw [z03,z03,hin,z01,decide_eq_true (show (j+2)*80≤z0d by unfold z0d; omega),z01]
            have e2:∀ v1 v2:IV,(L.take j++[v1,v2]).take (j+2)=L.take j++[v1,v2]:=fun v1 v2=>List.take_of_length_le (by simp only [List.length_append,List.length_take,List.length_cons,List.length_nil]; omega)
            have:=yc0 N l hl d c (i+1) (L.take j++[((bxI y).cutH (z0t x) (zbk x)).I,((bxI y).cutL (z0t x) (zbk x)).I]) (j+2) out (max most (ic (j+1)+1)) st (by omega) (by omega) (by simp only [List.length_append,List.length_take,List.length_cons,List.length_nil]; omega) (by omega) (by omega) (by rw [show ic (j+2)=ic (j+1)+1 by simp only [ic]; omega]; exact hdp)
            rw [e2] at this
            exact this
set_option maxRecDepth 100000 in
theorem ztt:z3n PR B0 22 zag:=by
  refine z0o [(37,z69),(9,z5o)] [(6,⟨[4,5,6,7,19,20,21],[500,501],[⟨.tmp 6,500,36,true,z6l⟩,⟨.tmp 7,501,36,true,z6l⟩]⟩)] zag [[.list true [.int .i64,.int .i64,.int .i64,.int .i64,.int .i64,.int .i64,.int .i64,.int .i64,.int .i64,.int .i64]],[.bool]] Tryz.func22 y2l ⟨zes,zgs,trivial⟩ ?_
  intro vs r hwf h
  unfold zag at h
  split at h
  · rename_i b l
    replace h:=z2b h
    obtain ⟨b,rfl,h⟩:=h
    rw [R.get_br] at h
    refine ⟨l.length+1,(yj0 (l.length+1) l b).trans ?_⟩
    cases hd:decide (zdx l > 0) with
    | false=>
      have e:psF b l=none:=by unfold psF; rw [hd,z03]
      rw [e] at h
      rw [Bool.not_false,z01]
      exact h
    | true=>
      obtain ⟨st,hst⟩:=zs2 (of_decide_eq_true hd)
      have hl:l.length≤65536:=by
        have:=of_decide_eq_true hd
        unfold zdx at this
        by_cases hc:ic l.length > 65536
        · rw [decide_eq_true hc,z01] at this; omega
        · simp only [ic] at hc; omega
      have run:=yc0 (l.length+1) l hl l.length (l.length+1) 0 [b.I] 1 [] 1 st (by omega) (by omega) (Nat.le_refl _) (by omega) (Nat.le_refl _) hst
      rw [List.drop_zero] at run
      have e:psF b l=(zqc l ([b.I],[])).map (·.2):=by unfold psF; rw [hd,z01]
      rw [Bool.not_true,z03]
      refine Eq.trans run ?_
      show ygf (zqc l ([b.I],[]))=_
      rw [e] at h
      cases hp:zqc l ([b.I],[]) with
      | none=>rw [hp] at h; exact h
      | some lo=>rw [hp] at h; exact h
  · simp [R.get] at h
end Go.FM
