/-
  A small machine that reads a function of the program and reckons what a call of it comes to; what Go's library on the road comes to; the functions of the program, one by one. No conditions beyond each specification's own. (NORMAL FORMS: what the functions' runs come to (written by a, ask's FUNCTIONS COME TO WHAT IS SAID (3): Parse., THE NODES THAT copsekeep MAKES OF NUMBERS ARE A TREE'S: plai, and so on.)
-/
import Derived.Test.YtehhekmihbaghaaGreatDoorRb
import Derived.Test.YtehhekmihbaghaaGreatDoorRc
import Derived.Lib.AppendIntMem
import Derived.Deep.LoopGhost
import Derived.Lib.Walk
import Derived.Lib.SliceRun
set_option linter.all false
set_option maxRecDepth 100000
namespace Go.FM
open Go Go.Proofs
def z4q (N:Nat):Env:=mkE [(18,zct),(121,z8w),(119,zdz),(120,zaj),(118,z27),(104,z7n),(46,z2k)] [(9,⟨[0,2,3,4,5,7,8,9,45,46,47],[2,9],[]⟩)] 82 N
abbrev z40 (s0:ByteArray) (x3:Int) (b4:Bool) (l5:List IV) (x7 x8:Int) (l45:List IV) (x46 x47 u02 u03 u0a u0b u0c u0d u0e u0f u0g u0h u04 u05 u06 u07 u08:Int) (u00:Bool) (u09 u0i u0j u0q u0r u0s u0t u0u u0v u0w u0x u0k u0l u0m u0n u0o:Int) (u01:Bool) (u0p:Int):St:=⟨[(0,(.str s0)),(2,(.ptr 2 0 0)),(3,(.i x3)),(4,(.bool b4)),(5,(.list false [.str] l5)),(7,(.i x7)),(8,(.i x8)),(9,(.ptr 9 0 0)),(45,(.list false [.str] l45)),(46,(.i x46)),(47,(.i x47))],[(2,(some (.box [(.i u02),(.i u03),(.i u0a),(.i u0b),(.i u0c),(.i u0d),(.i u0e),(.i u0f),(.i u0g),(.i u0h),(.i u04),(.i u05),(.i u06),(.i u07),(.i u08),(.bool u00),(.i u09)]))),(9,(some (.box [(.i u0i),(.i u0j),(.i u0q),(.i u0r),(.i u0s),(.i u0t),(.i u0u),(.i u0v),(.i u0w),(.i u0x),(.i u0k),(.i u0l),(.i u0m),(.i u0n),(.i u0o),(.bool u01),(.i u0p)])))]⟩
theorem y1j (N:Nat) (s:ByteArray):z0y (z4q N) z64 [.cell 2 38,.tmp 3,.tmp 4] [[.int .i64,.int .i64,.int .i64,.int .i64,.int .i64,.int .i64,.int .i64,.int .i64,.int .i64,.int .i64,.int .i64,.int .i64,.int .i64,.int .i64,.int .i64,.bool,.int .i64],[.int .i64],[.bool]] [(.str s)]=(cond (decide (ByteArray.size s < 4294967281)&&decide (1≤ByteArray.size {data:=#[32]})) (cond (decide (zfc (List.map IV.str (z0p s {data:=#[32]})) {data:=#[105,110]} 0 < 0)) (some ((.tup [(.agg [(.i 0),(.i 0),(.i 0),(.i 0),(.i 0),(.i 0),(.i 0),(.i 0),(.i 0),(.i 0),(.i 0),(.i 0),(.i 0),(.i 0),(.i 0),(.bool false),(.i 0)]),(.i 0),(.bool false)]),[])) (cond (decide (IntKind.wrap IntKind.i64 (IntKind.wrap IntKind.i64 (IntKind.wrap IntKind.i64 (ic (List.length (List.map IV.str (z0p s {data:=#[32]}))) - 2) - zfc (List.map IV.str (z0p s {data:=#[32]})) {data:=#[105,110]} 0) - 1) < 1)) (some ((.tup [(.agg [(.i 0),(.i 0),(.i 0),(.i 0),(.i 0),(.i 0),(.i 0),(.i 0),(.i 0),(.i 0),(.i 0),(.i 0),(.i 0),(.i 0),(.i 0),(.bool false),(.i 0)]),(.i 0),(.bool false)]),[])) (cond (decide (IntKind.wrap IntKind.i64 (IntKind.wrap IntKind.i64 (IntKind.wrap IntKind.i64 (ic (List.length (List.map IV.str (z0p s {data:=#[32]}))) - 2) - zfc (List.map IV.str (z0p s {data:=#[32]})) {data:=#[105,110]} 0) - 1) > 4)) (some ((.tup [(.agg [(.i 0),(.i 0),(.i 0),(.i 0),(.i 0),(.i 0),(.i 0),(.i 0),(.i 0),(.i 0),(.i 0),(.i 0),(.i 0),(.i 0),(.i 0),(.bool false),(.i 0)]),(.i 0),(.bool false)]),[])) (cond (decide (0≤zfc (List.map IV.str (z0p s {data:=#[32]})) {data:=#[105,110]} 0)&&decide (zfc (List.map IV.str (z0p s {data:=#[32]})) {data:=#[105,110]} 0≤ic (List.length (List.map IV.str (z0p s {data:=#[32]}))))) (cond (decide (List.length (List.drop 0 (List.take (Int.toNat (zfc (List.map IV.str (z0p s {data:=#[32]})) {data:=#[105,110]} 0)) (List.map IV.str (z0p s {data:=#[32]}))))≤4294967290)&&List.all (List.drop 0 (List.take (Int.toNat (zfc (List.map IV.str (z0p s {data:=#[32]})) {data:=#[105,110]} 0)) (List.map IV.str (z0p s {data:=#[32]})))) fun x=>decide (ByteArray.size (IV.toStr x) < 4294967281)) (cond (decide (0≤IntKind.wrap IntKind.i64 (zfc (List.map IV.str (z0p s {data:=#[32]})) {data:=#[105,110]} 0+1))&&(decide (IntKind.wrap IntKind.i64 (zfc (List.map IV.str (z0p s {data:=#[32]})) {data:=#[105,110]} 0+1)≤IntKind.wrap IntKind.i64 (ic (List.length (List.map IV.str (z0p s {data:=#[32]}))) - 2))&&decide (IntKind.wrap IntKind.i64 (ic (List.length (List.map IV.str (z0p s {data:=#[32]}))) - 2)≤ic (List.length (List.map IV.str (z0p s {data:=#[32]})))))) (lpE (z4q N) (z0i z64 [1,1,1,1,1,1,1,0,1,0,0]) ⟨[0,2,3,4,5,7,8,9,45,46,47],[2,9],[]⟩ N (z40 s 0 false (List.map IV.str (z0p s {data:=#[32]})) (IntKind.wrap IntKind.i64 (ic (List.length (List.map IV.str (z0p s {data:=#[32]}))) - 2)) (IntKind.wrap IntKind.i64 (IntKind.wrap IntKind.i64 (IntKind.wrap IntKind.i64 (ic (List.length (List.map IV.str (z0p s {data:=#[32]}))) - 2) - zfc (List.map IV.str (z0p s {data:=#[32]})) {data:=#[105,110]} 0) - 1)) (List.drop (Int.toNat (IntKind.wrap IntKind.i64 (zfc (List.map IV.str (z0p s {data:=#[32]})) {data:=#[105,110]} 0+1))) (List.take (Int.toNat (IntKind.wrap IntKind.i64 (ic (List.length (List.map IV.str (z0p s {data:=#[32]}))) - 2))) (List.map IV.str (z0p s {data:=#[32]})))) (ic (List.length (List.drop (Int.toNat (IntKind.wrap IntKind.i64 (zfc (List.map IV.str (z0p s {data:=#[32]})) {data:=#[105,110]} 0+1))) (List.take (Int.toNat (IntKind.wrap IntKind.i64 (ic (List.length (List.map IV.str (z0p s {data:=#[32]}))) - 2))) (List.map IV.str (z0p s {data:=#[32]})))))) 0 0 0 0 0 0 0 0 0 0 0 0 0 0 0 0 false 0 (Qy.k (z2t (List.drop 0 (List.take (Int.toNat (zfc (List.map IV.str (z0p s {data:=#[32]})) {data:=#[105,110]} 0)) (List.map IV.str (z0p s {data:=#[32]})))))) (Qy.c (z2t (List.drop 0 (List.take (Int.toNat (zfc (List.map IV.str (z0p s {data:=#[32]})) {data:=#[105,110]} 0)) (List.map IV.str (z0p s {data:=#[32]})))))) (Qy.a0 (z2t (List.drop 0 (List.take (Int.toNat (zfc (List.map IV.str (z0p s {data:=#[32]})) {data:=#[105,110]} 0)) (List.map IV.str (z0p s {data:=#[32]})))))) (Qy.b0 (z2t (List.drop 0 (List.take (Int.toNat (zfc (List.map IV.str (z0p s {data:=#[32]})) {data:=#[105,110]} 0)) (List.map IV.str (z0p s {data:=#[32]})))))) (Qy.a1 (z2t (List.drop 0 (List.take (Int.toNat (zfc (List.map IV.str (z0p s {data:=#[32]})) {data:=#[105,110]} 0)) (List.map IV.str (z0p s {data:=#[32]})))))) (Qy.b1 (z2t (List.drop 0 (List.take (Int.toNat (zfc (List.map IV.str (z0p s {data:=#[32]})) {data:=#[105,110]} 0)) (List.map IV.str (z0p s {data:=#[32]})))))) (Qy.a2 (z2t (List.drop 0 (List.take (Int.toNat (zfc (List.map IV.str (z0p s {data:=#[32]})) {data:=#[105,110]} 0)) (List.map IV.str (z0p s {data:=#[32]})))))) (Qy.b2 (z2t (List.drop 0 (List.take (Int.toNat (zfc (List.map IV.str (z0p s {data:=#[32]})) {data:=#[105,110]} 0)) (List.map IV.str (z0p s {data:=#[32]})))))) (Qy.a3 (z2t (List.drop 0 (List.take (Int.toNat (zfc (List.map IV.str (z0p s {data:=#[32]})) {data:=#[105,110]} 0)) (List.map IV.str (z0p s {data:=#[32]})))))) (Qy.b3 (z2t (List.drop 0 (List.take (Int.toNat (zfc (List.map IV.str (z0p s {data:=#[32]})) {data:=#[105,110]} 0)) (List.map IV.str (z0p s {data:=#[32]})))))) (Qy.a4 (z2t (List.drop 0 (List.take (Int.toNat (zfc (List.map IV.str (z0p s {data:=#[32]})) {data:=#[105,110]} 0)) (List.map IV.str (z0p s {data:=#[32]})))))) (Qy.b4 (z2t (List.drop 0 (List.take (Int.toNat (zfc (List.map IV.str (z0p s {data:=#[32]})) {data:=#[105,110]} 0)) (List.map IV.str (z0p s {data:=#[32]})))))) (Qy.lo (z2t (List.drop 0 (List.take (Int.toNat (zfc (List.map IV.str (z0p s {data:=#[32]})) {data:=#[105,110]} 0)) (List.map IV.str (z0p s {data:=#[32]})))))) (Qy.hi (z2t (List.drop 0 (List.take (Int.toNat (zfc (List.map IV.str (z0p s {data:=#[32]})) {data:=#[105,110]} 0)) (List.map IV.str (z0p s {data:=#[32]})))))) (Qy.ft (z2t (List.drop 0 (List.take (Int.toNat (zfc (List.map IV.str (z0p s {data:=#[32]})) {data:=#[105,110]} 0)) (List.map IV.str (z0p s {data:=#[32]})))))) (Qy.fl (z2t (List.drop 0 (List.take (Int.toNat (zfc (List.map IV.str (z0p s {data:=#[32]})) {data:=#[105,110]} 0)) (List.map IV.str (z0p s {data:=#[32]})))))) (Qy.bu (z2t (List.drop 0 (List.take (Int.toNat (zfc (List.map IV.str (z0p s {data:=#[32]})) {data:=#[105,110]} 0)) (List.map IV.str (z0p s {data:=#[32]}))))))) (z06 0 (kSq (z4q N) (z0i z64 [1,1,1,1,1,1,1,1]) (z2v (z4q N) none [(ResultVar.cell 2 38),(ResultVar.tmp 3),(ResultVar.tmp 4)] [[(.int .i64),(.int .i64),(.int .i64),(.int .i64),(.int .i64),(.int .i64),(.int .i64),(.int .i64),(.int .i64),(.int .i64),(.int .i64),(.int .i64),(.int .i64),(.int .i64),(.int .i64),.bool,(.int .i64)],[(.int .i64)],[.bool]])))) none) none) none)))) none):=by kernel_rfl
theorem zix (N:Nat) (s0:ByteArray) (x3:Int) (b4:Bool) (l5:List IV) (x7 x8:Int) (l45:List IV) (x46 x47 u02 u03 u0a u0b u0c u0d u0e u0f u0g u0h u04 u05 u06 u07 u08:Int) (u00:Bool) (u09 u0i u0j u0q u0r u0s u0t u0u u0v u0w u0x u0k u0l u0m u0n u0o:Int) (u01:Bool) (u0p:Int) (again:St→Res) (k:Out→St→Res):rnd (z4q N) (z0i z64 [1,1,1,1,1,1,1,0,1,0,0]) (z40 s0 x3 b4 l5 x7 x8 l45 x46 x47 u02 u03 u0a u0b u0c u0d u0e u0f u0g u0h u04 u05 u06 u07 u08 u00 u09 u0i u0j u0q u0r u0s u0t u0u u0v u0w u0x u0k u0l u0m u0n u0o u01 u0p) (z3v again ⟨[0,2,3,4,5,7,8,9,45,46,47],[2,9],[]⟩ k)=(cond (decide (x47 < x46)) (cond (decide (0≤x47)&&decide (x47 < ic (List.length l45))) (cond (decide (ByteArray.size (IV.toStr (List.getD l45 (Int.toNat x47) default)) < 4294967281)) (cond (decide (ByteArray.size (cutL (IV.toStr (List.getD l45 (Int.toNat x47) default)) {data:=#[46,46]}) < 4294967281)) (cond (decide (ByteArray.size (zjz (IV.toStr (List.getD l45 (Int.toNat x47) default)) {data:=#[46,46]}) < 4294967281)) (cond (decide (x47=ic 0)) (again (z40 s0 x3 b4 l5 x7 x8 l45 x46 (IntKind.wrap IntKind.i64 (x47+1)) u02 u03 u0a u0b u0c u0d u0e u0f u0g u0h u04 u05 u06 u07 u08 u00 u09 u0i u0j (zi5 (cutL (IV.toStr (List.getD l45 (Int.toNat x47) default)) {data:=#[46,46]})) (zi5 (zjz (IV.toStr (List.getD l45 (Int.toNat x47) default)) {data:=#[46,46]})) u0s u0t u0u u0v u0w u0x u0k u0l u0m u0n u0o u01 u0p)) (cond (decide (x47=ic 1)) (again (z40 s0 x3 b4 l5 x7 x8 l45 x46 (IntKind.wrap IntKind.i64 (x47+1)) u02 u03 u0a u0b u0c u0d u0e u0f u0g u0h u04 u05 u06 u07 u08 u00 u09 u0i u0j u0q u0r (zi5 (cutL (IV.toStr (List.getD l45 (Int.toNat x47) default)) {data:=#[46,46]})) (zi5 (zjz (IV.toStr (List.getD l45 (Int.toNat x47) default)) {data:=#[46,46]})) u0u u0v u0w u0x u0k u0l u0m u0n u0o u01 u0p)) (cond (decide (x47=ic 2)) (again (z40 s0 x3 b4 l5 x7 x8 l45 x46 (IntKind.wrap IntKind.i64 (x47+1)) u02 u03 u0a u0b u0c u0d u0e u0f u0g u0h u04 u05 u06 u07 u08 u00 u09 u0i u0j u0q u0r u0s u0t (zi5 (cutL (IV.toStr (List.getD l45 (Int.toNat x47) default)) {data:=#[46,46]})) (zi5 (zjz (IV.toStr (List.getD l45 (Int.toNat x47) default)) {data:=#[46,46]})) u0w u0x u0k u0l u0m u0n u0o u01 u0p)) (cond (decide (x47=ic 3)) (again (z40 s0 x3 b4 l5 x7 x8 l45 x46 (IntKind.wrap IntKind.i64 (x47+1)) u02 u03 u0a u0b u0c u0d u0e u0f u0g u0h u04 u05 u06 u07 u08 u00 u09 u0i u0j u0q u0r u0s u0t u0u u0v (zi5 (cutL (IV.toStr (List.getD l45 (Int.toNat x47) default)) {data:=#[46,46]})) (zi5 (zjz (IV.toStr (List.getD l45 (Int.toNat x47) default)) {data:=#[46,46]})) u0k u0l u0m u0n u0o u01 u0p)) (cond (decide (x47=ic 4)) (again (z40 s0 x3 b4 l5 x7 x8 l45 x46 (IntKind.wrap IntKind.i64 (x47+1)) u02 u03 u0a u0b u0c u0d u0e u0f u0g u0h u04 u05 u06 u07 u08 u00 u09 u0i u0j u0q u0r u0s u0t u0u u0v u0w u0x (zi5 (cutL (IV.toStr (List.getD l45 (Int.toNat x47) default)) {data:=#[46,46]})) (zi5 (zjz (IV.toStr (List.getD l45 (Int.toNat x47) default)) {data:=#[46,46]})) u0m u0n u0o u01 u0p)) none))))) none) none) none) none) (k (.exit 0) (z40 s0 x3 b4 l5 x7 x8 l45 x46 x47 u02 u03 u0a u0b u0c u0d u0e u0f u0g u0h u04 u05 u06 u07 u08 u00 u09 u0i u0j u0q u0r u0s u0t u0u u0v u0w u0x u0k u0l u0m u0n u0o u01 u0p))):=by kernel_rfl
theorem zpc (N:Nat) (s0:ByteArray) (x3:Int) (b4:Bool) (l5:List IV) (x7 x8:Int) (l45:List IV) (x46 x47 u02 u03 u0a u0b u0c u0d u0e u0f u0g u0h u04 u05 u06 u07 u08:Int) (u00:Bool) (u09 u0i u0j u0q u0r u0s u0t u0u u0v u0w u0x u0k u0l u0m u0n u0o:Int) (u01:Bool) (u0p:Int):(z06 0 (kSq (z4q N) (z0i z64 [1,1,1,1,1,1,1,1]) (z2v (z4q N) none [(ResultVar.cell 2 38),(ResultVar.tmp 3),(ResultVar.tmp 4)] [[(.int .i64),(.int .i64),(.int .i64),(.int .i64),(.int .i64),(.int .i64),(.int .i64),(.int .i64),(.int .i64),(.int .i64),(.int .i64),(.int .i64),(.int .i64),(.int .i64),(.int .i64),.bool,(.int .i64)],[(.int .i64)],[.bool]]))) (.exit 0) (z40 s0 x3 b4 l5 x7 x8 l45 x46 x47 u02 u03 u0a u0b u0c u0d u0e u0f u0g u0h u04 u05 u06 u07 u08 u00 u09 u0i u0j u0q u0r u0s u0t u0u u0v u0w u0x u0k u0l u0m u0n u0o u01 u0p)=(cond (decide (0≤IntKind.wrap IntKind.i64 (x7+1))&&decide (IntKind.wrap IntKind.i64 (x7+1) < ic (List.length l5))) (cond (!ByteArray.toList (y36 {k:=u0i,c:=u0j,a0:=u0q,b0:=u0r,a1:=u0s,b1:=u0t,a2:=u0u,b2:=u0v,a3:=u0w,b3:=u0x,a4:=u0k,b4:=u0l,lo:=u0m,hi:=u0n,ft:=u0o,fl:=u01,bu:=z6m (IV.toStr (List.getD l5 (Int.toNat (IntKind.wrap IntKind.i64 (x7+1))) default))} x8)==ByteArray.toList s0) (some ((.tup [(.agg [(.i 0),(.i 0),(.i 0),(.i 0),(.i 0),(.i 0),(.i 0),(.i 0),(.i 0),(.i 0),(.i 0),(.i 0),(.i 0),(.i 0),(.i 0),(.bool false),(.i 0)]),(.i 0),(.bool false)]),[])) (some ((.tup [(.agg [(.i u0i),(.i u0j),(.i u0q),(.i u0r),(.i u0s),(.i u0t),(.i u0u),(.i u0v),(.i u0w),(.i u0x),(.i u0k),(.i u0l),(.i u0m),(.i u0n),(.i u0o),(.bool u01),(.i (z6m (IV.toStr (List.getD l5 (Int.toNat (IntKind.wrap IntKind.i64 (x7+1))) default))))]),(.i x8),(.bool true)]),[]))) none):=by kernel_rfl
open Go Go.Proofs
theorem yfr (l:List IV):(z2t l).a0=0∧(z2t l).b0=0∧(z2t l).a1=0∧(z2t l).b1=0∧(z2t l).a2=0∧(z2t l).b2=0∧(z2t l).a3=0∧(z2t l).b3=0∧(z2t l).a4=0∧(z2t l).b4=0∧(z2t l).bu=0:=by
 unfold z2t;cases ((wAt l 0).toList==zmf.toList) <;> cases ((wAt l 0).toList==zvk.toList) <;> cases ((wAt l 0).toList==zn6.toList||(wAt l 0).toList==zjo.toList) <;> exact ⟨rfl,rfl,rfl,rfl,rfl,rfl,rfl,rfl,rfl,rfl,rfl⟩
def rq (l:List IV) (i d:Nat):Qy:=
 ⟨(
  z2t (l.take i)).k,(z2t (l.take i)).c,
  cond (Nat.blt 0 d) (spA l (i+1)) 0,cond (Nat.blt 0 d) (spB l (i+1)) 0,cond (Nat.blt 1 d) (spA l (i+2)) 0,cond (Nat.blt 1 d) (spB l (i+2)) 0,cond (Nat.blt 2 d) (spA l (i+3)) 0,cond (Nat.blt 2 d) (spB l (i+3)) 0,cond (Nat.blt 3 d) (spA l (i+4)) 0,cond (Nat.blt 3 d) (spB l (i+4)) 0,0,0,
  (z2t (l.take i)).lo,(z2t (l.take i)).hi,(z2t (l.take i)).ft,(z2t (l.take i)).fl,0⟩
theorem ykm (l:List IV) (i:Nat):z2t (l.take i)=rq l i 0:=by
 obtain ⟨h1,h2,h3,h4,h5,h6,h7,h8,h9,h10,h11⟩:=yfr (l.take i);unfold rq;generalize z2t (l.take i)=q at *;cases q;simp only at *;subst h1 h2 h3 h4 h5 h6 h7 h8 h9 h10 h11
 rfl
abbrev stQ (s:ByteArray) (W:List IV) (x7 x8:Int) (L:List IV) (q:Qy) (i:Int):St:=
 ⟨[(0,(.str s)),(2,(.ptr 2 0 0)),(3,(.int .i64 0)),(4,(.bool false)),(5,(.list false [.str] W)),(7,(.int .i64 x7)),(8,(.int .i64 x8)),(9,(.ptr 9 0 0)),(45,(.list false [.str] L)),(46,(.int .i64 (ic L.length))),(47,(.int .i64 i))],[(2,(some (yjv Qy.none))),(9,(some (yjv q)))]⟩
theorem yi7 (w sep:ByteArray) (h:w.size < 4294967281):decide (ByteArray.size w < 4294967281)=true∧decide (ByteArray.size (cutL w sep) < 4294967281)=true∧decide (ByteArray.size (zjz w sep) < 4294967281)=true:=by
 obtain ⟨h1,h2⟩:=y1v w sep;exact ⟨v01 h,v01 (by omega),v01 (by omega)⟩
theorem y5c (N:Nat) (s:ByteArray) (W:List IV) (x7 x8:Int) (L:List IV) (I i:Nat) (hi:i < L.length) (h4:i < 4) (hL:IV.toStr (L.getD i default)=wAt W (I+1+i)) (hw:(wAt W (I+1+i)).size < 4294967281) (again:St→Res) (k:Out→St→Res) :
  rnd (z4q N) (z0i z64 [1,1,1,1,1,1,1,0,1,0,0]) (stQ s W x7 x8 L (rq W I i) (i:Int)) (z3v again ⟨[0,2,3,4,5,7,8,9,45,46,47],[2,9],[]⟩ k)=again (stQ s W x7 x8 L (rq W I (i+1)) ((i+1:Nat):Int)):=by
 refine (zix N s 0 false W x7 x8 L (ic L.length) i 0 0 0 0 0 0 0 0 0 0 0 0 0 0 0 false 0 (rq W I i).k (rq W I i).c (rq W I i).a0 (rq W I i).b0 (rq W I i).a1 (rq W I i).b1 (rq W I i).a2 (rq W I i).b2 (rq W I i).a3 (rq W I i).b3 (rq W I i).a4 (rq W I i).b4 (rq W I i).lo (rq W I i).hi (rq W I i).ft (rq W I i).fl (rq W I i).bu again k).trans ?_;rw [z9z hi,zg5,v1f,z00,z00,v0l,hL];obtain ⟨c1,c2,c3⟩:=yi7 (wAt W (I+1+i)) { data:=#[46,46] } hw;rw [c1,c2,c3,z00,z00,z00];have hi4:i=0∨i=1∨i=2∨i=3:=by omega
 rcases hi4 with rfl | rfl | rfl | rfl
 ·rw [show decide (((0:Nat):Int)=ic 0)=true from rfl,z00]
  rfl
 ·rw [show decide (((1:Nat):Int)=ic 0)=false from rfl,show decide (((1:Nat):Int)=ic 1)=true from rfl,z02,z00]
  rfl
 ·rw [show decide (((2:Nat):Int)=ic 0)=false from rfl,show decide (((2:Nat):Int)=ic 1)=false from rfl,show decide (((2:Nat):Int)=ic 2)=true from rfl,z02,z02,z00]
  rfl
 ·rw [show decide (((3:Nat):Int)=ic 0)=false from rfl,show decide (((3:Nat):Int)=ic 1)=false from rfl,show decide (((3:Nat):Int)=ic 2)=false from rfl,show decide (((3:Nat):Int)=ic 3)=true from rfl,z02,z02,z02,z00]
  rfl
theorem y1s (N:Nat) (s:ByteArray) (W:List IV) (x7 x8:Int) (L:List IV) (I:Nat) (h4:L.length≤4) (hL:∀ i,i < L.length→IV.toStr (L.getD i default)=wAt W (I+1+i)) (hw:∀ i,(wAt W i).size < 4294967281) (K:Out→St→Res) :
  ∀ (d i n:Nat),i+d=L.length→d < n →
   lpE (z4q N) (z0i z64 [1,1,1,1,1,1,1,0,1,0,0]) ⟨[0,2,3,4,5,7,8,9,45,46,47],[2,9],[]⟩ n (stQ s W x7 x8 L (rq W I i) (i:Int)) K=K (.exit 0) (stQ s W x7 x8 L (rq W I L.length) (ic L.length))
 | 0,i,n+1,hd,hn=>by
  have hi:i=L.length:=by omega
  subst hi;rw [z05];refine (zix N s 0 false W x7 x8 L (ic L.length) _ 0 0 0 0 0 0 0 0 0 0 0 0 0 0 0 false 0 (rq W I L.length).k (rq W I L.length).c (rq W I L.length).a0 (rq W I L.length).b0 (rq W I L.length).a1 (rq W I L.length).b1 (rq W I L.length).a2 (rq W I L.length).b2 (rq W I L.length).a3 (rq W I L.length).b3 (rq W I L.length).a4 (rq W I L.length).b4 (rq W I L.length).lo (rq W I L.length).hi (rq W I L.length).ft (rq W I L.length).fl (rq W I L.length).bu _ _).trans ?_;rw [zau (v08 _),z02]
  rfl
 | d+1,i,n+1,hd,hn=>by
  rw [z05,y5c N s W x7 x8 L I i (by omega) (by omega) (hL i (by omega)) (hw _)]
  exact y1s N s W x7 x8 L I h4 hL hw K d (i+1) n (by omega) (by omega)
 | _,_,0,_,h=>by omega
theorem y6b (w:ByteArray):∀ (l:List IV) (k:Int),0≤k→zfc l w k = -1∨(k≤zfc l w k∧zfc l w k < k+(l.length:Int))
 | [],_,_=>.inl rfl
 | x :: l,k,hk=>by
  unfold zfc;cases (w.toList==x.toStr.toList) with
  | true=>rw [z00]; exact .inr ⟨v2s _,by simp only [v05]; omega⟩
  | false=>
   rw [z02];rcases y6b w l (k+1) (by omega) with h | ⟨h1,h2⟩
   ·exact .inl h
   ·exact .inr ⟨by omega,by simp only [v05]; omega⟩
theorem y9c (s:ByteArray) (hs:s.size < 4294967281):(za6 s).length≤4294967282∧∀ i,(wAt (za6 s) i).size < 4294967281:=by
 have h1:=Lib.splitB_all z4k (by decide) 0 _ s rfl
 have h2:=Lib.countB_le z4k (by decide) s.size s (v08 _)
 refine ⟨?_,fun i=>?_⟩
 ·have e:(za6 s).length=Lib.countB s z4k+1:=by
   unfold za6 z0p;rw [v15];exact h1
  omega
 ·unfold wAt
  by_cases hi:i < (za6 s).length
  ·have:List.getD (za6 s) i default=(za6 s)[i]:=by simp [hi]
   rw [this];have hm:=v2o hi;unfold za6 at hm;obtain ⟨p,hp,hpe⟩:=List.mem_map.1 hm;have hz:=(z96 z4k _ s).2 p hp
   have:((za6 s)[i]).toStr=p:=by
    show (List.map IV.str (z0p s z4k))[i].toStr=p;rw [← hpe]
    rfl
   rw [this];omega
  ·have:List.getD (za6 s) i default=default:=by simp [List.getD,hi]
   rw [this]
   decide
theorem zyk:z2u PR B0 73 zcz:=by
 refine z0f [(18,zct),(121,z8w),(119,zdz),(120,zaj),(118,z27),(104,z7n),(46,z2k)] [(9,⟨[0,2,3,4,5,7,8,9,45,46,47],[2,9],[]⟩)] zcz
  [[.int .i64,.int .i64,.int .i64,.int .i64,.int .i64,.int .i64,.int .i64,.int .i64,.int .i64,.int .i64,.int .i64,.int .i64,.int .i64,.int .i64,.int .i64,.bool,.int .i64],[.int .i64],[.bool]] Tryz.func73 y61
  ⟨zz8,zky,y18,zom,zbs,zh0,z7l,trivial⟩ ?_
 intro vs r hwf h;unfold zcz at h
 split at h
 ·rename_i s
  refine ⟨20,?_⟩;cases hs:decide (s.size < 4294967281) with
  | false=>rw [hs] at h; simp [R.get] at h
  | true=>
   rw [hs,R.get_br,z00,R.get_ok] at h;rw [← h];refine (y1j 20 s).trans ?_;have hs':=v0d hs;rw [hs];obtain ⟨hl,hw⟩:=y9c s hs';have eW:List.map IV.str (z0p s { data:=#[32] })=za6 s:=rfl;have eI:zfc (za6 s) { data:=#[105,110] } 0=zp1 s:=rfl;rw [eW,eI,show decide (1≤ByteArray.size { data:=#[32] })=true from rfl,v1f,z00]
   have hr:=y6b yf7 (za6 s) 0 (v2s _)
   change zp1 s = -1∨(0≤zp1 s∧zp1 s < 0+((za6 s).length:Int)) at hr
   have w2:IntKind.wrap IntKind.i64 (ic (List.length (za6 s)) - 2)=ic (List.length (za6 s)) - 2:=z15 (by simp only [ic]; omega) (by simp only [ic]; omega)
   rw [w2];have wd:IntKind.wrap IntKind.i64 (IntKind.wrap IntKind.i64 (ic (List.length (za6 s)) - 2 - zp1 s) - 1)=zr8 s:=by
    unfold zr8;rw [z15 (n:=ic (List.length (za6 s)) - 2 - zp1 s) (by simp only [ic]; omega) (by simp only [ic]; omega),z15 (by simp only [ic]; omega) (by simp only [ic]; omega)]
   rw [wd];unfold zjy yg9 y4n;cases h1:decide (zp1 s < 0) with
   | true=>simp only [z00,z02,v0c,v0v]; rfl
   | false=>
    cases h2:decide (zr8 s < 1) with
    | true=>simp only [z00,z02,v0c,v0i,v0v,v2b]; rfl
    | false=>
     cases h3:decide (zr8 s > 4) with
     | true=>simp only [z00,z02,v0c,v0i,v0v,v2b]; rfl
     | false=>
      simp only [z02,v0i,v0r];have h1:=v0t h1;have h2:=v0t h2;have h3:=v0t h3;obtain ⟨I,hI⟩:∃ I:Nat,zp1 s=I:=⟨(zp1 s).toNat,by omega⟩
      obtain ⟨D,hD⟩:∃ D:Nat,zr8 s=D:=⟨(zr8 s).toNat,by omega⟩
      have hD1:1≤D:=by omega
      have hD4:D≤4:=by omega
      unfold yg5;have hDd:(D:Int)=((za6 s).length:Int) - 2 - I - 1:=by
       rw [← hD,← hI]
       rfl
      rw [hI,hD] at *;generalize za6 s=W at *;have wi:IntKind.wrap IntKind.i64 ((I:Int)+1)=((I+1:Nat):Int):=by rw [z15 (by omega) (by omega)]; rfl
      have eb:ic (List.length W) - 2=((W.length - 2:Nat):Int):=by simp only [ic]; omega
      rw [wi,eb];simp only [v0l,v11];have hall:List.all (List.take I W) (fun x=>decide (ByteArray.size (IV.toStr x) < 4294967281))=true:=by
       rw [v30];intro x hx;obtain ⟨j,hj,rfl⟩:=List.mem_iff_getElem.1 (v2m hx)
       have:=hw j
       unfold wAt at this;have e:List.getD W j default=W[j]:=by simp [hj]
       rw [e] at this;exact v01 this
      rw [hall,v01 (show (0:Int)≤(I:Int) by omega),v01 (show (I:Int)≤ic (List.length W) by simp only [ic]; omega),v01 (show List.length (List.take I W)≤4294967290 by rw [v0h]; omega),
       v01 (show (0:Int)≤((I+1:Nat):Int) by omega),v01 (show ((I+1:Nat):Int)≤((W.length - 2:Nat):Int) by omega),v01 (show ((W.length - 2:Nat):Int)≤ic (List.length W) by simp only [ic]; omega)]
      simp only [v1f,z00];have hLl:(List.drop (I+1) (List.take (W.length - 2) W)).length=D:=by rw [v1h,v0h]; omega
      have hLg:∀ i,i < (List.drop (I+1) (List.take (W.length - 2) W)).length→IV.toStr ((List.drop (I+1) (List.take (W.length - 2) W)).getD i default)=wAt W (I+1+i):=fun i hi=>by
       rw [hLl] at hi;unfold wAt
       congr 1
       simp only [List.getD,v1r,v0z];rw [v1c (by omega)]
      rw [ykm W I];have run:=y1s 20 s W ((W.length - 2:Nat):Int) (D:Int) (List.drop (I+1) (List.take (W.length - 2) W)) I (by rw [hLl]; exact hD4) hLg hw (z06 0 (kSq (z4q 20) (z0i z64 [1,1,1,1,1,1,1,1]) (z2v (z4q 20) none [(ResultVar.cell 2 38),(ResultVar.tmp 3),(ResultVar.tmp 4)] [[(.int .i64),(.int .i64),(.int .i64),(.int .i64),(.int .i64),(.int .i64),(.int .i64),(.int .i64),(.int .i64),(.int .i64),(.int .i64),(.int .i64),(.int .i64),(.int .i64),(.int .i64),.bool,(.int .i64)],[(.int .i64)],[.bool]]))) D 0 20 (by rw [hLl]; omega) (by omega)
      refine run.trans ?_;rw [hLl];refine (zpc 20 s 0 false W ((W.length - 2:Nat):Int) (D:Int) (List.drop (I+1) (List.take (W.length - 2) W)) (ic (List.drop (I+1) (List.take (W.length - 2) W)).length) _ 0 0 0 0 0 0 0 0 0 0 0 0 0 0 0 false 0 (rq W I D).k (rq W I D).c (rq W I D).a0 (rq W I D).b0 (rq W I D).a1 (rq W I D).b1 (rq W I D).a2 (rq W I D).b2 (rq W I D).a3 (rq W I D).b3 (rq W I D).a4 (rq W I D).b4 (rq W I D).lo (rq W I D).hi (rq W I D).ft (rq W I D).fl (rq W I D).bu).trans ?_;have e7:IntKind.wrap IntKind.i64 (((W.length - 2:Nat):Int)+1)=((W.length - 1:Nat):Int):=by rw [z15 (by omega) (by omega)]; omega
      rw [e7,v0l,v01 (show (0:Int)≤((W.length - 1:Nat):Int) by omega),v01 (show ((W.length - 1:Nat):Int) < ic (List.length W) by simp only [ic]; omega),v1f,z00]
      have eq:(⟨(rq W I D).k,(rq W I D).c,(rq W I D).a0,(rq W I D).b0,(rq W I D).a1,(rq W I D).b1,(rq W I D).a2,(rq W I D).b2,(rq W I D).a3,(rq W I D).b3,(rq W I D).a4,(rq W I D).b4,(rq W I D).lo,(rq W I D).hi,(rq W I D).ft,(rq W I D).fl,z6m (IV.toStr (List.getD W (W.length - 1) default))⟩:Qy)=yjj W I D:=rfl;rw [eq];cases ((y36 (yjj W I D) (D:Int)).toList==s.toList) with
      | false=>rfl
      | true=>rfl
 ·simp [R.get] at h
open Go
def nm (x:IV) (j:Nat):Nat:=cond (x.cell 0).toBool 0 ((if (x.cell 4).toInt=(j:Int) then 1 else 0)+(if (x.cell 5).toInt=(j:Int) then 1 else 0))
open Go
theorem zqc {w:Int} (h:zaf w=true):z7s (z04 w)=w∧zam (z04 w)=true:=by
 have hn:z04 w=zqv w:=by unfold z04; rw [h]; rfl
 unfold zaf at h;simp only [v02,v12,v1d,v1i] at h;rw [hn];refine ⟨h.2,?_⟩;cases hr:zam (zqv w) with
 | true=>rfl
 | false=>
  have:=h.2
  unfold z7s at this;rw [hr] at this;exact absurd this.symm h.1
def yi8 (d c:Int) (bias ts:List IV):Md:=⟨yk3 d,yjq c,ygb c bias 0,ygb c bias 1,ygb c bias 2,yi9 d c ts⟩
open Go
abbrev z2r:List Kd:=[.bool,.int .i64,.int .i64]
def zc1 (x:IV):Bool:=(x.cell 0).toBool
def z1k (x:IV):Int:=(x.cell 1).toInt
def zhv (x:IV):Int:=(x.cell 2).toInt
def yje (x y:IV):Bool:=zc1 x==zc1 y&&(z1k x==z1k y&&zhv x==zhv y)
def y77 (x:IV):Bool:=!(zc1 x&&!(z1k x==0&&zhv x==0))&&(decide (0≤z1k x)&&decide (z1k x≤4))
def zvm (l:List IV):Bool:=decide (1≤l.length)&&(decide (l.length≤65536)&&l.all y77)
def zat:z0n
 | [.list true [.bool,.int .i64,.int .i64] l]=>.ok (.bool (zvm l)) []
 | _=>.no
def zjq:List IV→List IV→Bool
 | [],[]=>true
 | x :: l,y :: m=>yje x y&&zjq l m
 | _,_=>false
structure Vd where
 kind:Int
 proof:List IV
 w0:Int
 w1:Int
 w2:Int
 w3:Int
 twin:Int
 spent:Int
def Vd.none:Vd:=⟨0,[],0,0,0,0,0,0⟩
def Vd.V (v:Vd):V:=.agg [.int .i64 v.kind,.list true z2r v.proof,.int .i64 v.w0,.int .i64 v.w1,.int .i64 v.w2,.int .i64 v.w3,.int .i64 v.twin,.int .i64 v.spent]
def Vd.bare (v:Vd):Bool:=v.w0==0&&(v.w1==0&&(v.w2==0&&(v.w3==0&&v.twin==0)))
def Vd.right (v:Vd):Bool:=
 decide (0≤v.spent)&&(decide (v.spent≤65536) &&
  (v.kind==1&&(v.bare&&zvm v.proof)||(v.kind==2&&v.proof.isEmpty||(v.kind==3||v.kind==4)&&(v.bare&&v.proof.isEmpty))))
def zb3:z0n
 | [.agg [.int .i64 k,.list true [.bool,.int .i64,.int .i64] p,.int .i64 a,.int .i64 b,.int .i64 c,.int .i64 d,.int .i64 t,.int .i64 s]]=>.ok (.bool (Vd.right ⟨k,p,a,b,c,d,t,s⟩)) []
 | _=>.no
def zu8:ByteArray→List IV→ByteArray
 | s,[]=>s
 | s,x :: l=>zu8 (s.push 32++z0l x.toInt) l
def z4m (s w:ByteArray) (l:List IV):ByteArray:=(zu8 (s++w) l).push 10
def zcv:z0n
 | [.bor [.bld s],.str w,.list false [.int .i64] l]=>.br (decide ((z4m s w l).size≤strMax)) (.ok (.tup []) [[.bld (z4m s w l)]]) .no
 | _=>.no
abbrev zxo:ByteArray:=⟨#[104,111,108,100,115]⟩
abbrev ygz:ByteArray:=⟨#[102,97,105,108,115]⟩
abbrev yd1:ByteArray:=⟨#[117,110,107,110,111,119,110]⟩
abbrev yh3:ByteArray:=⟨#[119,114,111,110,103]⟩
abbrev ygj:ByteArray:=⟨#[115,117,109]⟩
abbrev ygg:ByteArray:=⟨#[99,117,116]⟩
abbrev yda:ByteArray:=⟨#[10]⟩
abbrev z4p:ByteArray:=⟨#[]⟩
def z94:ByteArray→List IV→ByteArray
 | s,[]=>s
 | s,x :: l=>z94 (cond (zc1 x) (z4m s ygj []) (z4m s ygg [.int (z1k x),.int (zhv x)])) l
def z9u (v:Vd):ByteArray:=
 cond v.right
  (cond (v.kind==1) (z94 (z4m z4p zxo [.int v.spent,.int (ic v.proof.length)]) v.proof)
  (cond (v.kind==2) (z4m z4p ygz [.int v.spent,.int v.w0,.int v.w1,.int v.w2,.int v.w3,.int v.twin])
  (cond (v.kind==3) (z4m z4p yd1 [.int v.spent])
  (z4m z4p yh3 [.int v.spent]))))
  z4p
def zbc:z0n
 | [.agg [.int .i64 k,.list true [.bool,.int .i64,.int .i64] p,.int .i64 a,.int .i64 b,.int .i64 c,.int .i64 d,.int .i64 t,.int .i64 s]]=>
  .br (decide ((z9u ⟨k,p,a,b,c,d,t,s⟩).size≤strMax)) (.ok (.str (z9u ⟨k,p,a,b,c,d,t,s⟩)) []) .no
 | _=>.no
open Go
def Nd.cs (x:Nd):List FM.V:=[.bool x.lf,.int .i64 x.v,.int .i64 x.f,.int .i64 x.a,.int .i64 x.l,.int .i64 x.r]
def Nd.V (x:Nd):FM.V:=.agg x.cs
def Md.cs (m:Md):List FM.V:=[.int .i64 m.d,.int .i64 m.c,.int .i64 m.b0,.int .i64 m.b1,.int .i64 m.b2,.list true [.int .i64,.list false [.int .u64]] m.ts]
def Md.V (m:Md):FM.V:=.agg m.cs
def Qy.cs (q:Qy):List FM.V:=[.int .i64 q.k,.int .i64 q.c,.int .i64 q.a0,.int .i64 q.b0,.int .i64 q.a1,.int .i64 q.b1,.int .i64 q.a2,.int .i64 q.b2,.int .i64 q.a3,.int .i64 q.b3,.int .i64 q.a4,.int .i64 q.b4,.int .i64 q.lo,.int .i64 q.hi,.int .i64 q.ft,.bool q.fl,.int .i64 q.bu]
def Vd.cs (v:Vd):List FM.V:=[.int .i64 v.kind,.list true [.bool,.int .i64,.int .i64] v.proof,.int .i64 v.w0,.int .i64 v.w1,.int .i64 v.w2,.int .i64 v.w3,.int .i64 v.twin,.int .i64 v.spent]
def Ak.cs (a:Ak):List FM.V:=[.int .i64 a.k,.int .i64 a.c,.int .i64 a.lo,.int .i64 a.size,.int .i64 a.ft,.int .i64 a.bu,.bool a.fl,.list false [.int .i64] a.sp]
def Ak.V (a:Ak):FM.V:=.agg a.cs
structure Sp where
 lo:Int
 hi:Int
def Sp.cs (s:Sp):List FM.V:=[.int .i64 s.lo,.int .i64 s.hi]
def Sp.V (s:Sp):FM.V:=.agg s.cs
structure Bx where
 s0:Sp
 s1:Sp
 s2:Sp
 s3:Sp
 s4:Sp
def Bx.g (b:Bx):Nat→Sp
 | 0=>b.s0
 | 1=>b.s1
 | 2=>b.s2
 | 3=>b.s3
 | _=>b.s4
def Bx.p (b:Bx) (s:Sp):Nat→Bx
 | 0=>⟨s,b.s1,b.s2,b.s3,b.s4⟩
 | 1=>⟨b.s0,s,b.s2,b.s3,b.s4⟩
 | 2=>⟨b.s0,b.s1,s,b.s3,b.s4⟩
 | 3=>⟨b.s0,b.s1,b.s2,s,b.s4⟩
 | _=>⟨b.s0,b.s1,b.s2,b.s3,s⟩
def Bx.cs (b:Bx):List FM.V:=[.int .i64 b.s0.lo,.int .i64 b.s0.hi,.int .i64 b.s1.lo,.int .i64 b.s1.hi,.int .i64 b.s2.lo,.int .i64 b.s2.hi,.int .i64 b.s3.lo,.int .i64 b.s3.hi,.int .i64 b.s4.lo,.int .i64 b.s4.hi]
def Bx.V (b:Bx):FM.V:=.agg b.cs
structure Pt where
 p0:Int
 p1:Int
 p2:Int
 p3:Int
def Pt.cs (p:Pt):List FM.V:=[.int .i64 p.p0,.int .i64 p.p1,.int .i64 p.p2,.int .i64 p.p3]
def Pt.V (p:Pt):FM.V:=.agg p.cs
def Pt.g (p:Pt):Nat→Int
 | 0=>p.p0
 | 1=>p.p1
 | 2=>p.p2
 | _=>p.p3
def spOf?:List FM.V→Option Sp
 | [.int .i64 a,.int .i64 b]=>some ⟨a,b⟩
 | _=>none
def ptOf?:List FM.V→Option Pt
 | [.int .i64 a,.int .i64 b,.int .i64 c,.int .i64 d]=>some ⟨a,b,c,d⟩
 | _=>none
def bxOf?:List FM.V→Option Bx
 | [.int .i64 a0,.int .i64 b0,.int .i64 a1,.int .i64 b1,.int .i64 a2,.int .i64 b2,.int .i64 a3,.int .i64 b3,.int .i64 a4,.int .i64 b4]=>some ⟨⟨a0,b0⟩,⟨a1,b1⟩,⟨a2,b2⟩,⟨a3,b3⟩,⟨a4,b4⟩⟩
 | _=>none
def mdOf?:List FM.V→Option Md
 | [.int .i64 d,.int .i64 c,.int .i64 b0,.int .i64 b1,.int .i64 b2,.list true [.int .i64,.list false [.int .u64]] ts]=>some ⟨d,c,b0,b1,b2,ts⟩
 | _=>none
def qyOf?:List FM.V→Option Qy
 | [.int .i64 k,.int .i64 c,.int .i64 a0,.int .i64 b0,.int .i64 a1,.int .i64 b1,.int .i64 a2,.int .i64 b2,.int .i64 a3,.int .i64 b3,.int .i64 a4,.int .i64 b4,.int .i64 lo,.int .i64 hi,.int .i64 ft,.bool fl,.int .i64 bu]=>
  some ⟨k,c,a0,b0,a1,b1,a2,b2,a3,b3,a4,b4,lo,hi,ft,fl,bu⟩
 | _=>none
def vdOf?:List FM.V→Option Vd
 | [.int .i64 k,.list true [.bool,.int .i64,.int .i64] p,.int .i64 a,.int .i64 b,.int .i64 c,.int .i64 d,.int .i64 t,.int .i64 s]=>some ⟨k,p,a,b,c,d,t,s⟩
 | _=>none
def y0r {α:Type} (of:List FM.V→Option α) (v:FM.V) (k:α→R):R:=
 match v with
 | .agg l=>match of l with | some x=>k x | none=>.no
 | _=>.no
abbrev yds (v:FM.V) (k:Sp→R):R:=y0r spOf? v k
abbrev y27 (v:FM.V) (k:Pt→R):R:=y0r ptOf? v k
abbrev zd0 (v:FM.V) (k:Bx→R):R:=y0r bxOf? v k
abbrev zey (v:FM.V) (k:Md→R):R:=y0r mdOf? v k
abbrev ze2 (v:FM.V) (k:Qy→R):R:=y0r qyOf? v k
abbrev yie (v:FM.V) (k:Vd→R):R:=y0r vdOf? v k
theorem ze1 {α:Type} {of:List FM.V→Option α} {v:FM.V} {k:α→R} {z:FM.V × List (List FM.V)} (h:(y0r of v k).get=some z):∃ l x,v = .agg l∧of l=some x∧(k x).get=some z:=by
 unfold y0r at h
 split at h
 ·rename_i l
  split at h
  ·rename_i x hx
   exact ⟨l,x,rfl,hx,h⟩
  ·simp [R.get] at h
 ·simp [R.get] at h
theorem zqd {v:FM.V} {k:Sp→R} {z:FM.V × List (List FM.V)} (h:(yds v k).get=some z):∃ x:Sp,v=x.V∧(k x).get=some z:=by
 obtain ⟨l,x,rfl,hx,h⟩:=ze1 h;unfold spOf? at hx
 split at hx
 ·simp only [v00] at hx
  subst hx;exact ⟨_,rfl,h⟩
 ·cases hx
theorem zcr {v:FM.V} {k:Pt→R} {z:FM.V × List (List FM.V)} (h:(y27 v k).get=some z):∃ x:Pt,v=x.V∧(k x).get=some z:=by
 obtain ⟨l,x,rfl,hx,h⟩:=ze1 h;unfold ptOf? at hx
 split at hx
 ·simp only [v00] at hx
  subst hx;exact ⟨_,rfl,h⟩
 ·cases hx
theorem z2l {v:FM.V} {k:Bx→R} {z:FM.V × List (List FM.V)} (h:(zd0 v k).get=some z):∃ x:Bx,v=x.V∧(k x).get=some z:=by
 obtain ⟨l,x,rfl,hx,h⟩:=ze1 h;unfold bxOf? at hx
 split at hx
 ·simp only [v00] at hx
  subst hx;exact ⟨_,rfl,h⟩
 ·cases hx
theorem z3f {v:FM.V} {k:Md→R} {z:FM.V × List (List FM.V)} (h:(zey v k).get=some z):∃ x:Md,v=x.V∧(k x).get=some z:=by
 obtain ⟨l,x,rfl,hx,h⟩:=ze1 h;unfold mdOf? at hx
 split at hx
 ·simp only [v00] at hx
  subst hx;exact ⟨_,rfl,h⟩
 ·cases hx
theorem z2z {v:FM.V} {k:Qy→R} {z:FM.V × List (List FM.V)} (h:(ze2 v k).get=some z):∃ x:Qy,v=x.V∧(k x).get=some z:=by
 obtain ⟨l,x,rfl,hx,h⟩:=ze1 h;unfold qyOf? at hx
 split at hx
 ·simp only [v00] at hx
  subst hx;exact ⟨_,rfl,h⟩
 ·cases hx
theorem ybm {v:FM.V} {k:Vd→R} {z:FM.V × List (List FM.V)} (h:(yie v k).get=some z):∃ x:Vd,v=x.V∧(k x).get=some z:=by
 obtain ⟨l,x,rfl,hx,h⟩:=ze1 h;unfold vdOf? at hx
 split at hx
 ·simp only [v00] at hx
  subst hx;exact ⟨_,rfl,h⟩
 ·cases hx
def Sp.emp (s:Sp):Bool:=decide (s.lo > s.hi)
def Sp.has (s:Sp) (n:Int):Bool:=decide (s.lo≤n)&&decide (n≤s.hi)
def y9a (lo hi:Int):Sp:=cond (decide (lo > hi)) ⟨1,0⟩ ⟨lo,hi⟩
def Sp.cutL (s:Sp) (a:Int):Sp:=y9a s.lo (min s.hi a)
def Sp.cutH (s:Sp) (a:Int):Sp:=cond (decide (a≥s.hi)) ⟨1,0⟩ (y9a (max s.lo (zd2 (a+1))) s.hi)
def z8l:z0n
 | []=>.ok (.agg [.int .i64 1,.int .i64 0]) []
 | _=>.no
def zgy:z0n
 | [.int .i64 lo,.int .i64 hi]=>.ok (y9a lo hi).V []
 | _=>.no
def z7a:z0n
 | [s]=>yds s fun s=>.ok (.bool (s.emp)) []
 | _=>.no
def zac:z0n
 | [s,.int .i64 n]=>yds s fun s=>.ok (.bool (s.has n)) []
 | _=>.no
def zhj:z0n
 | [s,.int .i64 n]=>yds s fun s=>.ok (.tup [(s.cutL n).V,(s.cutH n).V]) []
 | _=>.no
def Bx.I (b:Bx):IV:=.agg [.int b.s0.lo,.int b.s0.hi,.int b.s1.lo,.int b.s1.hi,.int b.s2.lo,.int b.s2.hi,.int b.s3.lo,.int b.s3.hi,.int b.s4.lo,.int b.s4.hi]
abbrev cI (x:IV) (j:Nat):Int:=(x.cell j).toInt
def bxI (x:IV):Bx:=⟨⟨cI x 0,cI x 1⟩,⟨cI x 2,cI x 3⟩,⟨cI x 4,cI x 5⟩,⟨cI x 6,cI x 7⟩,⟨cI x 8,cI x 9⟩⟩
abbrev za2:List Kd:=[.int .i64,.int .i64,.int .i64,.int .i64,.int .i64,.int .i64,.int .i64,.int .i64,.int .i64,.int .i64]
def Bx.emp (b:Bx):Bool:=b.s0.emp||(b.s1.emp||(b.s2.emp||(b.s3.emp||b.s4.emp)))
def bx0:Bx:=⟨⟨0,0⟩,⟨0,0⟩,⟨0,0⟩,⟨0,0⟩,⟨0,0⟩⟩
def zma (i:Int):Bool:=decide (0≤i)&&decide (i < 5)
def Bx.cutL (b:Bx) (i a:Int):Bx:=b.p ((b.g i.toNat).cutL a) i.toNat
def Bx.cutH (b:Bx) (i a:Int):Bx:=b.p ((b.g i.toNat).cutH a) i.toNat
def Pt.p (p:Pt) (x:Int):Nat→Pt
 | 0=>⟨x,p.p1,p.p2,p.p3⟩
 | 1=>⟨p.p0,x,p.p2,p.p3⟩
 | 2=>⟨p.p0,p.p1,x,p.p3⟩
 | _=>⟨p.p0,p.p1,p.p2,x⟩
def Bx.low (b:Bx):Pt:=⟨b.s0.lo,b.s1.lo,b.s2.lo,b.s3.lo⟩
def Bx.has (b:Bx) (p:Pt) (t:Int):Bool:=b.s0.has p.p0&&(b.s1.has p.p1&&(b.s2.has p.p2&&(b.s3.has p.p3&&b.s4.has t)))
def z29:z0n
 | [b]=>zd0 b fun b=>.ok (.bool (b.emp)) []
 | _=>.no
def zhe:z0n
 | [b]=>zd0 b fun b=>.ok b.low.V []
 | _=>.no
def zg9:z0n
 | [b,p,.int .i64 t]=>zd0 b fun b=>y27 p fun p=>.ok (.bool (b.has p t)) []
 | _=>.no
def z74:z0n
 | [b,.int .i64 i,.int .i64 a]=>zd0 b fun b=>.br (zma i) (.ok (.tup [(b.cutL i a).V,(b.cutH i a).V]) []) .no
 | _=>.no
def zvt (l:List IV) (p:Pt):Nat→Int→Int × Nd
 | 0,_=>(-1,Nd.zero)
 | n+1,a=>
  cond (decide (a≥ic l.length)) (-1,Nd.zero)
   (cond (!(zaf (l.getD a.toNat default).toInt)) (-1,Nd.zero)
    (cond (z04 (l.getD a.toNat default).toInt).lf (a,z04 (l.getD a.toNat default).toInt)
     (cond (decide (p.g (z04 (l.getD a.toNat default).toInt).f.toNat≤(z04 (l.getD a.toNat default).toInt).a)) (zvt l p n (z04 (l.getD a.toNat default).toInt).l) (zvt l p n (z04 (l.getD a.toNat default).toInt).r))))
def yjt (l:List IV) (p:Pt):Int:=(zvt l p 31 0).1
def ygh (l:List IV) (p:Pt):Nd:=(zvt l p 31 0).2
def ze4:z0n
 | [.list false [.int .u64] l,p]=>y27 p fun p=>.ok (.tup [.int .i64 (yjt l p),(ygh l p).V]) []
 | _=>.no
def zpg (l:List IV) (p:Pt):Int:=(ygh l p).v
def zav:z0n
 | [.list false [.int .u64] l,p]=>y27 p fun p=>.ok (.int .i64 (zpg l p)) []
 | _=>.no
def zcn (m:Md) (c:Int):Int:=cond (c==0) m.b0 (cond (c==1) m.b1 m.b2)
abbrev yhl (t:IV):Int:=cI t 0
abbrev zdp (t:IV):List IV:=(t.cell 1).toList
def evF (c:Int) (p:Pt):List IV→Int→Int
 | [],s=>s
 | t :: r,s=>evF c p r (cond (yhl t==c) (s+zpg (zdp t) p) s)
def zbu (m:Md) (c:Int):Bool:=decide (0≤c)&&decide (c < m.c)
def zb0:z0n
 | [m,.int .i64 k,p]=>zey m fun m=>y27 p fun p=>.br (z26 m&&zbu m k) (.ok (.int .i64 (evF k p m.ts (zcn m k))) []) .no
 | _=>.no
def z6f (m:Md) (k:Int) (p:Pt):Int:=cond (z26 m&&zbu m k) (evF k p m.ts (zcn m k)) 0
def zbe:z0n
 | [m,.int .i64 k,p]=>zey m fun m=>y27 p fun p=>.ok (.int .i64 (z6f m k p)) []
 | _=>.no
def yh8 (x:Int):List Int→List Int
 | []=>[x]
 | y :: r=>cond (decide (x≤y)) (x :: y :: r) (y :: yh8 x r)
def zg2:List Int→List Int
 | []=>[]
 | x :: r=>yh8 x (zg2 r)
def y9i:Int→List Int→List Int
 | _,[]=>[]
 | p,x :: r=>cond (x==p) (y9i x r) (x :: y9i x r)
def y0g:List Int→List Int
 | []=>[]
 | x :: r=>x :: y9i x r
def ydl (f:Int) (w:IV):List Int:=cond (!(z04 w.toInt).lf&&(z04 w.toInt).f==f) [(z04 w.toInt).a] []
def zd7 (ts:List IV) (f:Int):List Int:=ts.flatMap fun t=>(zdp t).flatMap (ydl f)
def y4x (ts:List IV) (f:Int):List Int:=y0g (zg2 (zd7 ts f))
def iZ (l:List Int):List IV:=l.map IV.int
def z4z:z0n
 | [m,.int .i64 f]=>zey m fun m=>.br (z26 m) (.ok (.vec 3 false [.int .i64] (iZ (y4x m.ts f))) []) .no
 | _=>.no
def y70:Ip:=⟨3,false,fun rs l=>match rs with
 | []=>some (iZ (zg2 (l.map IV.toInt)))
 | _=>none⟩
def zkl:Ip:=⟨3,true,fun rs l=>match rs with
 | []=>some (iZ (y0g (l.map IV.toInt)))
 | _=>none⟩
def zmk (a b:Int) (l:List Int):List Int:=l.filter fun t=>!(decide (t < a)||decide (t≥b))
def zpo:Ip:=⟨3,true,fun rs l=>match rs with
 | [.clo f [.bor [.int .i64 a,.int .i64 b]]]=>cond (Nat.beq f 169) (some (iZ (zmk a b (l.map IV.toInt)))) none
 | _=>none⟩
def Qy.bx (q:Qy):Bx:=⟨⟨q.a0,q.b0⟩,⟨q.a1,q.b1⟩,⟨q.a2,q.b2⟩,⟨q.a3,q.b3⟩,⟨q.a4,q.b4⟩⟩
def y6i (d i:Int) (s:Sp):Bool:=!(decide (i≥d)&&!((s.lo==0)&&(s.hi==0)))&&(!s.emp&&(z1r s.lo&&z1r s.hi))
def zx7 (b:Bx) (d:Int):Bool:=y6i d 0 b.s0&&(y6i d 1 b.s1&&(y6i d 2 b.s2&&(y6i d 3 b.s3&&y6i d 4 b.s4)))
def z8e:z0n
 | [b,.int .i64 d]=>zd0 b fun b=>.ok (.bool (zx7 b d)) []
 | _=>.no
def y20 (m:Md) (q:Qy):Bool:=
 cond (q.k==1) (decide (q.lo≤q.hi)&&((q.ft==0)&&!q.fl))
  (cond (q.k==2) (decide (m.c≥2)&&((q.lo==0)&&((q.hi==0)&&((q.ft==0)&&!q.fl))))
   (cond (q.k==3) (decide (q.ft≥0)&&(decide (q.ft < m.d)&&((q.lo==0)&&(q.hi==0)))) false))
def z3c (m:Md) (q:Qy):Bool:=z26 m&&(decide (q.c≥0)&&(decide (q.c < m.c)&&(decide (q.bu≥0)&&(decide (q.bu≤65536)&&(zx7 q.bx m.d&&y20 m q)))))
def z5j (q:Qy):Bool:=(q.k==3)&&(decide (q.ft≥0)&&decide (q.ft < 4))
def z9p (q:Qy):Bx:=q.bx.p (cond (z5j q) (q.bx.g q.ft.toNat) ⟨0,0⟩) 4
def z7v (q:Qy) (p:Pt) (t:Int):Pt:=cond (z5j q) (p.p t q.ft.toNat) p
def ye8 (m:Md) (q:Qy) (p:Pt) (own:Int):Bool:=(List.range m.c.toNat).any fun c=>!((c:Int)==q.c)&&decide (z6f m (c:Int) p≥own)
def z5o (m:Md) (q:Qy) (p:Pt) (t:Int):Bool:=
 z3c m q &&
  cond (q.k==1) (!(Sp.has ⟨q.lo,q.hi⟩ (z6f m q.c p)))
   (cond (q.k==2) (ye8 m q p (z6f m q.c p))
    (cond (decide (p.g q.ft.toNat≥t)) false
     (cond q.fl (decide (z6f m q.c (z7v q p t) > z6f m q.c p)) (decide (z6f m q.c (z7v q p t) < z6f m q.c p)))))
def zfn (n:Nd) (i:Nat) (own:List IV):List IV:=
 cond n.lf own ((own.set n.l.toNat ((bxI (own.getD i default)).cutL n.f n.a).I).set n.r.toNat ((bxI (own.getD i default)).cutH n.f n.a).I)
def pcI (b:Bx) (v:Int):IV:=.agg [.int b.s0.lo,.int b.s0.hi,.int b.s1.lo,.int b.s1.hi,.int b.s2.lo,.int b.s2.hi,.int b.s3.lo,.int b.s3.hi,.int b.s4.lo,.int b.s4.hi,.int v]
abbrev pcV (x:IV):Int:=cI x 10
abbrev zcy:List Kd:=[.int .i64,.int .i64,.int .i64,.int .i64,.int .i64,.int .i64,.int .i64,.int .i64,.int .i64,.int .i64,.int .i64]
def zmj:List IV→Nat→List IV→List IV→List IV
 | [],_,_,out=>out
 | w :: r,i,own,out=>zmj r (i+1) (zfn (z04 w.toInt) i own) (cond ((z04 w.toInt).lf&&!(bxI (own.getD i default)).emp) (out++[pcI (bxI (own.getD i default)) (z04 w.toInt).v]) out)
def z45 (l:List IV) (b:Bx):List IV:=cond (z8v l 4&&!b.emp) (zmj l 0 ((List.replicate l.length bx0.I).set 0 b.I) []) []
def z9m:z0n
 | [.list false [.int .u64] l,b]=>zd0 b fun b=>.ok (.list true zcy (z45 l b)) []
 | _=>.no
def y9w:List IV→Int→Int
 | [],a=>a
 | x :: r,a=>y9w r (min a (pcV x))
def y9u:List IV→Int→Int
 | [],a=>a
 | x :: r,a=>y9u r (max a (pcV x))
def yim (ps:List IV):Int:=y9w ps (pcV (ps.getD 0 default))
def yij (ps:List IV):Int:=y9u ps (pcV (ps.getD 0 default))
def tOK (l:List IV) (b:Bx):Bool:=!((z45 l b).isEmpty)
def tLo (l:List IV) (b:Bx):Int:=cond (tOK l b) (yim (z45 l b)) 0
def tHi (l:List IV) (b:Bx):Int:=cond (tOK l b) (yij (z45 l b)) 0
def zay:z0n
 | [.list false [.int .u64] l,b]=>zd0 b fun b=>.ok (.tup [.int .i64 (tLo l b),.int .i64 (tHi l b),.bool (tOK l b)]) []
 | _=>.no
def zwz (h:List IV→Int) (c:Int):List IV→Int→Int
 | [],s=>s
 | t :: r,s=>zwz h c r (cond (yhl t==c) (s+h (zdp t)) s)
def sOK (m:Md) (c:Int) (b:Bx):Bool:=z26 m&&(zbu m c&&!b.emp)
def sLo (m:Md) (c:Int) (b:Bx):Int:=cond (sOK m c b) (zwz (fun l=>tLo l b) c m.ts (zcn m c)) 0
def sHi (m:Md) (c:Int) (b:Bx):Int:=cond (sOK m c b) (zwz (fun l=>tHi l b) c m.ts (zcn m c)) 0
def z6b:z0n
 | [m,.int .i64 k,b]=>zey m fun m=>zd0 b fun b=>.ok (.tup [.int .i64 (sLo m k b),.int .i64 (sHi m k b),.bool (sOK m k b)]) []
 | _=>.no
def ztw (m:Md) (c lo:Int) (b:Bx):Nat→Int→Int→Bool→Int
 | 0,_,a,_=>a
 | n+1,i,a,z=>cond (i==c) (ztw m c lo b n (i+1) a z)
  (cond (!z||decide (lo - sHi m i b < a)) (ztw m c lo b n (i+1) (lo - sHi m i b) true) (ztw m c lo b n (i+1) a z))
def yby (m:Md) (c:Int) (b:Bx):Bool:=sOK m c b&&decide (m.c≥2)
def ygv (m:Md) (c:Int) (b:Bx):Int:=cond (yby m c b) (ztw m c (sLo m c b) b m.c.toNat 0 0 false) 0
def z8f:z0n
 | [m,.int .i64 k,b]=>zey m fun m=>zd0 b fun b=>.ok (.tup [.int .i64 (ygv m k b),.bool (yby m k b)]) []
 | _=>.no
def zdb (q:Qy) (b:Bx):Bx:=cond (z5j q) (b.p ⟨0,0⟩ 4) b
def z9g (q:Qy) (b:Bx):Bx:=cond (z5j q) ((b.p b.s4 q.ft.toNat).p ⟨0,0⟩ 4) b
def zh6 (q:Qy) (b:Bx):Bool:=z5j q&&(!b.emp&&decide ((b.g q.ft.toNat).lo < b.s4.hi))
def y9m (m:Md) (q:Qy) (b:Bx):Bool:=z5j q&&(sOK m q.c (zdb q b)&&sOK m q.c (z9g q b))
def yh4 (m:Md) (q:Qy) (b:Bx):Int:=cond (y9m m q b) (sLo m q.c (z9g q b) - sHi m q.c (zdb q b)) 0
def ygs (m:Md) (q:Qy) (b:Bx):Int:=cond (y9m m q b) (sHi m q.c (z9g q b) - sLo m q.c (zdb q b)) 0
def z49 (m:Md) (q:Qy) (b:Bx):Bool:=
 z3c m q &&
  cond b.emp true
   (cond (q.k==1) (sOK m q.c b&&(decide (q.lo≤sLo m q.c b)&&decide (sHi m q.c b≤q.hi)))
    (cond (q.k==2) (yby m q.c b&&decide (ygv m q.c b > 0))
     (cond (!(zh6 q b)) true
      (cond q.fl (y9m m q b&&decide (ygs m q b≤0)) (y9m m q b&&decide (yh4 m q b≥0))))))
def zr9 (q:Qy) (i:Int):Int:=cond (decide (i≥0)&&decide (i < 4)) i (cond ((i==4)&&(q.k==3)) q.ft (-1))
def zjs (m:Md) (q:Qy) (b:Bx) (i:Nat):List Int:=
 cond (decide (zr9 q (i:Int) < 0)) [] (zmk (b.g i).lo (b.g i).hi (y4x m.ts (zr9 q (i:Int))))
def spR (m:Md) (q:Qy) (b:Bx):Nat→Nat→Option (Int × Int)
 | 0,_=>none
 | n+1,i=>cond (decide ((zjs m q b i).length > 0)) (some ((i:Int),(zjs m q b i).getD (((zjs m q b i).length - 1) / 2) 0)) (spR m q b n (i+1))
def z2p (m:Md) (q:Qy) (b:Bx):Option (Int × Int):=spR m q b 5 0
def zas:z0n
 | [m,q]=>zey m fun m=>ze2 q fun q=>.ok (.bool (y20 m q)) []
 | _=>.no
def z2e:z0n
 | [m,q]=>zey m fun m=>ze2 q fun q=>.ok (.bool (z3c m q)) []
 | _=>.no
def z58:z0n
 | [q]=>ze2 q fun q=>.ok (.bool (z5j q)) []
 | _=>.no
def z2m:z0n
 | [q]=>ze2 q fun q=>.ok (.bool (z5j q)) []
 | _=>.no
def z63:z0n
 | [q]=>ze2 q fun q=>.ok (z9p q).V []
 | _=>.no
def z8d:z0n
 | [q,p,.int .i64 t]=>ze2 q fun q=>y27 p fun p=>.ok (z7v q p t).V []
 | _=>.no
def z5b:z0n
 | [m,q,p,.int .i64 t]=>zey m fun m=>ze2 q fun q=>y27 p fun p=>.ok (.bool (z5o m q p t)) []
 | _=>.no
def z7y:z0n
 | [q,b]=>ze2 q fun q=>zd0 b fun b=>.ok (zdb q b).V []
 | _=>.no
def z78:z0n
 | [q,b]=>ze2 q fun q=>zd0 b fun b=>.ok (z9g q b).V []
 | _=>.no
def z6k:z0n
 | [q,b]=>ze2 q fun q=>zd0 b fun b=>.ok (.bool (zh6 q b)) []
 | _=>.no
def z72:z0n
 | [m,q,b]=>zey m fun m=>ze2 q fun q=>zd0 b fun b=>.ok (.tup [.int .i64 (yh4 m q b),.int .i64 (ygs m q b),.bool (y9m m q b)]) []
 | _=>.no
def z9r:z0n
 | [m,q,b]=>zey m fun m=>ze2 q fun q=>zd0 b fun b=>.ok (.bool (z49 m q b)) []
 | _=>.no
def z9o:z0n
 | [b]=>zd0 b fun b=>.ok (.tup [b.low.V,.int .i64 b.s4.hi]) []
 | _=>.no
def z8a:z0n
 | [q,.int .i64 i]=>ze2 q fun q=>.ok (.int .i64 (zr9 q i)) []
 | _=>.no
def zci:z0n
 | [m,q,b,.int .i64 i]=>zey m fun m=>ze2 q fun q=>zd0 b fun b=>.br (z26 m&&zma i) (.ok (.list false [.int .i64] (iZ (zjs m q b i.toNat))) []) .no
 | _=>.no
def spI (o:Option (Int × Int)):Int:=match o with | none=>0 | some (i,_)=>i
def yaq (o:Option (Int × Int)):Int:=match o with | none=>0 | some (_,a)=>a
def zar:z0n
 | [m,q,b]=>zey m fun m=>ze2 q fun q=>zd0 b fun b=>.br (z26 m) (.ok (.tup [.int .i64 (spI (z2p m q b)),.int .i64 (yaq (z2p m q b)),.bool (z2p m q b).isSome]) []) .no
 | _=>.no
structure Sr where
 left:List IV
 proof:List IV
 v:Vd
 spent:Int
def stI (s:Bool) (p a:Int):IV:=.agg [.bool s,.int p,.int a]
def z6w (l:List IV):Bx:=bxI (l.getD (l.length - 1) default)
def zhz (l:List IV):List IV:=l.take (l.length - 1)
def zfy (m:Md) (q:Qy) (s:Sr):Sr:=
 cond (z49 m q (z6w s.left)) ⟨zhz s.left,s.proof++[stI true 0 0],cond (ic (s.left.length - 1)==0) ⟨1,s.proof++[stI true 0 0],0,0,0,0,0,0⟩ s.v,s.spent+1⟩
  (cond (z5o m q (z6w s.left).low (z6w s.left).s4.hi) ⟨zhz s.left,s.proof,⟨2,[],(z6w s.left).s0.lo,(z6w s.left).s1.lo,(z6w s.left).s2.lo,(z6w s.left).s3.lo,(z6w s.left).s4.hi,0⟩,s.spent+1⟩
   (cond (z2p m q (z6w s.left)).isSome
    ⟨zhz s.left++[((z6w s.left).cutH (spI (z2p m q (z6w s.left))) (yaq (z2p m q (z6w s.left)))).I,((z6w s.left).cutL (spI (z2p m q (z6w s.left))) (yaq (z2p m q (z6w s.left)))).I],
     s.proof++[stI false (spI (z2p m q (z6w s.left))) (yaq (z2p m q (z6w s.left)))],s.v,s.spent+1⟩
    ⟨zhz s.left,s.proof,⟨3,[],0,0,0,0,0,0⟩,s.spent+1⟩))
def zml (q:Qy) (s:Sr):Bool:=!(s.v.kind==0)||decide (s.spent≥q.bu)
def ygr (m:Md) (q:Qy):Nat→Sr→Sr
 | 0,s=>s
 | n+1,s=>cond (zml q s) s (ygr m q n (zfy m q s))
def yk9 (m:Md) (q:Qy):Sr:=cond (z3c m q) ⟨[(z9p q).I],[],Vd.none,0⟩ ⟨[],[],⟨4,[],0,0,0,0,0,0⟩,0⟩
def y07 (s:Sr):Vd:=⟨cond (s.v.kind==0) 3 s.v.kind,s.v.proof,s.v.w0,s.v.w1,s.v.w2,s.v.w3,s.v.twin,s.spent⟩
def ya2 (m:Md) (q:Qy):Vd:=y07 (ygr m q (q.bu.toNat+1) (yk9 m q))
def zdq (m:Md) (q:Qy) (r:List FM.V):List FM.V:=m.cs++(q.cs++r)
def seOf? (l:List FM.V):Option (Md × Qy × List FM.V):=
 match mdOf? (l.take 6),qyOf? ((l.drop 6).take 17) with
 | some m,some q=>some (m,q,(l.drop 6).drop 17)
 | _,_=>none
abbrev yk0 (l:List IV):FM.V:=.vec 36 true za2 l
abbrev yk1 (l:List IV):FM.V:=.vec 127 true z2r l
abbrev yf0 (l:List IV):FM.V:=.list true z2r l
def vdT (v:Vd) (vp:FM.V) (sp:Int):List FM.V:=[.int .i64 v.kind,vp,.int .i64 v.w0,.int .i64 v.w1,.int .i64 v.w2,.int .i64 v.w3,.int .i64 v.twin,.int .i64 v.spent,.int .i64 sp]
def srV (t:Nat) (m:Md) (q:Qy) (s:Sr):List FM.V:=
 zdq m q (match t with
  | 0=>yk0 s.left :: yk1 s.proof :: vdT s.v .zs s.spent
  | 1=>yk0 s.left :: .zs :: vdT s.v .zs s.spent
  | 2=>yk0 s.left :: yf0 s.proof :: vdT s.v (yf0 s.v.proof) s.spent
  | _=>.zs :: .zs :: vdT s.v .zs s.spent)
def srT?:List FM.V→Option (Nat × Sr)
 | [.vec 36 true [.int .i64,.int .i64,.int .i64,.int .i64,.int .i64,.int .i64,.int .i64,.int .i64,.int .i64,.int .i64] l,.vec 127 true [.bool,.int .i64,.int .i64] p,.int .i64 k,.zs,.int .i64 a,.int .i64 b,.int .i64 c,.int .i64 d,.int .i64 t,.int .i64 vs,.int .i64 sp]=>some (0,⟨l,p,⟨k,[],a,b,c,d,t,vs⟩,sp⟩)
 | [.vec 36 true [.int .i64,.int .i64,.int .i64,.int .i64,.int .i64,.int .i64,.int .i64,.int .i64,.int .i64,.int .i64] l,.zs,.int .i64 k,.zs,.int .i64 a,.int .i64 b,.int .i64 c,.int .i64 d,.int .i64 t,.int .i64 vs,.int .i64 sp]=>some (1,⟨l,[],⟨k,[],a,b,c,d,t,vs⟩,sp⟩)
 | [.vec 36 true [.int .i64,.int .i64,.int .i64,.int .i64,.int .i64,.int .i64,.int .i64,.int .i64,.int .i64,.int .i64] l,.list true [.bool,.int .i64,.int .i64] p,.int .i64 k,.list true [.bool,.int .i64,.int .i64] vp,.int .i64 a,.int .i64 b,.int .i64 c,.int .i64 d,.int .i64 t,.int .i64 vs,.int .i64 sp]=>some (2,⟨l,p,⟨k,vp,a,b,c,d,t,vs⟩,sp⟩)
 | [.zs,.zs,.int .i64 k,.zs,.int .i64 a,.int .i64 b,.int .i64 c,.int .i64 d,.int .i64 t,.int .i64 vs,.int .i64 sp]=>some (3,⟨[],[],⟨k,[],a,b,c,d,t,vs⟩,sp⟩)
 | _=>none
def y6x (v:FM.V) (k:Nat→Md→Qy→Sr→R):R:=
 match v with
 | .bor l=>match seOf? l with
  | some (m,q,r)=>match srT? r with
   | some (t,s)=>k t m q s
   | none=>.no
  | none=>.no
 | _=>.no
def ydp (m:Md) (q:Qy) (t:Nat) (s:Sr):Nat:=
 cond (z49 m q (z6w s.left)) (cond (ic (s.left.length - 1)==0) 2 0)
  (cond (z5o m q (z6w s.left).low (z6w s.left).s4.hi) t (cond (z2p m q (z6w s.left)).isSome 0 t))
def zbj:z0n
 | [m,q]=>zey m fun m=>ze2 q fun q=>.br (z3c m q) (.ok (.bor (srV 1 m q ⟨[(z9p q).I],[],Vd.none,0⟩)) []) (.ok (.bor (srV 3 m q ⟨[],[],⟨4,[],0,0,0,0,0,0⟩,0⟩)) [])
 | _=>.no
def z3w:z0n
 | [x]=>y6x x fun t m q s=>
  .br (zml q s) (.ok (.bool false) [srV t m q s])
   (.br (Nat.ble t 1&&(z3c m q&&(decide (0≤s.spent)&&(Nat.blt 0 s.left.length&&(Nat.ble s.left.length 100000&&Nat.ble s.proof.length 100000)))))
    (.br (z49 m q (z6w s.left)) (.br (ic (s.left.length - 1)==0) (.ok (.bool true) [srV 2 m q (zfy m q s)]) (.ok (.bool true) [srV 0 m q (zfy m q s)]))
     (.br (z5o m q (z6w s.left).low (z6w s.left).s4.hi) (.ok (.bool true) [srV t m q (zfy m q s)])
      (.br (z2p m q (z6w s.left)).isSome (.ok (.bool true) [srV 0 m q (zfy m q s)]) (.ok (.bool true) [srV t m q (zfy m q s)])))) .no)
 | _=>.no
def z32:z0n
 | [x]=>y6x x fun t m q s=>.br (Nat.ble s.v.proof.length 100000) (.ok (y07 s).V [srV t m q s]) .no
 | _=>.no
def zbm:z0n
 | [m,q]=>zey m fun m=>ze2 q fun q=>.ok (ya2 m q).V []
 | _=>.no
def z2n:z0n
 | [.list true [.bool,.int .i64,.int .i64] l]=>.br (Nat.ble l.length 100000) (.ok (.vec 127 true z2r l) []) .no
 | _=>.no
open Go Go.Proofs
def y4q (N:Nat):Env:=mkE [] [] 2 N
theorem y3j (N:Nat):z0y (y4q N) zrj [.cell 0 34] [[.int .i64,.int .i64]] []=(some ((.agg [(.i 1),(.i 0)]),[])):=by kernel_rfl
def yb6 (N:Nat):Env:=mkE [(194,z8l)] [] 12 N
theorem y81 (N:Nat) (lo hi:Int):z0y (yb6 N) y1c [.cell 4 34] [[.int .i64,.int .i64]] [(.i lo),(.i hi)]=(cond (decide (lo > hi)) (some ((.agg [(.i 1),(.i 0)]),[])) (some ((.agg [(.i lo),(.i hi)]),[]))):=by kernel_rfl
def y35 (N:Nat):Env:=mkE [] [] 8 N
theorem zz3 (N:Nat) (s:Sp):z0y (y35 N) zo2 [.tmp 2] [[.bool]] [(Sp.V s)]=(some ((.bool (decide (Sp.lo s > Sp.hi s))),[])):=by kernel_rfl
def y85 (N:Nat):Env:=mkE [] [] 15 N
theorem y3x (N:Nat) (s:Sp) (n:Int):z0y (y85 N) zv3 [.tmp 4] [[.bool]] [(Sp.V s),(.i n)]=(cond (decide (Sp.lo s≤n)) (some ((.bool (decide (n≤Sp.hi s))),[])) (some ((.bool false),[]))):=by kernel_rfl
def y87 (N:Nat):Env:=mkE [(194,z8l),(193,zgy)] [] 29 N
theorem y3q (N:Nat) (s:Sp) (atv:Int):z0y (y87 N) zvh [.cell 4 34,.cell 5 34] [[.int .i64,.int .i64],[.int .i64,.int .i64]] [(Sp.V s),(.i atv)]=(cond (decide (atv≥Sp.hi s)) (some ((.tup [(Sp.V (y9a (Sp.lo s) (min (Sp.hi s) atv))),(.agg [(.i 1),(.i 0)])]),[])) (some ((.tup [(Sp.V (y9a (Sp.lo s) (min (Sp.hi s) atv))),(Sp.V (y9a (max (Sp.lo s) (IntKind.wrap IntKind.i64 (atv+1))) (Sp.hi s)))]),[]))):=by kernel_rfl
def z2j (N:Nat):Env:=mkE [(55,z1t)] [(3,⟨[0,3,4,5,6,9],[3,5],[]⟩)] 46 N
abbrev z28 (p:Pt) (l0:List IV) (x4 x6 x9:Int) (u00:Bool) (u01 u02 u03 u04 u05:Int):St:=⟨[(0,(.list false [(.int .u64)] l0)),(3,(.ptr 3 0 0)),(4,(.i x4)),(5,(.ptr 5 0 0)),(6,(.i x6)),(9,(.i x9))],[(3,(some (.box (Pt.cs p)))),(5,(some (.box [(.bool u00),(.i u01),(.i u02),(.i u03),(.i u04),(.i u05)])))]⟩
theorem y43 (N:Nat) (l:List IV) (p:Pt):z0y (z2j N) z4i [.tmp 4,.cell 5 111] [[.int .i64],[.bool,.int .i64,.int .i64,.int .i64,.int .i64,.int .i64]] [(.list false [.int .u64] l),(Pt.V p)]=(lpE (z2j N) (z0i z4i [1,1,0,1,0,0]) ⟨[0,3,4,5,6,9],[3,5],[]⟩ N (z28 p l 0 0 0 false 0 0 0 0 0) (z06 0 (kSq (z2j N) (z0i z4i [1,1,1]) (z2v (z2j N) none [(ResultVar.tmp 4),(ResultVar.cell 5 111)] [[(.int .i64)],[.bool,(.int .i64),(.int .i64),(.int .i64),(.int .i64),(.int .i64)]])))):=by kernel_rfl
theorem zkj (N:Nat) (p:Pt) (l0:List IV) (x4 x6 x9:Int) (u00:Bool) (u01 u02 u03 u04 u05:Int) (again:St→Res) (k:Out→St→Res):rnd (z2j N) (z0i z4i [1,1,0,1,0,0]) (z28 p l0 x4 x6 x9 u00 u01 u02 u03 u04 u05) (z3v again ⟨[0,3,4,5,6,9],[3,5],[]⟩ k)=(cond (decide (x9 < 31)) (cond (decide (x6≥ic (List.length l0))) (k (.exit 0) (z28 p l0 x4 x6 x9 u00 u01 u02 u03 u04 u05)) (cond (decide (0≤x6)&&decide (x6 < ic (List.length l0))) (cond (!zaf (IV.toInt (List.getD l0 (Int.toNat x6) default))) (k .ret (z28 p l0 (-1) x6 x9 false 0 0 0 0 0)) (cond (Nd.lf (z04 (IV.toInt (List.getD l0 (Int.toNat x6) default)))) (k .ret ⟨[(0,(.list false [(.int .u64)] l0)),(3,(.ptr 3 0 0)),(4,(.i x6)),(5,(.ptr 5 0 0)),(6,(.i x6)),(9,(.i x9))],[(3,(some (.box (Pt.cs p)))),(5,(some (.box (Nd.cs (z04 (IV.toInt (List.getD l0 (Int.toNat x6) default)))))))]⟩) (cond (decide (Nd.f (z04 (IV.toInt (List.getD l0 (Int.toNat x6) default)))=ic 0)) (cond (decide (Pt.p0 p≤Nd.a (z04 (IV.toInt (List.getD l0 (Int.toNat x6) default))))) (again (z28 p l0 x4 (Nd.l (z04 (IV.toInt (List.getD l0 (Int.toNat x6) default)))) (IntKind.wrap IntKind.i64 (x9+1)) u00 u01 u02 u03 u04 u05)) (again (z28 p l0 x4 (Nd.r (z04 (IV.toInt (List.getD l0 (Int.toNat x6) default)))) (IntKind.wrap IntKind.i64 (x9+1)) u00 u01 u02 u03 u04 u05))) (cond (decide (Nd.f (z04 (IV.toInt (List.getD l0 (Int.toNat x6) default)))=ic 1)) (cond (decide (Pt.p1 p≤Nd.a (z04 (IV.toInt (List.getD l0 (Int.toNat x6) default))))) (again (z28 p l0 x4 (Nd.l (z04 (IV.toInt (List.getD l0 (Int.toNat x6) default)))) (IntKind.wrap IntKind.i64 (x9+1)) u00 u01 u02 u03 u04 u05)) (again (z28 p l0 x4 (Nd.r (z04 (IV.toInt (List.getD l0 (Int.toNat x6) default)))) (IntKind.wrap IntKind.i64 (x9+1)) u00 u01 u02 u03 u04 u05))) (cond (decide (Nd.f (z04 (IV.toInt (List.getD l0 (Int.toNat x6) default)))=ic 2)) (cond (decide (Pt.p2 p≤Nd.a (z04 (IV.toInt (List.getD l0 (Int.toNat x6) default))))) (again (z28 p l0 x4 (Nd.l (z04 (IV.toInt (List.getD l0 (Int.toNat x6) default)))) (IntKind.wrap IntKind.i64 (x9+1)) u00 u01 u02 u03 u04 u05)) (again (z28 p l0 x4 (Nd.r (z04 (IV.toInt (List.getD l0 (Int.toNat x6) default)))) (IntKind.wrap IntKind.i64 (x9+1)) u00 u01 u02 u03 u04 u05))) (cond (decide (Nd.f (z04 (IV.toInt (List.getD l0 (Int.toNat x6) default)))=ic 3)) (cond (decide (Pt.p3 p≤Nd.a (z04 (IV.toInt (List.getD l0 (Int.toNat x6) default))))) (again (z28 p l0 x4 (Nd.l (z04 (IV.toInt (List.getD l0 (Int.toNat x6) default)))) (IntKind.wrap IntKind.i64 (x9+1)) u00 u01 u02 u03 u04 u05)) (again (z28 p l0 x4 (Nd.r (z04 (IV.toInt (List.getD l0 (Int.toNat x6) default)))) (IntKind.wrap IntKind.i64 (x9+1)) u00 u01 u02 u03 u04 u05))) none)))))) none)) (k (.exit 0) (z28 p l0 x4 x6 x9 u00 u01 u02 u03 u04 u05))):=by kernel_rfl
theorem zg8 (N:Nat) (p:Pt) (l0:List IV) (x4 x6 x9:Int) (u00:Bool) (u01 u02 u03 u04 u05:Int):(z06 0 (kSq (z2j N) (z0i z4i [1,1,1]) (z2v (z2j N) none [(ResultVar.tmp 4),(ResultVar.cell 5 111)] [[(.int .i64)],[.bool,(.int .i64),(.int .i64),(.int .i64),(.int .i64),(.int .i64)]]))) (.exit 0) (z28 p l0 x4 x6 x9 u00 u01 u02 u03 u04 u05)=(some ((.tup [(.i (-1)),(.agg [(.bool false),(.i 0),(.i 0),(.i 0),(.i 0),(.i 0)])]),[])):=by kernel_rfl
theorem zs2 (N:Nat) (p:Pt) (l0:List IV) (x4 x6 x9:Int) (u00:Bool) (u01 u02 u03 u04 u05:Int):(z06 0 (kSq (z2j N) (z0i z4i [1,1,1]) (z2v (z2j N) none [(ResultVar.tmp 4),(ResultVar.cell 5 111)] [[(.int .i64)],[.bool,(.int .i64),(.int .i64),(.int .i64),(.int .i64),(.int .i64)]]))) .ret (z28 p l0 x4 x6 x9 u00 u01 u02 u03 u04 u05)=(some ((.tup [(.i x4),(.agg [(.bool u00),(.i u01),(.i u02),(.i u03),(.i u04),(.i u05)])]),[])):=by kernel_rfl
def y2m (N:Nat):Env:=mkE [(217,ze4)] [] 15 N
theorem zy5 (N:Nat) (l:List IV) (p:Pt):z0y (y2m N) zo8 [.tmp 4] [[.int .i64]] [(.list false [.int .u64] l),(Pt.V p)]=(some ((.i (Nd.v (ygh l p))),[])):=by kernel_rfl
def z1y (N:Nat):Env:=mkE [(195,zav)] [(3,⟨[1,5,6,7,15,16,17],[5],[]⟩)] 33 N
abbrev z4e (p:Pt) (x1 x6 x7:Int) (l15:List IV) (x16 x17:Int):St:=⟨[(1,(.i x1)),(5,(.ptr 5 0 0)),(6,(.i x6)),(7,(.i x7)),(15,(.list true zji l15)),(16,(.i x16)),(17,(.i x17))],[(5,(some (.box (Pt.cs p))))]⟩
theorem zy2 (N:Nat) (m:Md) (u00:Int) (p:Pt):z0y (z1y N) z3d [.tmp 6] [[.int .i64]] [(Md.V m),(.i u00),(Pt.V p)]=(cond (decide (u00=ic 0)) (lpE (z1y N) (z0i z3d [1,1,0,1,0,0]) ⟨[1,5,6,7,15,16,17],[5],[]⟩ N (z4e p u00 0 (Md.b0 m) (Md.ts m) (ic (List.length (Md.ts m))) 0) (z06 0 (kSq (z1y N) (z0i z3d [1,1,1]) (z2v (z1y N) none [(ResultVar.tmp 6)] [[(.int .i64)]])))) (cond (decide (u00=ic 1)) (lpE (z1y N) (z0i z3d [1,1,0,1,0,0]) ⟨[1,5,6,7,15,16,17],[5],[]⟩ N (z4e p u00 0 (Md.b1 m) (Md.ts m) (ic (List.length (Md.ts m))) 0) (z06 0 (kSq (z1y N) (z0i z3d [1,1,1]) (z2v (z1y N) none [(ResultVar.tmp 6)] [[(.int .i64)]])))) (cond (decide (u00=ic 2)) (lpE (z1y N) (z0i z3d [1,1,0,1,0,0]) ⟨[1,5,6,7,15,16,17],[5],[]⟩ N (z4e p u00 0 (Md.b2 m) (Md.ts m) (ic (List.length (Md.ts m))) 0) (z06 0 (kSq (z1y N) (z0i z3d [1,1,1]) (z2v (z1y N) none [(ResultVar.tmp 6)] [[(.int .i64)]])))) none))):=by kernel_rfl
theorem zhg (N:Nat) (p:Pt) (x1 x6 x7:Int) (l15:List IV) (x16 x17:Int) (again:St→Res) (k:Out→St→Res):rnd (z1y N) (z0i z3d [1,1,0,1,0,0]) (z4e p x1 x6 x7 l15 x16 x17) (z3v again ⟨[1,5,6,7,15,16,17],[5],[]⟩ k)=(cond (decide (x17 < x16)) (cond (decide (0≤x17)&&decide (x17 < ic (List.length l15))) (cond (IV.toInt (IV.cell (List.getD l15 (Int.toNat x17) default) 0)==x1) (again (z4e p x1 x6 (IntKind.wrap IntKind.i64 (x7+zpg (IV.toList (IV.cell (List.getD l15 (Int.toNat x17) default) 1)) p)) l15 x16 (IntKind.wrap IntKind.i64 (x17+1)))) (again (z4e p x1 x6 x7 l15 x16 (IntKind.wrap IntKind.i64 (x17+1))))) none) (k (.exit 0) (z4e p x1 x6 x7 l15 x16 x17))):=by kernel_rfl
theorem zn4 (N:Nat) (p:Pt) (x1 x6 x7:Int) (l15:List IV) (x16 x17:Int):(z06 0 (kSq (z1y N) (z0i z3d [1,1,1]) (z2v (z1y N) none [(ResultVar.tmp 6)] [[(.int .i64)]]))) (.exit 0) (z4e p x1 x6 x7 l15 x16 x17)=(some ((.i x7),[])):=by kernel_rfl
def y2q (N:Nat):Env:=mkE [(53,z1u),(159,zb0)] [] 24 N
theorem zz1 (N:Nat) (m:Md) (u00:Int) (p:Pt):z0y (y2q N) zog [.tmp 6] [[.int .i64]] [(Md.V m),(.i u00),(Pt.V p)]=(cond (!z26 m) (some ((.i 0),[])) (cond (decide (u00 < 0)) (some ((.i 0),[])) (cond (decide (u00≥Md.c m)) (some ((.i 0),[])) (cond (z26 m&&zbu m u00) (some ((.i (evF u00 p (Md.ts m) (zcn m u00))),[])) none)))):=by kernel_rfl
def y5i (N:Nat):Env:=mkE [(155,z7a)] [(2,⟨[2,5,6],[],[]⟩)] 12 N
def yc5 (N:Nat):Env:=mkE [] [(3,⟨[1,2,3,5],[1,2,3],[]⟩)] 16 N
open Go Go.Proofs
def z12 (N:Nat):Env:=mkI [(53,z1u),(55,z1t)] [(202,zkl),(201,y70)] [(5,⟨[1,4,5,16,17,18],[500],[⟨.tmp 5,500,3,false,[.int .i64]⟩]⟩),(8,⟨[1,4,5,16,17,18,23,24,25],[500],[⟨.tmp 5,500,3,false,[.int .i64]⟩]⟩)] 54 N
abbrev z3y (x1:Int) (n5:Nat) (l16:List IV) (x17 x18:Int) (u00:List IV):St:=⟨[(1,(.i x1)),(4,.zs),(5,(.row 500 0 n5)),(16,(.list true zji l16)),(17,(.i x17)),(18,(.i x18))],[(500,(some (.row true 3 false [(.int .i64)] u00)))]⟩
abbrev z2g (x1:Int) (n5:Nat) (l16:List IV) (x17 x18:Int) (l23:List IV) (x24 x25:Int) (u00:List IV):St:=⟨[(1,(.i x1)),(4,.zs),(5,(.row 500 0 n5)),(16,(.list true zji l16)),(17,(.i x17)),(18,(.i x18)),(23,(.list false [(.int .u64)] l23)),(24,(.i x24)),(25,(.i x25))],[(500,(some (.row true 3 false [(.int .i64)] u00)))]⟩
theorem zjn (N:Nat) (m:Md) (u00:Int):z0y (z12 N) z19 [.tmp 4] [] [(Md.V m),(.i u00)]=(cond (!z26 m) (some (.any,[])) (lpE (z12 N) (z0i z19 [1,1,1,0,1,0,0]) ⟨[1,4,5,16,17,18],[500],[⟨(.tmp 5),500,3,false,[(.int .i64)]⟩]⟩ N (z3y u00 0 (Md.ts m) (ic (List.length (Md.ts m))) 0 []) (z06 0 (kSq (z12 N) (z0i z19 [1,1,1,1]) (z2v (z12 N) none [(ResultVar.tmp 4)] []))))):=by kernel_rfl
theorem zbh (N:Nat) (x1:Int) (n5:Nat) (l16:List IV) (x17 x18:Int) (u00:List IV) (again:St→Res) (k:Out→St→Res):rnd (z12 N) (z0i z19 [1,1,1,0,1,0,0]) (z3y x1 n5 l16 x17 x18 u00) (z3v again ⟨[1,4,5,16,17,18],[500],[⟨(.tmp 5),500,3,false,[(.int .i64)]⟩]⟩ k)=(cond (decide (x18 < x17)) (cond (decide (0≤x18)&&decide (x18 < ic (List.length l16))) (lpE (z12 N) (z0i z19 [1,1,1,0,1,0,0,1,1,0,0,1,1,0,0]) ⟨[1,4,5,16,17,18,23,24,25],[500],[⟨(.tmp 5),500,3,false,[(.int .i64)]⟩]⟩ N (z2g x1 n5 l16 x17 x18 (IV.toList (IV.cell (List.getD l16 (Int.toNat x18) default) 1)) (ic (List.length (IV.toList (IV.cell (List.getD l16 (Int.toNat x18) default) 1)))) 0 u00) (z06 2 (z06 1 (kSq (z12 N) (z0i z19 [1,1,1,0,1,0,0,1,1,1]) (z3v again ⟨[1,4,5,16,17,18],[500],[⟨(.tmp 5),500,3,false,[(.int .i64)]⟩]⟩ k))))) none) (k (.exit 0) (z3y x1 n5 l16 x17 x18 u00))):=by kernel_rfl
theorem zbi (N:Nat) (x1:Int) (n5:Nat) (l16:List IV) (x17 x18:Int) (l23:List IV) (x24 x25:Int) (u00:List IV) (again:St→Res) (k:Out→St→Res):rnd (z12 N) (z0i z19 [1,1,1,0,1,0,0,1,1,0,0,1,1,0,0]) (z2g x1 n5 l16 x17 x18 l23 x24 x25 u00) (z3v again ⟨[1,4,5,16,17,18,23,24,25],[500],[⟨(.tmp 5),500,3,false,[(.int .i64)]⟩]⟩ k)=(cond (decide (x25 < x24)) (cond (decide (0≤x25)&&decide (x25 < ic (List.length l23))) (cond (!Nd.lf (z04 (IV.toInt (List.getD l23 (Int.toNat x25) default)))) (cond (Nd.f (z04 (IV.toInt (List.getD l23 (Int.toNat x25) default)))==x1) (cond (decide ((n5+1)*8≤z09)) (again (z2g x1 (n5+1) l16 x17 x18 l23 x24 (IntKind.wrap IntKind.i64 (x25+1)) (List.take n5 u00++[IV.int (Nd.a (z04 (IV.toInt (List.getD l23 (Int.toNat x25) default))))]))) none) (again (z2g x1 n5 l16 x17 x18 l23 x24 (IntKind.wrap IntKind.i64 (x25+1)) u00))) (again (z2g x1 n5 l16 x17 x18 l23 x24 (IntKind.wrap IntKind.i64 (x25+1)) u00))) none) (k (.exit 2) (z2g x1 n5 l16 x17 x18 l23 x24 x25 u00))):=by kernel_rfl
theorem zf5 (N:Nat) (x1:Int) (n5:Nat) (l16:List IV) (x17 x18:Int) (u00:List IV):(z06 0 (kSq (z12 N) (z0i z19 [1,1,1,1]) (z2v (z12 N) none [(ResultVar.tmp 4)] []))) (.exit 0) (z3y x1 n5 l16 x17 x18 u00)=(cond (Nat.beq n5 (List.length u00)) (cond (Nat.beq (List.length (iZ (zg2 (List.map IV.toInt u00)))) (List.length u00)) (cond (Nat.beq n5 (List.length (iZ (zg2 (List.map IV.toInt u00))))) (cond (Nat.ble (List.length (iZ (y0g (List.map IV.toInt (iZ (zg2 (List.map IV.toInt u00))))))) (List.length (iZ (zg2 (List.map IV.toInt u00))))) (some ((.vec 3 false [(.int .i64)] (List.take (List.length (iZ (y0g (List.map IV.toInt (iZ (zg2 (List.map IV.toInt u00))))))) (iZ (y0g (List.map IV.toInt (iZ (zg2 (List.map IV.toInt u00)))))))),[])) none) none) none) none):=by kernel_rfl
theorem zet (N:Nat) (again:St→Res) (k:Out→St→Res) (x1:Int) (n5:Nat) (l16:List IV) (x17 x18:Int) (l23:List IV) (x24 x25:Int) (u00:List IV):(z06 2 (z06 1 (kSq (z12 N) (z0i z19 [1,1,1,0,1,0,0,1,1,1]) (z3v again ⟨[1,4,5,16,17,18],[500],[⟨(.tmp 5),500,3,false,[(.int .i64)]⟩]⟩ k)))) (.exit 2) (z2g x1 n5 l16 x17 x18 l23 x24 x25 u00)=(again (z3y x1 n5 l16 x17 (IntKind.wrap IntKind.i64 (x18+1)) u00)):=by kernel_rfl
def zuo (N:Nat):Env:=mkE [] [] 23 N
theorem zrw (N:Nat) (q:Qy) (u00:Int):z0y (zuo N) zii [.tmp 4] [[.int .i64]] [(Qy.V q),(.i u00)]=(cond (decide (u00≥0)) (cond (decide (u00 < 4)) (some ((.i u00),[])) (cond (u00==4) (cond (Qy.k q==3) (some ((.i (Qy.ft q)),[])) (some ((.i (-1)),[]))) (some ((.i (-1)),[])))) (cond (u00==4) (cond (Qy.k q==3) (some ((.i (Qy.ft q)),[])) (some ((.i (-1)),[]))) (some ((.i (-1)),[])))):=by kernel_rfl
def zr6 (N:Nat):Env:=mkI [(166,z8a),(168,z4z)] [(167,zpo)] [] 24 N
def zzq (N:Nat):Env:=mkE [] [] 71 N
theorem zys (N:Nat) (m:Md) (a1:Qy):z0y (zzq N) zol [.tmp 4] [[.bool]] [(Md.V m),(Qy.V a1)]=(cond (Qy.k a1==1) (cond (decide (Qy.lo a1≤Qy.hi a1)) (cond (Qy.ft a1==0) (some ((.bool (!Qy.fl a1)),[])) (some ((.bool false),[]))) (some ((.bool false),[]))) (cond (Qy.k a1==2) (cond (decide (Md.c m≥2)) (cond (Qy.lo a1==0) (cond (Qy.hi a1==0) (cond (Qy.ft a1==0) (some ((.bool (!Qy.fl a1)),[])) (some ((.bool false),[]))) (some ((.bool false),[]))) (some ((.bool false),[]))) (some ((.bool false),[]))) (cond (Qy.k a1==3) (cond (decide (Qy.ft a1≥0)) (cond (decide (Qy.ft a1 < Md.d m)) (cond (Qy.lo a1==0) (some ((.bool (Qy.hi a1==0)),[])) (some ((.bool false),[]))) (some ((.bool false),[]))) (some ((.bool false),[]))) (some ((.bool false),[]))))):=by kernel_rfl
def zy4 (N:Nat):Env:=mkE [(53,z1u),(108,zas),(107,z8e)] [] 41 N
theorem zu6 (N:Nat) (m:Md) (q:Qy):z0y (zy4 N) zk3 [.tmp 4] [[.bool]] [(Md.V m),(Qy.V q)]=(cond (z26 m) (cond (decide (Qy.c q≥0)) (cond (decide (Qy.c q < Md.c m)) (cond (decide (Qy.bu q≥0)) (cond (decide (Qy.bu q≤65536)) (cond (zx7 {s0:={lo:=Qy.a0 q,hi:=Qy.b0 q},s1:={lo:=Qy.a1 q,hi:=Qy.b1 q},s2:={lo:=Qy.a2 q,hi:=Qy.b2 q},s3:={lo:=Qy.a3 q,hi:=Qy.b3 q},s4:={lo:=Qy.a4 q,hi:=Qy.b4 q}} (Md.d m)) (some ((.bool (y20 m q)),[])) (some ((.bool false),[]))) (some ((.bool false),[]))) (some ((.bool false),[]))) (some ((.bool false),[]))) (some ((.bool false),[]))) (some ((.bool false),[]))):=by kernel_rfl
def zt2 (N:Nat):Env:=mkE [] [] 16 N
theorem zs0 (N:Nat) (q:Qy):z0y (zt2 N) ziz [.tmp 2] [[.bool]] [(Qy.V q)]=(cond (Qy.k q==3) (cond (decide (Qy.ft q≥0)) (some ((.bool (decide (Qy.ft q < 4))),[])) (some ((.bool false),[]))) (some ((.bool false),[]))):=by kernel_rfl
def zwk (N:Nat):Env:=mkE [(109,z58)] [] 16 N
theorem zu4 (N:Nat) (q:Qy):z0y (zwk N) zl4 [.cell 2 36] [[.int .i64,.int .i64,.int .i64,.int .i64,.int .i64,.int .i64,.int .i64,.int .i64,.int .i64,.int .i64]] [(Qy.V q)]=(cond (z5j q) (cond (decide (Qy.ft q=ic 0)) (some ((.agg [(.i (Qy.a0 q)),(.i (Qy.b0 q)),(.i (Qy.a1 q)),(.i (Qy.b1 q)),(.i (Qy.a2 q)),(.i (Qy.b2 q)),(.i (Qy.a3 q)),(.i (Qy.b3 q)),(.i (Qy.a0 q)),(.i (Qy.b0 q))]),[])) (cond (decide (Qy.ft q=ic 1)) (some ((.agg [(.i (Qy.a0 q)),(.i (Qy.b0 q)),(.i (Qy.a1 q)),(.i (Qy.b1 q)),(.i (Qy.a2 q)),(.i (Qy.b2 q)),(.i (Qy.a3 q)),(.i (Qy.b3 q)),(.i (Qy.a1 q)),(.i (Qy.b1 q))]),[])) (cond (decide (Qy.ft q=ic 2)) (some ((.agg [(.i (Qy.a0 q)),(.i (Qy.b0 q)),(.i (Qy.a1 q)),(.i (Qy.b1 q)),(.i (Qy.a2 q)),(.i (Qy.b2 q)),(.i (Qy.a3 q)),(.i (Qy.b3 q)),(.i (Qy.a2 q)),(.i (Qy.b2 q))]),[])) (cond (decide (Qy.ft q=ic 3)) (some ((.agg [(.i (Qy.a0 q)),(.i (Qy.b0 q)),(.i (Qy.a1 q)),(.i (Qy.b1 q)),(.i (Qy.a2 q)),(.i (Qy.b2 q)),(.i (Qy.a3 q)),(.i (Qy.b3 q)),(.i (Qy.a3 q)),(.i (Qy.b3 q))]),[])) (cond (decide (Qy.ft q=ic 4)) (some ((.agg [(.i (Qy.a0 q)),(.i (Qy.b0 q)),(.i (Qy.a1 q)),(.i (Qy.b1 q)),(.i (Qy.a2 q)),(.i (Qy.b2 q)),(.i (Qy.a3 q)),(.i (Qy.b3 q)),(.i 0),(.i 0)]),[])) none))))) (some ((.agg [(.i (Qy.a0 q)),(.i (Qy.b0 q)),(.i (Qy.a1 q)),(.i (Qy.b1 q)),(.i (Qy.a2 q)),(.i (Qy.b2 q)),(.i (Qy.a3 q)),(.i (Qy.b3 q)),(.i 0),(.i 0)]),[]))):=by kernel_rfl
def zth (N:Nat):Env:=mkE [(109,z58)] [] 14 N
theorem zqk (N:Nat) (q:Qy) (p:Pt) (twin:Int):z0y (zth N) zih [.cell 6 53] [[.int .i64,.int .i64,.int .i64,.int .i64]] [(Qy.V q),(Pt.V p),(.i twin)]=(cond (z5j q) (cond (decide (Qy.ft q=ic 0)) (some ((.agg [(.i twin),(.i (Pt.p1 p)),(.i (Pt.p2 p)),(.i (Pt.p3 p))]),[])) (cond (decide (Qy.ft q=ic 1)) (some ((.agg [(.i (Pt.p0 p)),(.i twin),(.i (Pt.p2 p)),(.i (Pt.p3 p))]),[])) (cond (decide (Qy.ft q=ic 2)) (some ((.agg [(.i (Pt.p0 p)),(.i (Pt.p1 p)),(.i twin),(.i (Pt.p3 p))]),[])) (cond (decide (Qy.ft q=ic 3)) (some ((.agg [(.i (Pt.p0 p)),(.i (Pt.p1 p)),(.i (Pt.p2 p)),(.i twin)]),[])) none)))) (some ((Pt.V p),[]))):=by kernel_rfl
def z1d (N:Nat):Env:=mkE [(115,zbe),(65,z2e),(116,z8d),(114,zac)] [(9,⟨[4,5,6,8,9,36,37],[4,5,6],[]⟩)] 75 N
abbrev z3a (m:Md) (a1:Qy) (a2:Pt) (b8:Bool) (x9 x36 x37:Int):St:=⟨[(4,(.ptr 4 0 0)),(5,(.ptr 5 0 0)),(6,(.ptr 6 0 0)),(8,(.bool b8)),(9,(.i x9)),(36,(.i x36)),(37,(.i x37))],[(4,(some (.box (Md.cs m)))),(5,(some (.box (Qy.cs a1)))),(6,(some (.box (Pt.cs a2))))]⟩
theorem zrv (N:Nat) (m:Md) (a1:Qy) (a2:Pt) (a3:Int):z0y (z1d N) z1v [.tmp 8] [[.bool]] [(Md.V m),(Qy.V a1),(Pt.V a2),(.i a3)]=(cond (!z3c m a1) (some ((.bool false),[])) (cond (Qy.k a1==1) (some ((.bool (!Sp.has {lo:=Qy.lo a1,hi:=Qy.hi a1} (z6f m (Qy.c a1) a2))),[])) (cond (Qy.k a1==2) (lpE (z1d N) (z0i z1v [1,1,1,0,1,0,1,1,1,0,0,1,0,0]) ⟨[4,5,6,8,9,36,37],[4,5,6],[]⟩ N (z3a m a1 a2 false (z6f m (Qy.c a1) a2) (Md.c m) 0) (z06 1 (kSq (z1d N) (z0i z1v [1,1,1,0,1,0,1,1,1,0,1]) (z06 0 (kSq (z1d N) (z0i z1v [1,1,1,1]) (z2v (z1d N) none [(ResultVar.tmp 8)] [[.bool]])))))) (cond (decide (Qy.ft a1=ic 0)) (cond (decide (Pt.p0 a2≥a3)) (some ((.bool false),[])) (cond (Qy.fl a1) (some ((.bool (decide (z6f m (Qy.c a1) (z7v a1 a2 a3) > z6f m (Qy.c a1) a2))),[])) (some ((.bool (decide (z6f m (Qy.c a1) (z7v a1 a2 a3) < z6f m (Qy.c a1) a2))),[])))) (cond (decide (Qy.ft a1=ic 1)) (cond (decide (Pt.p1 a2≥a3)) (some ((.bool false),[])) (cond (Qy.fl a1) (some ((.bool (decide (z6f m (Qy.c a1) (z7v a1 a2 a3) > z6f m (Qy.c a1) a2))),[])) (some ((.bool (decide (z6f m (Qy.c a1) (z7v a1 a2 a3) < z6f m (Qy.c a1) a2))),[])))) (cond (decide (Qy.ft a1=ic 2)) (cond (decide (Pt.p2 a2≥a3)) (some ((.bool false),[])) (cond (Qy.fl a1) (some ((.bool (decide (z6f m (Qy.c a1) (z7v a1 a2 a3) > z6f m (Qy.c a1) a2))),[])) (some ((.bool (decide (z6f m (Qy.c a1) (z7v a1 a2 a3) < z6f m (Qy.c a1) a2))),[])))) (cond (decide (Qy.ft a1=ic 3)) (cond (decide (Pt.p3 a2≥a3)) (some ((.bool false),[])) (cond (Qy.fl a1) (some ((.bool (decide (z6f m (Qy.c a1) (z7v a1 a2 a3) > z6f m (Qy.c a1) a2))),[])) (some ((.bool (decide (z6f m (Qy.c a1) (z7v a1 a2 a3) < z6f m (Qy.c a1) a2))),[])))) none))))))):=by kernel_rfl
theorem zdx (N:Nat) (m:Md) (a1:Qy) (a2:Pt) (b8:Bool) (x9 x36 x37:Int) (again:St→Res) (k:Out→St→Res):rnd (z1d N) (z0i z1v [1,1,1,0,1,0,1,1,1,0,0,1,0,0]) (z3a m a1 a2 b8 x9 x36 x37) (z3v again ⟨[4,5,6,8,9,36,37],[4,5,6],[]⟩ k)=(cond (decide (x37 < x36)) (cond (x37 != Qy.c a1) (cond (decide (z6f m x37 a2≥x9)) (k .ret (z3a m a1 a2 true x9 x36 x37)) (again (z3a m a1 a2 b8 x9 x36 (IntKind.wrap IntKind.i64 (x37+1))))) (again (z3a m a1 a2 b8 x9 x36 (IntKind.wrap IntKind.i64 (x37+1))))) (k (.exit 1) (z3a m a1 a2 b8 x9 x36 x37))):=by kernel_rfl
theorem zjh (N:Nat) (m:Md) (a1:Qy) (a2:Pt) (b8:Bool) (x9 x36 x37:Int):(z06 1 (kSq (z1d N) (z0i z1v [1,1,1,0,1,0,1,1,1,0,1]) (z06 0 (kSq (z1d N) (z0i z1v [1,1,1,1]) (z2v (z1d N) none [(ResultVar.tmp 8)] [[.bool]]))))) (.exit 1) (z3a m a1 a2 b8 x9 x36 x37)=(some ((.bool false),[])):=by kernel_rfl
theorem zjl (N:Nat) (m:Md) (a1:Qy) (a2:Pt) (b8:Bool) (x9 x36 x37:Int):(z06 1 (kSq (z1d N) (z0i z1v [1,1,1,0,1,0,1,1,1,0,1]) (z06 0 (kSq (z1d N) (z0i z1v [1,1,1,1]) (z2v (z1d N) none [(ResultVar.tmp 8)] [[.bool]]))))) .ret (z3a m a1 a2 b8 x9 x36 x37)=(some ((.bool b8),[])):=by kernel_rfl
def zu1 (N:Nat):Env:=mkE [(93,z6d),(155,z7a)] [(2,⟨[1,4,7,8],[],[]⟩)] 35 N
open Go Go.Proofs
def z3o (N:Nat):Env:=mkE [(111,z74),(112,z29),(55,z1t),(96,z7e)] [(7,⟨[4,5,6,24,25,26],[20,500],[⟨.tmp 6,500,275,true,[.int .i64,.int .i64,.int .i64,.int .i64,.int .i64,.int .i64,.int .i64,.int .i64,.int .i64,.int .i64,.int .i64]⟩]⟩)] 79 N
abbrev z4n (n5 n6:Nat) (l24:List IV) (x25 x26:Int) (lo20 u00:List IV):St:=⟨[(4,.zs),(5,(.row 20 0 n5)),(6,(.row 500 0 n6)),(24,(.list false [(.int .u64)] l24)),(25,(.i x25)),(26,(.i x26))],[(20,(some (.row true 36 true za2 lo20))),(500,(some (.row true 275 true zcy u00)))]⟩
theorem zt5 (N:Nat) (l:List IV) (a1:Bx):z0y (z3o N) z4x [.tmp 4] [[.list true [.int .i64,.int .i64,.int .i64,.int .i64,.int .i64,.int .i64,.int .i64,.int .i64,.int .i64,.int .i64,.int .i64]]] [(.list false [.int .u64] l),(Bx.V a1)]=(cond (!z8v l 4) (some ((.list true zcy []),[])) (cond (Bx.emp a1) (some ((.list true zcy []),[])) (cond (true&&(true&&decide (0≤ic (List.length l)))&&(decide (ic (List.length l)=ic (List.length l))&&decide (ic (List.length l)*ic 80≤ic z09))) (cond (decide (0≤0)&&decide (0 < ic (Int.toNat (ic (List.length l)) - 0))) (lpE (z3o N) (z0i z4x [1,1,1,1,1,0,1,0,0]) ⟨[4,5,6,24,25,26],[20,500],[⟨(.tmp 6),500,275,true,zcy⟩]⟩ N (z4n (Int.toNat (ic (List.length l))) 0 l (ic (List.length l)) 0 (List.set (List.replicate (Int.toNat (ic (List.length l))) (IV.agg [IV.int 0,IV.int 0,IV.int 0,IV.int 0,IV.int 0,IV.int 0,IV.int 0,IV.int 0,IV.int 0,IV.int 0])) 0 (Bx.I a1)) []) (z06 0 (kSq (z3o N) (z0i z4x [1,1,1,1,1,1]) (z2v (z3o N) none [(ResultVar.tmp 4)] [[(.list true zcy)]])))) none) none))):=by kernel_rfl
theorem zfu (N n5 n6:Nat) (l24:List IV) (x25 x26:Int) (lo20 u00:List IV) (again:St→Res) (k:Out→St→Res):rnd (z3o N) (z0i z4x [1,1,1,1,1,0,1,0,0]) (z4n n5 n6 l24 x25 x26 lo20 u00) (z3v again ⟨[4,5,6,24,25,26],[20,500],[⟨(.tmp 6),500,275,true,zcy⟩]⟩ k)=(cond (decide (x26 < x25)) (cond (decide (0≤x26)&&decide (x26 < ic (List.length l24))) (cond (!Nd.lf (z04 (IV.toInt (List.getD l24 (Int.toNat x26) default)))) (cond (decide (0≤x26)&&decide (x26 < ic (n5 - 0))) (cond (zma (Nd.f (z04 (IV.toInt (List.getD l24 (Int.toNat x26) default))))) (cond (decide (0≤Nd.l (z04 (IV.toInt (List.getD l24 (Int.toNat x26) default))))&&decide (Nd.l (z04 (IV.toInt (List.getD l24 (Int.toNat x26) default))) < ic (n5 - 0))) (cond (decide (0≤Nd.r (z04 (IV.toInt (List.getD l24 (Int.toNat x26) default))))&&decide (Nd.r (z04 (IV.toInt (List.getD l24 (Int.toNat x26) default))) < ic (n5 - 0))) (again (z4n n5 n6 l24 x25 (IntKind.wrap IntKind.i64 (x26+1)) (List.set (List.set lo20 (0+Int.toNat (Nd.l (z04 (IV.toInt (List.getD l24 (Int.toNat x26) default))))) (Bx.I (Bx.cutL (bxI (List.getD lo20 (0+Int.toNat x26) default)) (Nd.f (z04 (IV.toInt (List.getD l24 (Int.toNat x26) default)))) (Nd.a (z04 (IV.toInt (List.getD l24 (Int.toNat x26) default))))))) (0+Int.toNat (Nd.r (z04 (IV.toInt (List.getD l24 (Int.toNat x26) default))))) (Bx.I (Bx.cutH (bxI (List.getD lo20 (0+Int.toNat x26) default)) (Nd.f (z04 (IV.toInt (List.getD l24 (Int.toNat x26) default)))) (Nd.a (z04 (IV.toInt (List.getD l24 (Int.toNat x26) default))))))) u00)) none) none) none) none) (cond (decide (0≤x26)&&decide (x26 < ic (n5 - 0))) (cond (!Bx.emp (bxI (List.getD lo20 (0+Int.toNat x26) default))) (cond (decide (0≤x26)&&decide (x26 < ic (n5 - 0))) (cond (decide ((n6+1)*88≤z09)) (again (z4n n5 (n6+1) l24 x25 (IntKind.wrap IntKind.i64 (x26+1)) lo20 (List.take n6 u00++[(pcI (bxI (List.getD lo20 (0+Int.toNat x26) default)) (Nd.v (z04 (IV.toInt (List.getD l24 (Int.toNat x26) default)))))]))) none) none) (again (z4n n5 n6 l24 x25 (IntKind.wrap IntKind.i64 (x26+1)) lo20 u00))) none)) none) (k (.exit 0) (z4n n5 n6 l24 x25 x26 lo20 u00))):=by kernel_rfl
theorem zkp (N n5 n6:Nat) (l24:List IV) (x25 x26:Int) (lo20 u00:List IV):(z06 0 (kSq (z3o N) (z0i z4x [1,1,1,1,1,1]) (z2v (z3o N) none [(ResultVar.tmp 4)] [[(.list true zcy)]]))) (.exit 0) (z4n n5 n6 l24 x25 x26 lo20 u00)=(some ((.list true zcy (List.drop 0 (List.take n6 u00))),[])):=by kernel_rfl
def z4g (N:Nat):Env:=mkE [(218,z9m)] [(6,⟨[4,5,6,8,9,26,27,28],[],[]⟩)] 43 N
abbrev z84 (x4 x5:Int) (b6:Bool) (x8 x9:Int) (l26:List IV) (x27 x28:Int):St:=⟨[(4,(.i x4)),(5,(.i x5)),(6,(.bool b6)),(8,(.i x8)),(9,(.i x9)),(26,(.list true zcy l26)),(27,(.i x27)),(28,(.i x28))],[]⟩
theorem zxg (N:Nat) (l:List IV) (b:Bx):z0y (z4g N) z5x [.tmp 4,.tmp 5,.tmp 6] [[.int .i64],[.int .i64],[.bool]] [(.list false [.int .u64] l),(Bx.V b)]=(cond (ic (List.length (z45 l b))==0) (some ((.tup [(.i 0),(.i 0),(.bool false)]),[])) (cond (decide (0≤0)&&decide (0 < ic (List.length (z45 l b)))) (cond (decide (0≤0)&&decide (0 < ic (List.length (z45 l b)))) (lpE (z4g N) (z0i z5x [1,1,1,1,0,1,0,0]) ⟨[4,5,6,8,9,26,27,28],[],[]⟩ N (z84 0 0 false (IV.toInt (IV.cell (List.getD (z45 l b) (Int.toNat 0) default) 10)) (IV.toInt (IV.cell (List.getD (z45 l b) (Int.toNat 0) default) 10)) (z45 l b) (ic (List.length (z45 l b))) 0) (z06 0 (kSq (z4g N) (z0i z5x [1,1,1,1,1]) (z2v (z4g N) none [(ResultVar.tmp 4),(ResultVar.tmp 5),(ResultVar.tmp 6)] [[(.int .i64)],[(.int .i64)],[.bool]])))) none) none)):=by kernel_rfl
theorem zh5 (N:Nat) (x4 x5:Int) (b6:Bool) (x8 x9:Int) (l26:List IV) (x27 x28:Int) (again:St→Res) (k:Out→St→Res):rnd (z4g N) (z0i z5x [1,1,1,1,0,1,0,0]) (z84 x4 x5 b6 x8 x9 l26 x27 x28) (z3v again ⟨[4,5,6,8,9,26,27,28],[],[]⟩ k)=(cond (decide (x28 < x27)) (cond (decide (0≤x28)&&decide (x28 < ic (List.length l26))) (again (z84 x4 x5 b6 (min x8 (IV.toInt (IV.cell (List.getD l26 (Int.toNat x28) default) 10))) (max x9 (IV.toInt (IV.cell (List.getD l26 (Int.toNat x28) default) 10))) l26 x27 (IntKind.wrap IntKind.i64 (x28+1)))) none) (k (.exit 0) (z84 x4 x5 b6 x8 x9 l26 x27 x28))):=by kernel_rfl
theorem zm8 (N:Nat) (x4 x5:Int) (b6:Bool) (x8 x9:Int) (l26:List IV) (x27 x28:Int):(z06 0 (kSq (z4g N) (z0i z5x [1,1,1,1,1]) (z2v (z4g N) none [(ResultVar.tmp 4),(ResultVar.tmp 5),(ResultVar.tmp 6)] [[(.int .i64)],[(.int .i64)],[.bool]]))) (.exit 0) (z84 x4 x5 b6 x8 x9 l26 x27 x28)=(some ((.tup [(.i x8),(.i x9),(.bool true)]),[])):=by kernel_rfl
def z0j (N:Nat):Env:=mkE [(196,zay),(112,z29),(53,z1u)] [(5,⟨[1,5,6,7,8,9,10,42,43,44],[5],[]⟩)] 69 N
abbrev z1z (a2:Bx) (x1 x6 x7:Int) (b8:Bool) (x9 x10:Int) (l42:List IV) (x43 x44:Int):St:=⟨[(1,(.i x1)),(5,(.ptr 5 0 0)),(6,(.i x6)),(7,(.i x7)),(8,(.bool b8)),(9,(.i x9)),(10,(.i x10)),(42,(.list true zji l42)),(43,(.i x43)),(44,(.i x44))],[(5,(some (.box (Bx.cs a2))))]⟩
theorem y22 (N:Nat) (m:Md) (a1:Int) (a2:Bx):z0y (z0j N) z16 [.tmp 6,.tmp 7,.tmp 8] [[.int .i64],[.int .i64],[.bool]] [(Md.V m),(.i a1),(Bx.V a2)]=(cond (!z26 m) (some ((.tup [(.i 0),(.i 0),(.bool false)]),[])) (cond (decide (a1 < 0)) (some ((.tup [(.i 0),(.i 0),(.bool false)]),[])) (cond (decide (a1≥Md.c m)) (some ((.tup [(.i 0),(.i 0),(.bool false)]),[])) (cond (Bx.emp a2) (some ((.tup [(.i 0),(.i 0),(.bool false)]),[])) (cond (decide (a1=ic 0)) (cond (decide (a1=ic 0)) (lpE (z0j N) (z0i z16 [1,1,1,0,1,0,0]) ⟨[1,5,6,7,8,9,10,42,43,44],[5],[]⟩ N (z1z a2 a1 0 0 false (Md.b0 m) (Md.b0 m) (Md.ts m) (ic (List.length (Md.ts m))) 0) (z06 0 (kSq (z0j N) (z0i z16 [1,1,1,1]) (z2v (z0j N) none [(ResultVar.tmp 6),(ResultVar.tmp 7),(ResultVar.tmp 8)] [[(.int .i64)],[(.int .i64)],[.bool]])))) (cond (decide (a1=ic 1)) (lpE (z0j N) (z0i z16 [1,1,1,0,1,0,0]) ⟨[1,5,6,7,8,9,10,42,43,44],[5],[]⟩ N (z1z a2 a1 0 0 false (Md.b0 m) (Md.b1 m) (Md.ts m) (ic (List.length (Md.ts m))) 0) (z06 0 (kSq (z0j N) (z0i z16 [1,1,1,1]) (z2v (z0j N) none [(ResultVar.tmp 6),(ResultVar.tmp 7),(ResultVar.tmp 8)] [[(.int .i64)],[(.int .i64)],[.bool]])))) (cond (decide (a1=ic 2)) (lpE (z0j N) (z0i z16 [1,1,1,0,1,0,0]) ⟨[1,5,6,7,8,9,10,42,43,44],[5],[]⟩ N (z1z a2 a1 0 0 false (Md.b0 m) (Md.b2 m) (Md.ts m) (ic (List.length (Md.ts m))) 0) (z06 0 (kSq (z0j N) (z0i z16 [1,1,1,1]) (z2v (z0j N) none [(ResultVar.tmp 6),(ResultVar.tmp 7),(ResultVar.tmp 8)] [[(.int .i64)],[(.int .i64)],[.bool]])))) none))) (cond (decide (a1=ic 1)) (cond (decide (a1=ic 0)) (lpE (z0j N) (z0i z16 [1,1,1,0,1,0,0]) ⟨[1,5,6,7,8,9,10,42,43,44],[5],[]⟩ N (z1z a2 a1 0 0 false (Md.b1 m) (Md.b0 m) (Md.ts m) (ic (List.length (Md.ts m))) 0) (z06 0 (kSq (z0j N) (z0i z16 [1,1,1,1]) (z2v (z0j N) none [(ResultVar.tmp 6),(ResultVar.tmp 7),(ResultVar.tmp 8)] [[(.int .i64)],[(.int .i64)],[.bool]])))) (cond (decide (a1=ic 1)) (lpE (z0j N) (z0i z16 [1,1,1,0,1,0,0]) ⟨[1,5,6,7,8,9,10,42,43,44],[5],[]⟩ N (z1z a2 a1 0 0 false (Md.b1 m) (Md.b1 m) (Md.ts m) (ic (List.length (Md.ts m))) 0) (z06 0 (kSq (z0j N) (z0i z16 [1,1,1,1]) (z2v (z0j N) none [(ResultVar.tmp 6),(ResultVar.tmp 7),(ResultVar.tmp 8)] [[(.int .i64)],[(.int .i64)],[.bool]])))) (cond (decide (a1=ic 2)) (lpE (z0j N) (z0i z16 [1,1,1,0,1,0,0]) ⟨[1,5,6,7,8,9,10,42,43,44],[5],[]⟩ N (z1z a2 a1 0 0 false (Md.b1 m) (Md.b2 m) (Md.ts m) (ic (List.length (Md.ts m))) 0) (z06 0 (kSq (z0j N) (z0i z16 [1,1,1,1]) (z2v (z0j N) none [(ResultVar.tmp 6),(ResultVar.tmp 7),(ResultVar.tmp 8)] [[(.int .i64)],[(.int .i64)],[.bool]])))) none))) (cond (decide (a1=ic 2)) (cond (decide (a1=ic 0)) (lpE (z0j N) (z0i z16 [1,1,1,0,1,0,0]) ⟨[1,5,6,7,8,9,10,42,43,44],[5],[]⟩ N (z1z a2 a1 0 0 false (Md.b2 m) (Md.b0 m) (Md.ts m) (ic (List.length (Md.ts m))) 0) (z06 0 (kSq (z0j N) (z0i z16 [1,1,1,1]) (z2v (z0j N) none [(ResultVar.tmp 6),(ResultVar.tmp 7),(ResultVar.tmp 8)] [[(.int .i64)],[(.int .i64)],[.bool]])))) (cond (decide (a1=ic 1)) (lpE (z0j N) (z0i z16 [1,1,1,0,1,0,0]) ⟨[1,5,6,7,8,9,10,42,43,44],[5],[]⟩ N (z1z a2 a1 0 0 false (Md.b2 m) (Md.b1 m) (Md.ts m) (ic (List.length (Md.ts m))) 0) (z06 0 (kSq (z0j N) (z0i z16 [1,1,1,1]) (z2v (z0j N) none [(ResultVar.tmp 6),(ResultVar.tmp 7),(ResultVar.tmp 8)] [[(.int .i64)],[(.int .i64)],[.bool]])))) (cond (decide (a1=ic 2)) (lpE (z0j N) (z0i z16 [1,1,1,0,1,0,0]) ⟨[1,5,6,7,8,9,10,42,43,44],[5],[]⟩ N (z1z a2 a1 0 0 false (Md.b2 m) (Md.b2 m) (Md.ts m) (ic (List.length (Md.ts m))) 0) (z06 0 (kSq (z0j N) (z0i z16 [1,1,1,1]) (z2v (z0j N) none [(ResultVar.tmp 6),(ResultVar.tmp 7),(ResultVar.tmp 8)] [[(.int .i64)],[(.int .i64)],[.bool]])))) none))) none))))))):=by kernel_rfl
theorem zis (N:Nat) (a2:Bx) (x1 x6 x7:Int) (b8:Bool) (x9 x10:Int) (l42:List IV) (x43 x44:Int) (again:St→Res) (k:Out→St→Res):rnd (z0j N) (z0i z16 [1,1,1,0,1,0,0]) (z1z a2 x1 x6 x7 b8 x9 x10 l42 x43 x44) (z3v again ⟨[1,5,6,7,8,9,10,42,43,44],[5],[]⟩ k)=(cond (decide (x44 < x43)) (cond (decide (0≤x44)&&decide (x44 < ic (List.length l42))) (cond (IV.toInt (IV.cell (List.getD l42 (Int.toNat x44) default) 0) != x1) (again (z1z a2 x1 x6 x7 b8 x9 x10 l42 x43 (IntKind.wrap IntKind.i64 (x44+1)))) (again (z1z a2 x1 x6 x7 b8 (IntKind.wrap IntKind.i64 (x9+tLo (IV.toList (IV.cell (List.getD l42 (Int.toNat x44) default) 1)) a2)) (IntKind.wrap IntKind.i64 (x10+tHi (IV.toList (IV.cell (List.getD l42 (Int.toNat x44) default) 1)) a2)) l42 x43 (IntKind.wrap IntKind.i64 (x44+1))))) none) (k (.exit 0) (z1z a2 x1 x6 x7 b8 x9 x10 l42 x43 x44))):=by kernel_rfl
theorem zpe (N:Nat) (a2:Bx) (x1 x6 x7:Int) (b8:Bool) (x9 x10:Int) (l42:List IV) (x43 x44:Int):(z06 0 (kSq (z0j N) (z0i z16 [1,1,1,1]) (z2v (z0j N) none [(ResultVar.tmp 6),(ResultVar.tmp 7),(ResultVar.tmp 8)] [[(.int .i64)],[(.int .i64)],[.bool]]))) (.exit 0) (z1z a2 x1 x6 x7 b8 x9 x10 l42 x43 x44)=(some ((.tup [(.i x9),(.i x10),(.bool true)]),[])):=by kernel_rfl
def z2w (N:Nat):Env:=mkE [(162,z6b)] [(6,⟨[1,3,5,6,7,8,11,12,33,34],[3,5],[]⟩)] 62 N
abbrev z3b (m:Md) (b:Bx) (x1 x6:Int) (b7:Bool) (x8 x11:Int) (b12:Bool) (x33 x34:Int):St:=⟨[(1,(.i x1)),(3,(.ptr 3 0 0)),(5,(.ptr 5 0 0)),(6,(.i x6)),(7,(.bool b7)),(8,(.i x8)),(11,(.i x11)),(12,(.bool b12)),(33,(.i x33)),(34,(.i x34))],[(3,(some (.box (Md.cs m)))),(5,(some (.box (Bx.cs b))))]⟩
theorem zpw (N:Nat) (m:Md) (u00:Int) (b:Bx):z0y (z2w N) z4a [.tmp 6,.tmp 7] [[.int .i64],[.bool]] [(Md.V m),(.i u00),(Bx.V b)]=(cond (!sOK m u00 b) (some ((.tup [(.i 0),(.bool false)]),[])) (cond (decide (Md.c m < 2)) (some ((.tup [(.i 0),(.bool false)]),[])) (lpE (z2w N) (z0i z4a [1,1,1,1,0,1,0,0]) ⟨[1,3,5,6,7,8,11,12,33,34],[3,5],[]⟩ N (z3b m b u00 0 false (sLo m u00 b) 0 false (Md.c m) 0) (z06 0 (kSq (z2w N) (z0i z4a [1,1,1,1,1]) (z2v (z2w N) none [(ResultVar.tmp 6),(ResultVar.tmp 7)] [[(.int .i64)],[.bool]])))))):=by kernel_rfl
theorem zea (N:Nat) (m:Md) (b:Bx) (x1 x6:Int) (b7:Bool) (x8 x11:Int) (b12:Bool) (x33 x34:Int) (again:St→Res) (k:Out→St→Res):rnd (z2w N) (z0i z4a [1,1,1,1,0,1,0,0]) (z3b m b x1 x6 b7 x8 x11 b12 x33 x34) (z3v again ⟨[1,3,5,6,7,8,11,12,33,34],[3,5],[]⟩ k)=(cond (decide (x34 < x33)) (cond (x34==x1) (again (z3b m b x1 x6 b7 x8 x11 b12 x33 (IntKind.wrap IntKind.i64 (x34+1)))) (cond (!b12) (again (z3b m b x1 x6 b7 x8 (IntKind.wrap IntKind.i64 (x8 - sHi m x34 b)) true x33 (IntKind.wrap IntKind.i64 (x34+1)))) (cond (decide (IntKind.wrap IntKind.i64 (x8 - sHi m x34 b) < x11)) (again (z3b m b x1 x6 b7 x8 (IntKind.wrap IntKind.i64 (x8 - sHi m x34 b)) true x33 (IntKind.wrap IntKind.i64 (x34+1)))) (again (z3b m b x1 x6 b7 x8 x11 b12 x33 (IntKind.wrap IntKind.i64 (x34+1))))))) (k (.exit 0) (z3b m b x1 x6 b7 x8 x11 b12 x33 x34))):=by kernel_rfl
theorem zjm (N:Nat) (m:Md) (b:Bx) (x1 x6:Int) (b7:Bool) (x8 x11:Int) (b12:Bool) (x33 x34:Int):(z06 0 (kSq (z2w N) (z0i z4a [1,1,1,1,1]) (z2v (z2w N) none [(ResultVar.tmp 6),(ResultVar.tmp 7)] [[(.int .i64)],[.bool]]))) (.exit 0) (z3b m b x1 x6 b7 x8 x11 b12 x33 x34)=(some ((.tup [(.i x11),(.bool true)]),[])):=by kernel_rfl
def zt9 (N:Nat):Env:=mkE [] [] 16 N
theorem zsa (N:Nat) (q:Qy):z0y (zt9 N) zig [.tmp 2] [[.bool]] [(Qy.V q)]=(cond (Qy.k q==3) (cond (decide (Qy.ft q≥0)) (some ((.bool (decide (Qy.ft q < 4))),[])) (some ((.bool false),[]))) (some ((.bool false),[]))):=by kernel_rfl
def ztn (N:Nat):Env:=mkE [(197,z2m)] [] 10 N
theorem zps (N:Nat) (q:Qy) (b:Bx):z0y (ztn N) ziy [.cell 4 36] [[.int .i64,.int .i64,.int .i64,.int .i64,.int .i64,.int .i64,.int .i64,.int .i64,.int .i64,.int .i64]] [(Qy.V q),(Bx.V b)]=(cond (z5j q) (some ((.agg [(.i (Sp.lo (Bx.s0 b))),(.i (Sp.hi (Bx.s0 b))),(.i (Sp.lo (Bx.s1 b))),(.i (Sp.hi (Bx.s1 b))),(.i (Sp.lo (Bx.s2 b))),(.i (Sp.hi (Bx.s2 b))),(.i (Sp.lo (Bx.s3 b))),(.i (Sp.hi (Bx.s3 b))),(.i 0),(.i 0)]),[])) (some ((Bx.V b),[]))):=by kernel_rfl
def zsq (N:Nat):Env:=mkE [(197,z2m)] [] 15 N
theorem zow (N:Nat) (q:Qy) (b:Bx):z0y (zsq N) zh1 [.cell 4 36] [[.int .i64,.int .i64,.int .i64,.int .i64,.int .i64,.int .i64,.int .i64,.int .i64,.int .i64,.int .i64]] [(Qy.V q),(Bx.V b)]=(cond (z5j q) (cond (decide (Qy.ft q=ic 0)) (some ((.agg [(.i (Sp.lo (Bx.s4 b))),(.i (Sp.hi (Bx.s4 b))),(.i (Sp.lo (Bx.s1 b))),(.i (Sp.hi (Bx.s1 b))),(.i (Sp.lo (Bx.s2 b))),(.i (Sp.hi (Bx.s2 b))),(.i (Sp.lo (Bx.s3 b))),(.i (Sp.hi (Bx.s3 b))),(.i 0),(.i 0)]),[])) (cond (decide (Qy.ft q=ic 1)) (some ((.agg [(.i (Sp.lo (Bx.s0 b))),(.i (Sp.hi (Bx.s0 b))),(.i (Sp.lo (Bx.s4 b))),(.i (Sp.hi (Bx.s4 b))),(.i (Sp.lo (Bx.s2 b))),(.i (Sp.hi (Bx.s2 b))),(.i (Sp.lo (Bx.s3 b))),(.i (Sp.hi (Bx.s3 b))),(.i 0),(.i 0)]),[])) (cond (decide (Qy.ft q=ic 2)) (some ((.agg [(.i (Sp.lo (Bx.s0 b))),(.i (Sp.hi (Bx.s0 b))),(.i (Sp.lo (Bx.s1 b))),(.i (Sp.hi (Bx.s1 b))),(.i (Sp.lo (Bx.s4 b))),(.i (Sp.hi (Bx.s4 b))),(.i (Sp.lo (Bx.s3 b))),(.i (Sp.hi (Bx.s3 b))),(.i 0),(.i 0)]),[])) (cond (decide (Qy.ft q=ic 3)) (some ((.agg [(.i (Sp.lo (Bx.s0 b))),(.i (Sp.hi (Bx.s0 b))),(.i (Sp.lo (Bx.s1 b))),(.i (Sp.hi (Bx.s1 b))),(.i (Sp.lo (Bx.s2 b))),(.i (Sp.hi (Bx.s2 b))),(.i (Sp.lo (Bx.s4 b))),(.i (Sp.hi (Bx.s4 b))),(.i 0),(.i 0)]),[])) (cond (decide (Qy.ft q=ic 4)) (some ((.agg [(.i (Sp.lo (Bx.s0 b))),(.i (Sp.hi (Bx.s0 b))),(.i (Sp.lo (Bx.s1 b))),(.i (Sp.hi (Bx.s1 b))),(.i (Sp.lo (Bx.s2 b))),(.i (Sp.hi (Bx.s2 b))),(.i (Sp.lo (Bx.s3 b))),(.i (Sp.hi (Bx.s3 b))),(.i 0),(.i 0)]),[])) none))))) (some ((Bx.V b),[]))):=by kernel_rfl
def zp4 (N:Nat):Env:=mkE [(112,z29),(197,z2m)] [] 23 N
theorem zmv (N:Nat) (q:Qy) (b:Bx):z0y (zp4 N) zfg [.tmp 4] [[.bool]] [(Qy.V q),(Bx.V b)]=(cond (z5j q) (cond (!Bx.emp b) (cond (decide (Qy.ft q=ic 0)) (some ((.bool (decide (Sp.lo (Bx.s0 b) < Sp.hi (Bx.s4 b)))),[])) (cond (decide (Qy.ft q=ic 1)) (some ((.bool (decide (Sp.lo (Bx.s1 b) < Sp.hi (Bx.s4 b)))),[])) (cond (decide (Qy.ft q=ic 2)) (some ((.bool (decide (Sp.lo (Bx.s2 b) < Sp.hi (Bx.s4 b)))),[])) (cond (decide (Qy.ft q=ic 3)) (some ((.bool (decide (Sp.lo (Bx.s3 b) < Sp.hi (Bx.s4 b)))),[])) (cond (decide (Qy.ft q=ic 4)) (some ((.bool (decide (Sp.lo (Bx.s4 b) < Sp.hi (Bx.s4 b)))),[])) none))))) (some ((.bool false),[]))) (some ((.bool false),[]))):=by kernel_rfl
def zsl (N:Nat):Env:=mkE [(162,z6b),(198,z7y),(199,z78),(197,z2m)] [] 54 N
theorem zp0 (N:Nat) (m:Md) (q:Qy) (b:Bx):z0y (zsl N) zgs [.tmp 6,.tmp 7,.tmp 8] [[.int .i64],[.int .i64],[.bool]] [(Md.V m),(Qy.V q),(Bx.V b)]=(cond (!z5j q) (some ((.tup [(.i 0),(.i 0),(.bool false)]),[])) (cond (!sOK m (Qy.c q) (zdb q b)) (some ((.tup [(.i 0),(.i 0),(.bool false)]),[])) (cond (!sOK m (Qy.c q) (z9g q b)) (some ((.tup [(.i 0),(.i 0),(.bool false)]),[])) (some ((.tup [(.i (IntKind.wrap IntKind.i64 (sLo m (Qy.c q) (z9g q b) - sHi m (Qy.c q) (zdb q b)))),(.i (IntKind.wrap IntKind.i64 (sHi m (Qy.c q) (z9g q b) - sLo m (Qy.c q) (zdb q b)))),(.bool true)]),[]))))):=by kernel_rfl
def zxe (N:Nat):Env:=mkE [(163,z8f),(162,z6b),(112,z29),(165,z72),(164,z6k),(65,z2e)] [] 86 N
theorem zte (N:Nat) (m:Md) (a1:Qy) (a2:Bx):z0y (zxe N) zki [.tmp 6] [[.bool]] [(Md.V m),(Qy.V a1),(Bx.V a2)]=(cond (!z3c m a1) (some ((.bool false),[])) (cond (Bx.emp a2) (some ((.bool true),[])) (cond (Qy.k a1==1) (cond (sOK m (Qy.c a1) a2) (cond (decide (Qy.lo a1≤sLo m (Qy.c a1) a2)) (some ((.bool (decide (sHi m (Qy.c a1) a2≤Qy.hi a1))),[])) (some ((.bool false),[]))) (some ((.bool false),[]))) (cond (Qy.k a1==2) (cond (yby m (Qy.c a1) a2) (some ((.bool (decide (ygv m (Qy.c a1) a2 > 0))),[])) (some ((.bool false),[]))) (cond (!zh6 a1 a2) (some ((.bool true),[])) (cond (Qy.fl a1) (cond (y9m m a1 a2) (some ((.bool (decide (ygs m a1 a2≤0))),[])) (some ((.bool false),[]))) (cond (y9m m a1 a2) (some ((.bool (decide (yh4 m a1 a2≥0))),[])) (some ((.bool false),[]))))))))):=by kernel_rfl
def zzd (N:Nat):Env:=mkE [(81,zhe)] [] 9 N
theorem ztc (N:Nat) (b:Bx):z0y (zzd N) zku [.cell 2 53,.tmp 3] [[.int .i64,.int .i64,.int .i64,.int .i64],[.int .i64]] [(Bx.V b)]=(some ((.tup [(Pt.V (Bx.low b)),(.i (Sp.hi (Bx.s4 b)))]),[])):=by kernel_rfl
def z3e (N:Nat):Env:=mkE [(126,zci)] [(2,⟨[3,4,5,6,7,8,11],[3,4,5],[]⟩)] 31 N
abbrev z57 (m:Md) (q:Qy) (b:Bx) (x6 x7:Int) (b8:Bool) (x11:Int):St:=⟨[(3,(.ptr 3 0 0)),(4,(.ptr 4 0 0)),(5,(.ptr 5 0 0)),(6,(.i x6)),(7,(.i x7)),(8,(.bool b8)),(11,(.i x11))],[(3,(some (.box (Md.cs m)))),(4,(some (.box (Qy.cs q)))),(5,(some (.box (Bx.cs b))))]⟩
theorem zy6 (N:Nat) (m:Md) (q:Qy) (b:Bx):z0y (z3e N) z4y [.tmp 6,.tmp 7,.tmp 8] [[.int .i64],[.int .i64],[.bool]] [(Md.V m),(Qy.V q),(Bx.V b)]=(lpE (z3e N) (z0i z4y [1,0,1,0,0]) ⟨[3,4,5,6,7,8,11],[3,4,5],[]⟩ N (z57 m q b 0 0 false 0) (z06 0 (kSq (z3e N) (z0i z4y [1,1]) (z2v (z3e N) none [(ResultVar.tmp 6),(ResultVar.tmp 7),(ResultVar.tmp 8)] [[(.int .i64)],[(.int .i64)],[.bool]])))):=by kernel_rfl
theorem zhb (N:Nat) (m:Md) (q:Qy) (b:Bx) (x6 x7:Int) (b8:Bool) (x11:Int) (again:St→Res) (k:Out→St→Res):rnd (z3e N) (z0i z4y [1,0,1,0,0]) (z57 m q b x6 x7 b8 x11) (z3v again ⟨[3,4,5,6,7,8,11],[3,4,5],[]⟩ k)=(cond (decide (x11 < 5)) (cond (z26 m&&zma x11) (cond (decide (ic (List.length (iZ (zjs m q b (Int.toNat x11)))) > 0)) (cond (decide (0≤IntKind.wrap IntKind.i64 (Int.tdiv (IntKind.wrap IntKind.i64 (ic (List.length (iZ (zjs m q b (Int.toNat x11)))) - 1)) 2))&&decide (IntKind.wrap IntKind.i64 (Int.tdiv (IntKind.wrap IntKind.i64 (ic (List.length (iZ (zjs m q b (Int.toNat x11)))) - 1)) 2) < ic (List.length (iZ (zjs m q b (Int.toNat x11)))))) (k .ret (z57 m q b x11 (IV.toInt (List.getD (iZ (zjs m q b (Int.toNat x11))) (Int.toNat (IntKind.wrap IntKind.i64 (Int.tdiv (IntKind.wrap IntKind.i64 (ic (List.length (iZ (zjs m q b (Int.toNat x11)))) - 1)) 2))) default)) true x11)) none) (again (z57 m q b x6 x7 b8 (IntKind.wrap IntKind.i64 (x11+1))))) none) (k (.exit 0) (z57 m q b x6 x7 b8 x11))):=by kernel_rfl
theorem zm3 (N:Nat) (m:Md) (q:Qy) (b:Bx) (x6 x7:Int) (b8:Bool) (x11:Int):(z06 0 (kSq (z3e N) (z0i z4y [1,1]) (z2v (z3e N) none [(ResultVar.tmp 6),(ResultVar.tmp 7),(ResultVar.tmp 8)] [[(.int .i64)],[(.int .i64)],[.bool]]))) (.exit 0) (z57 m q b x6 x7 b8 x11)=(some ((.tup [(.i 0),(.i 0),(.bool false)]),[])):=by kernel_rfl
theorem znc (N:Nat) (m:Md) (q:Qy) (b:Bx) (x6 x7:Int) (b8:Bool) (x11:Int):(z06 0 (kSq (z3e N) (z0i z4y [1,1]) (z2v (z3e N) none [(ResultVar.tmp 6),(ResultVar.tmp 7),(ResultVar.tmp 8)] [[(.int .i64)],[(.int .i64)],[.bool]]))) .ret (z57 m q b x6 x7 b8 x11)=(some ((.tup [(.i x6),(.i x7),(.bool b8)]),[])):=by kernel_rfl
open Go Go.Proofs
set_option maxRecDepth 100000
theorem zvs {i:Int} (h:zma i=true):i=0∨i=1∨i=2∨i=3∨i=4:=by
 unfold zma at h;simp only [v02,v06] at h;omega
theorem zkq:z2u PR B0 194 z8l:=by
 refine z0f [] [] z8l [[.int .i64,.int .i64]] Tryz.func194 y3r trivial ?_;intro vs r hwf h;unfold z8l at h
 split at h
 ·rw [R.get_ok] at h
  exact ⟨0,(y3j 0).trans h⟩
 ·simp [R.get] at h
theorem y4y:z2u PR B0 193 zgy:=by
 refine z0f [(194,z8l)] [] zgy [[.int .i64,.int .i64]] Tryz.func193 ycj ⟨zkq,trivial⟩ ?_;intro vs r hwf h;unfold zgy at h
 split at h
 ·rename_i lo hi
  rw [R.get_ok] at h;refine ⟨0,?_⟩;rw [← h];refine (y81 0 lo hi).trans ?_;unfold y9a;cases decide (lo > hi) <;> rfl
 ·simp [R.get] at h
theorem ziu:z2u PR B0 155 z7a:=by
 refine z0f [] [] z7a [[.bool]] Tryz.func155 y0e trivial ?_;intro vs r hwf h;unfold z7a at h
 split at h
 ·rename_i s
  replace h:=zqd h;obtain ⟨s,rfl,h⟩:=h;rw [R.get_ok] at h;exact ⟨0,(zz3 0 s).trans h⟩
 ·simp [R.get] at h
theorem zop:z2u PR B0 114 zac:=by
 refine z0f [] [] zac [[.bool]] Tryz.func114 y95 trivial ?_;intro vs r hwf h;unfold zac at h
 split at h
 ·rename_i s n
  replace h:=zqd h;obtain ⟨s,rfl,h⟩:=h;rw [R.get_ok] at h;refine ⟨0,?_⟩;rw [← h];refine (y3x 0 s n).trans ?_;unfold Sp.has;cases decide (s.lo≤n) <;> rfl
 ·simp [R.get] at h
theorem y0p:z2u PR B0 157 zhj:=by
 refine z0f [(194,z8l),(193,zgy)] [] zhj [[.int .i64,.int .i64],[.int .i64,.int .i64]] Tryz.func157 y8s ⟨zkq,y4y,trivial⟩ ?_;intro vs r hwf h;unfold zhj at h
 split at h
 ·rename_i s n
  replace h:=zqd h;obtain ⟨s,rfl,h⟩:=h;rw [R.get_ok] at h;refine ⟨0,?_⟩;rw [← h];refine (y3q 0 s n).trans ?_;unfold Sp.cutH;cases decide (n≥s.hi) <;> rfl
 ·simp [R.get] at h
theorem zyc (b:Bx):z0y (y5i 6) zst [.tmp 2] [[.bool]] [b.V] =
 cond b.s0.emp (some (.bool true,[])) (cond b.s1.emp (some (.bool true,[])) (cond b.s2.emp (some (.bool true,[])) (cond b.s3.emp (some (.bool true,[])) (cond b.s4.emp (some (.bool true,[])) (some (.bool false,[])))))):=by kernel_rfl
theorem z6j:z2u PR B0 112 z29:=by
 refine z0f [(155,z7a)] [(2,⟨[2,5,6],[],[]⟩)] z29 [[.bool]] Tryz.func112 y3p ⟨ziu,trivial⟩ ?_;intro vs r hwf h;unfold z29 at h
 split at h
 ·rename_i b
  replace h:=z2l h;obtain ⟨b,rfl,h⟩:=h;rw [R.get_ok] at h;refine ⟨6,?_⟩;rw [← h];refine (zyc b).trans ?_;unfold Bx.emp;cases b.s0.emp <;> cases b.s1.emp <;> cases b.s2.emp <;> cases b.s3.emp <;> cases b.s4.emp <;> rfl
 ·simp [R.get] at h
theorem y3w (b:Bx):z0y (yc5 5) zzy [.cell 2 53] [[.int .i64,.int .i64,.int .i64,.int .i64]] [b.V]=some (b.low.V,[]):=by kernel_rfl
theorem y4b:z2u PR B0 81 zhe:=by
 refine z0f [] [(3,⟨[1,2,3,5],[1,2,3],[]⟩)] zhe [[.int .i64,.int .i64,.int .i64,.int .i64]] Tryz.func81 ya8 trivial ?_;intro vs r hwf h;unfold zhe at h
 split at h
 ·rename_i b
  replace h:=z2l h;obtain ⟨b,rfl,h⟩:=h;rw [R.get_ok] at h;exact ⟨5,(y3w b).trans h⟩
 ·simp [R.get] at h
theorem zf4:z2u PR B0 111 z74:=by
 refine z0f [(157,zhj)] [] z74 [[.int .i64,.int .i64,.int .i64,.int .i64,.int .i64,.int .i64,.int .i64,.int .i64,.int .i64,.int .i64],[.int .i64,.int .i64,.int .i64,.int .i64,.int .i64,.int .i64,.int .i64,.int .i64,.int .i64,.int .i64]] Tryz.func111 yb1 ⟨y0p,trivial⟩ ?_;intro vs r hwf h;unfold z74 at h
 split at h
 ·rename_i b i a
  replace h:=z2l h;obtain ⟨b,rfl,h⟩:=h;cases hg:(zma i) with
  | false=>rw [hg] at h; simp [R.get] at h
  | true=>
  rw [hg,R.get_br,z00,R.get_ok] at h;refine ⟨0,?_⟩;rw [← h];rcases zvs hg with rfl | rfl | rfl | rfl | rfl <;> kernel_rfl
 ·simp [R.get] at h
theorem zfr:z2u PR B0 109 z58:=by
 refine z0f [] [] z58 [[.bool]] Tryz.func109 ztv trivial ?_;intro vs r hwf h;unfold z58 at h
 split at h
 ·rename_i q
  replace h:=z2z h;obtain ⟨q,rfl,h⟩:=h;rw [R.get_ok] at h;refine ⟨0,?_⟩;rw [← h];refine (zs0 0 q).trans ?_;unfold z5j;cases (q.k==3) <;> cases decide (q.ft≥0) <;> rfl
 ·simp [R.get] at h
theorem z8j:z2u PR B0 197 z2m:=by
 refine z0f [] [] z2m [[.bool]] Tryz.func197 zts trivial ?_;intro vs r hwf h;unfold z2m at h
 split at h
 ·rename_i q
  replace h:=z2z h;obtain ⟨q,rfl,h⟩:=h;rw [R.get_ok] at h;refine ⟨0,?_⟩;rw [← h];refine (zsa 0 q).trans ?_;unfold z5j;cases (q.k==3) <;> cases decide (q.ft≥0) <;> rfl
 ·simp [R.get] at h
theorem zce {q:Qy} (h:z5j q=true):q.ft=0∨q.ft=1∨q.ft=2∨q.ft=3:=by
 unfold z5j at h;simp only [v02,v06] at h;omega
theorem zox:z2u PR B0 198 z7y:=by
 refine z0f [(197,z2m)] [] z7y [[.int .i64,.int .i64,.int .i64,.int .i64,.int .i64,.int .i64,.int .i64,.int .i64,.int .i64,.int .i64]] Tryz.func198 zt3 ⟨z8j,trivial⟩ ?_;intro vs r hwf h;unfold z7y at h
 split at h
 ·rename_i q b
  replace h:=z2z h;obtain ⟨q,rfl,h⟩:=h;replace h:=z2l h;obtain ⟨b,rfl,h⟩:=h;rw [R.get_ok] at h;refine ⟨0,?_⟩;rw [← h];refine (zps 0 q b).trans ?_;unfold zdb;cases z5j q <;> rfl
 ·simp [R.get] at h
theorem zmy:z2u PR B0 199 z78:=by
 refine z0f [(197,z2m)] [] z78 [[.int .i64,.int .i64,.int .i64,.int .i64,.int .i64,.int .i64,.int .i64,.int .i64,.int .i64,.int .i64]] Tryz.func199 zrq ⟨z8j,trivial⟩ ?_;intro vs r hwf h;unfold z78 at h
 split at h
 ·rename_i q b
  replace h:=z2z h;obtain ⟨q,rfl,h⟩:=h;replace h:=z2l h;obtain ⟨b,rfl,h⟩:=h;rw [R.get_ok] at h;refine ⟨0,?_⟩;rw [← h];refine (zow 0 q b).trans ?_;unfold z9g;cases hp:z5j q with
  | false=>rfl
  | true=>rcases zce hp with e | e | e | e <;> rw [e] <;> rfl
 ·simp [R.get] at h
theorem zlt:z2u PR B0 164 z6k:=by
 refine z0f [(112,z29),(197,z2m)] [] z6k [[.bool]] Tryz.func164 zpk ⟨z6j,z8j,trivial⟩ ?_;intro vs r hwf h;unfold z6k at h
 split at h
 ·rename_i q b
  replace h:=z2z h;obtain ⟨q,rfl,h⟩:=h;replace h:=z2l h;obtain ⟨b,rfl,h⟩:=h;rw [R.get_ok] at h;refine ⟨0,?_⟩;rw [← h];refine (zmv 0 q b).trans ?_;unfold zh6;cases hp:z5j q with
  | false=>rfl
  | true=>cases b.emp <;> rcases zce hp with e | e | e | e <;> rw [e] <;> rfl
 ·simp [R.get] at h
theorem zgp:z2u PR B0 66 z63:=by
 refine z0f [(109,z58)] [] z63 [[.int .i64,.int .i64,.int .i64,.int .i64,.int .i64,.int .i64,.int .i64,.int .i64,.int .i64,.int .i64]] Tryz.func66 zwj ⟨zfr,trivial⟩ ?_;intro vs r hwf h;unfold z63 at h
 split at h
 ·rename_i q
  replace h:=z2z h;obtain ⟨q,rfl,h⟩:=h;rw [R.get_ok] at h;refine ⟨0,?_⟩;rw [← h];refine (zu4 0 q).trans ?_;unfold z9p;cases hp:z5j q with
  | false=>rfl
  | true=>rcases zce hp with e | e | e | e <;> rw [e] <;> rfl
 ·simp [R.get] at h
theorem zou:z2u PR B0 116 z8d:=by
 refine z0f [(109,z58)] [] z8d [[.int .i64,.int .i64,.int .i64,.int .i64]] Tryz.func116 ztk ⟨zfr,trivial⟩ ?_;intro vs r hwf h;unfold z8d at h
 split at h
 ·rename_i q p t
  replace h:=z2z h;obtain ⟨q,rfl,h⟩:=h;replace h:=zcr h;obtain ⟨p,rfl,h⟩:=h;rw [R.get_ok] at h;refine ⟨0,?_⟩;rw [← h];refine (zqk 0 q p t).trans ?_;unfold z7v;cases hp:z5j q with
  | false=>rfl
  | true=>rcases zce hp with e | e | e | e <;> rw [e] <;> rfl
 ·simp [R.get] at h
def yfq (d i:Int) (s:Sp) (rest:Res):Res:=
 cond (decide (i≥d)) (cond (!((s.lo==0)&&((s.hi==0)&&true))) (some (.bool false,[])) (cond s.emp (some (.bool false,[])) (cond (!(z1r s.lo)) (some (.bool false,[])) (cond (!(z1r s.hi)) (some (.bool false,[])) rest))))
  (cond s.emp (some (.bool false,[])) (cond (!(z1r s.lo)) (some (.bool false,[])) (cond (!(z1r s.hi)) (some (.bool false,[])) rest)))
theorem zr3 (d i:Int) (s:Sp) (rest:Res):yfq d i s rest=cond (y6i d i s) rest (some (.bool false,[])):=by
 unfold yfq y6i;rw [v1f];cases decide (i≥d) <;> cases ((s.lo==0)&&(s.hi==0)) <;> cases s.emp <;> cases z1r s.lo <;> cases z1r s.hi <;> rfl
theorem zp6 (b:Bx) (d:Int):z0y (zu1 6) zio [.tmp 4] [[.bool]] [b.V,.int .i64 d]=yfq d 0 b.s0 (yfq d 1 b.s1 (yfq d 2 b.s2 (yfq d 3 b.s3 (yfq d 4 b.s4 (some (.bool true,[])))))):=by kernel_rfl
theorem zpj:z2u PR B0 107 z8e:=by
 refine z0f [(93,z6d),(155,z7a)] [(2,⟨[1,4,7,8],[],[]⟩)] z8e [[.bool]] Tryz.func107 zue ⟨zev,ziu,trivial⟩ ?_;intro vs r hwf h;unfold z8e at h
 split at h
 ·rename_i b d
  replace h:=z2l h;obtain ⟨b,rfl,h⟩:=h;rw [R.get_ok] at h;refine ⟨6,?_⟩;rw [← h];refine (zp6 b d).trans ?_;rw [zr3,zr3,zr3,zr3,zr3];unfold zx7;cases y6i d 0 b.s0 <;> cases y6i d 1 b.s1 <;> cases y6i d 2 b.s2 <;> cases y6i d 3 b.s3 <;> cases y6i d 4 b.s4 <;> rfl
 ·simp [R.get] at h
theorem zun:z2u PR B0 108 zas:=by
 refine z0f [] [] zas [[.bool]] Tryz.func108 y13 trivial ?_;intro vs r hwf h;unfold zas at h
 split at h
 ·rename_i m q
  replace h:=z3f h;obtain ⟨m,rfl,h⟩:=h;replace h:=z2z h;obtain ⟨q,rfl,h⟩:=h;rw [R.get_ok] at h;refine ⟨0,?_⟩;rw [← h];refine (zys 0 m q).trans ?_;unfold y20;cases (q.k==1) <;> cases (q.k==2) <;> cases (q.k==3) <;> cases decide (q.lo≤q.hi) <;> cases (q.ft==0) <;> cases decide (m.c≥2) <;> cases (q.lo==0) <;> cases (q.hi==0) <;> cases decide (q.ft≥0) <;> cases decide (q.ft < m.d) <;> rfl
 ·simp [R.get] at h
theorem z7i:z2u PR B0 65 z2e:=by
 refine z0f [(53,z1u),(108,zas),(107,z8e)] [] z2e [[.bool]] Tryz.func65 zxt ⟨z5q,zun,zpj,trivial⟩ ?_;intro vs r hwf h;unfold z2e at h
 split at h
 ·rename_i m q
  replace h:=z3f h;obtain ⟨m,rfl,h⟩:=h;replace h:=z2z h;obtain ⟨q,rfl,h⟩:=h;rw [R.get_ok] at h;refine ⟨0,?_⟩;rw [← h];refine (zu6 0 m q).trans ?_;unfold z3c Qy.bx;generalize zx7 _ _=rg;cases z26 m <;> cases decide (q.c≥0) <;> cases decide (q.c < m.c) <;> cases decide (q.bu≥0) <;> cases decide (q.bu≤65536) <;> cases rg <;> rfl
 ·simp [R.get] at h
theorem y2b {w:Int} (hb:zaf w=true) (hl:(z04 w).lf=false):(0≤(z04 w).f∧(z04 w).f < 4)∧(1≤(z04 w).l∧(z04 w).l < 31)∧(1≤(z04 w).r∧(z04 w).r < 31)∧z1r (z04 w).a=true:=by
 have h:=(zqc hb).2;unfold zam at h;rw [hl,z02] at h;unfold zlb at h;simp only [v02,v06] at h;exact ⟨⟨h.2.1,h.2.2.1⟩,h.2.2.2.2.1,h.2.2.2.2.2,h.2.2.2.1⟩
theorem y6h (w:Int):z1r (z04 w).v=true:=by
 cases hb:zaf w with
 | false=>
  have e:z04 w=Nd.zero:=by unfold z04; rw [hb]; rfl
  rw [e]
  rfl
 | true=>
  have h:=(zqc hb).2;unfold zam at h;cases hl:(z04 w).lf with
  | true=>
   rw [hl,z00,v02] at h;exact h.2
  | false=>
   rw [hl,z02,v02,v1d] at h;rw [h.1]
   rfl
abbrev yjb (l:List IV) (p:Pt) (a j:Int):St:=
 ⟨[(0,(.list false [(.int .u64)] l)),(3,(.ptr 3 0 0)),(4,(.int .i64 0)),(5,(.ptr 5 0 0)),(6,(.int .i64 a)),(9,(.int .i64 j))],[(3,(some (.box (Pt.cs p)))),(5,(some (.box [(.bool false),(.int .i64 0),(.int .i64 0),(.int .i64 0),(.int .i64 0),(.int .i64 0)])))]⟩
theorem y5a (N:Nat) (l:List IV) (p:Pt):∀ (m j n:Nat) (a:Int),0≤a→j+m=31→m < n →
  lpE (z2j N) (z0i z4i [1,1,0,1,0,0]) ⟨[0,3,4,5,6,9],[3,5],[]⟩ n (yjb l p a (j:Int)) (z06 0 (kSq (z2j N) (z0i z4i [1,1,1]) (z2v (z2j N) none [(ResultVar.tmp 4),(ResultVar.cell 5 111)] [[(.int .i64)],[.bool,(.int .i64),(.int .i64),(.int .i64),(.int .i64),(.int .i64)]]))) =
   some (.tup [.int .i64 (zvt l p m a).1,(zvt l p m a).2.V],[])
 | m,j,0,a,_,_,h=>absurd h (by omega)
 | 0,j,n+1,a,ha,hd,_=>by
  have hj:j=31:=by omega
  subst hj;rw [z05,zkj,v07 (show ¬ ((31:Nat):Int) < 31 by omega),z02]
  exact zg8 N p l _ _ _ _ _ _ _ _ _
 | m+1,j,n+1,a,ha,hd,hn=>by
  have ej:IntKind.wrap IntKind.i64 ((j:Int)+1)=((j+1:Nat):Int):=z7z (by omega)
  rw [z05,zkj,v01 (show (j:Int) < 31 by omega),z00,zvt,ej]
  cases hge:decide (a≥ic l.length) with
  | true=>
   rw [z00,z00];exact zg8 N p l _ _ _ _ _ _ _ _ _
  | false=>
   have hge:=v0t hge;rw [z02,z02,v01 ha,v01 (show a < ic l.length by omega),v0u,z00]
   generalize (l.getD a.toNat default).toInt=w;cases hb:zaf w with
   | false=>
    rw [v0i,z00,z00];exact zs2 N p l _ _ _ _ _ _ _ _ _
   | true=>
    rw [v0c,z02,z02];cases hl:(z04 w).lf with
    | true=>
     rw [z00,z00]
     rfl
    | false=>
     obtain ⟨⟨f0,f4⟩,⟨l1,l31⟩,⟨r1,r31⟩,_⟩:=y2b hb hl;rw [z02,z02];have step:∀ c:Bool,(cond c (lpE (z2j N) (z0i z4i [1,1,0,1,0,0]) ⟨[0,3,4,5,6,9],[3,5],[]⟩ n (yjb l p (z04 w).l ((j+1:Nat):Int)) (z06 0 (kSq (z2j N) (z0i z4i [1,1,1]) (z2v (z2j N) none [(ResultVar.tmp 4),(ResultVar.cell 5 111)] [[(.int .i64)],[.bool,(.int .i64),(.int .i64),(.int .i64),(.int .i64),(.int .i64)]]))))
       (lpE (z2j N) (z0i z4i [1,1,0,1,0,0]) ⟨[0,3,4,5,6,9],[3,5],[]⟩ n (yjb l p (z04 w).r ((j+1:Nat):Int)) (z06 0 (kSq (z2j N) (z0i z4i [1,1,1]) (z2v (z2j N) none [(ResultVar.tmp 4),(ResultVar.cell 5 111)] [[(.int .i64)],[.bool,(.int .i64),(.int .i64),(.int .i64),(.int .i64),(.int .i64)]]))))) =
       some (.tup [.int .i64 (cond c (zvt l p m (z04 w).l) (zvt l p m (z04 w).r)).1,(cond c (zvt l p m (z04 w).l) (zvt l p m (z04 w).r)).2.V],[]):=fun c=>by
      cases c with
      | true=>exact y5a N l p m (j+1) n (z04 w).l (by omega) (by omega) (by omega)
      | false=>exact y5a N l p m (j+1) n (z04 w).r (by omega) (by omega) (by omega)
     obtain e | e | e | e:(z04 w).f=0∨(z04 w).f=1∨(z04 w).f=2∨(z04 w).f=3:=by omega
     all_goals
      rw [e];exact step _
theorem y2u:z2u PR B0 217 ze4:=by
 refine z0f [(55,z1t)] [(3,⟨[0,3,4,5,6,9],[3,5],[]⟩)] ze4 [[.int .i64],[.bool,.int .i64,.int .i64,.int .i64,.int .i64,.int .i64]] Tryz.func217 y99 ⟨z5n,trivial⟩ ?_;intro vs r hwf h;unfold ze4 at h
 split at h
 ·rename_i l p
  replace h:=zcr h;obtain ⟨p,rfl,h⟩:=h;rw [R.get_ok] at h;refine ⟨32,?_⟩;rw [← h];exact (y43 32 l p).trans (y5a 32 l p 31 0 32 0 (by omega) rfl (by omega))
 ·simp [R.get] at h
theorem zt8:z2u PR B0 195 zav:=by
 refine z0f [(217,ze4)] [] zav [[.int .i64]] Tryz.func195 y2z ⟨y2u,trivial⟩ ?_;intro vs r hwf h;unfold zav at h
 split at h
 ·rename_i l p
  replace h:=zcr h;obtain ⟨p,rfl,h⟩:=h;rw [R.get_ok] at h;exact ⟨0,(zy5 0 l p).trans h⟩
 ·simp [R.get] at h
theorem z4w {n:Int} (h:z1r n=true) : -2147483648≤n∧n≤2147483647:=by
 unfold z1r at h
 simpa only [v02,v06] using h
theorem zxh (l:List IV) (p:Pt):∀ (n:Nat) (a:Int),z1r (zvt l p n a).2.v=true
 | 0,_=>rfl
 | n+1,a=>by
  rw [zvt];cases decide (a≥ic l.length) with
  | true=>rfl
  | false=>
   rw [z02];generalize (l.getD a.toNat default).toInt=w;cases zaf w with
   | false=>rfl
   | true=>
    rw [v0c,z02];cases (z04 w).lf with
    | true=>exact y6h w
    | false=>
     rw [z02];cases decide (p.g (z04 w).f.toNat≤(z04 w).a) with
     | true=>exact zxh l p n _
     | false=>exact zxh l p n _
theorem yfj (l:List IV) (p:Pt) : -2147483648≤zpg l p∧zpg l p≤2147483647:=z4w (zxh l p 31 0)
theorem z1x {m:Md} (h:z26 m=true):(1≤m.d∧m.d≤4)∧(1≤m.c∧m.c≤3)∧m.ts.length≤8∧(z1r m.b0=true∧z1r m.b1=true∧z1r m.b2=true)∧m.ts.all (z7u m.d m.c)=true:=by
 unfold z26 zfz at h;simp only [v02,v12,v14] at h;obtain ⟨⟨h1,h2,h3,h4,h5⟩,⟨h6,h7,h8⟩,h9⟩:=h;exact ⟨⟨by omega,by omega⟩,⟨by omega,by omega⟩,v03 h5,⟨h6.1,h7.1,h8.1⟩,h9⟩
theorem y7r {m:Md} {k:Int} (h:zbu m k=true):0≤k∧k < m.c:=by
 unfold zbu at h
 simpa only [v02,v06] using h
theorem zsg {m:Md} {k:Int} (hm:z26 m=true) (h:zbu m k=true):k=0∨k=1∨k=2:=by
 have:=y7r h
 have:=(z1x hm).2.1
 omega
theorem zxa {m:Md} (hm:z26 m=true) (k:Int) : -2147483648≤zcn m k∧zcn m k≤2147483647:=by
 obtain ⟨h0,h1,h2⟩:=(z1x hm).2.2.2.1;unfold zcn;cases (k==0) with
 | true=>exact z4w h0
 | false=>
  cases (k==1) with
  | true=>exact z4w h1
  | false=>exact z4w h2
abbrev ykd (ts:List IV) (p:Pt) (k s i:Int):St:=
 ⟨[(1,(.int .i64 k)),(5,(.ptr 5 0 0)),(6,(.int .i64 0)),(7,(.int .i64 s)),(15,(.list true [(.int .i64),(.list false [(.int .u64)])] ts)),(16,(.int .i64 (ic (List.length ts)))),(17,(.int .i64 i))],[(5,(some (.box (Pt.cs p))))]⟩
theorem zyy (N:Nat) (ts:List IV) (p:Pt) (k:Int) (hts:ts.length≤8):∀ (m i n:Nat) (s:Int),i+m=ts.length→m < n → -2147483648*(i+1)≤s∧s≤2147483648*(i+1) →
  lpE (z1y N) (z0i z3d [1,1,0,1,0,0]) ⟨[1,5,6,7,15,16,17],[5],[]⟩ n (ykd ts p k s (i:Int)) (z06 0 (kSq (z1y N) (z0i z3d [1,1,1]) (z2v (z1y N) none [(ResultVar.tmp 6)] [[(.int .i64)]]))) =
   some (.int .i64 (evF k p (ts.drop i) s),[])
 | m,i,0,s,_,h,_=>absurd h (by omega)
 | 0,i,n+1,s,hd,_,_=>by
  have hi:i=ts.length:=by omega
  subst hi;rw [z05,zhg,zau (v08 _),z02,v1z];exact zn4 N p _ _ _ _ _ _
 | m+1,i,n+1,s,hd,hn,hs=>by
  have hi:i < ts.length:=by omega
  have ei:IntKind.wrap IntKind.i64 ((i:Int)+1)=((i+1:Nat):Int):=z7z (by omega)
  rw [z05,zhg,ei,z9z hi,z00,zg5,v0u,z00,zbl hi,v0j hi,evF];have hv:=yfj (zdp ts[i]) p;cases hc:((ts[i].cell 0).toInt==k) with
  | true=>
   rw [z00,z00];have ew:IntKind.wrap IntKind.i64 (s+zpg (zdp ts[i]) p)=s+zpg (zdp ts[i]) p:=z15 (by omega) (by omega)
   have ih:=zyy N ts p k hts m (i+1) n (s+zpg (zdp ts[i]) p) (by omega) (by omega) (by omega)
   rw [← ew] at ih;refine v41 ih ?_;rw [ew]
  | false=>
   rw [z02,z02];exact zyy N ts p k hts m (i+1) n s (by omega) (by omega) (by omega)
theorem ztx:z2u PR B0 159 zb0:=by
 refine z0f [(195,zav)] [(3,⟨[1,5,6,7,15,16,17],[5],[]⟩)] zb0 [[.int .i64]] Tryz.func159 y09 ⟨zt8,trivial⟩ ?_;intro vs r hwf h;unfold zb0 at h
 split at h
 ·rename_i m k p
  replace h:=z3f h;obtain ⟨m,rfl,h⟩:=h;replace h:=zcr h;obtain ⟨p,rfl,h⟩:=h;cases hg:(z26 m&&zbu m k) with
  | false=>rw [hg] at h; simp [R.get] at h
  | true=>
  rw [hg,R.get_br,z00,R.get_ok] at h;rw [v02] at hg;have hb:=zxa hg.1 k;have run:=zyy 10 m.ts p k (z1x hg.1).2.2.1 m.ts.length 0 10 (zcn m k) (by omega) (by have:=(z1x hg.1).2.2.1; omega) (by omega)
  refine ⟨10,?_⟩;rw [← h];refine (zy2 10 m k p).trans ?_;rcases zsg hg.1 hg.2 with rfl | rfl | rfl <;> exact run
 ·simp [R.get] at h
theorem zt6:z2u PR B0 115 zbe:=by
 refine z0f [(53,z1u),(159,zb0)] [] zbe [[.int .i64]] Tryz.func115 y25 ⟨z5q,ztx,trivial⟩ ?_;intro vs r hwf h;unfold zbe at h
 split at h
 ·rename_i m k p
  replace h:=z3f h;obtain ⟨m,rfl,h⟩:=h;replace h:=zcr h;obtain ⟨p,rfl,h⟩:=h;rw [R.get_ok] at h;refine ⟨0,?_⟩;rw [← h];refine (zz1 0 m k p).trans ?_;unfold z6f zbu;cases z26 m with
  | false=>rfl
  | true=>
   cases h0:decide (k < 0) with
   | true=>rw [v07 (show ¬ 0≤k by have:=v0d h0; omega)]; rfl
   | false=>
    rw [v01 (show 0≤k by have:=v0t h0; omega)]
    cases h1:decide (k≥m.c) with
    | true=>rw [v07 (show ¬ k < m.c by have:=v0d h1; omega)]; rfl
    | false=>rw [v01 (show k < m.c by have:=v0t h1; omega)]; rfl
 ·simp [R.get] at h
abbrev yjo (m:Md) (q:Qy) (p:Pt) (own i:Int):St:=
 ⟨[(4,(.ptr 4 0 0)),(5,(.ptr 5 0 0)),(6,(.ptr 6 0 0)),(8,(.bool false)),(9,(.int .i64 own)),(36,(.int .i64 (Md.c m))),(37,(.int .i64 i))],[(4,(some (.box (Md.cs m)))),(5,(some (.box (Qy.cs q)))),(6,(some (.box (Pt.cs p))))]⟩
def ycm (m:Md) (q:Qy) (p:Pt) (own:Int):Nat→Nat→Bool
 | 0,_=>false
 | d+1,i=>(!((i:Int)==q.c)&&decide (z6f m (i:Int) p≥own))||ycm m q p own d (i+1)
theorem y6z (m:Md) (q:Qy) (p:Pt) (own:Int):∀ d i,ycm m q p own d i=(List.range' i d).any fun c=>!((c:Int)==q.c)&&decide (z6f m (c:Int) p≥own)
 | 0,_=>rfl
 | d+1,i=>by rw [ycm,y6z m q p own d (i+1),List.range'_succ,List.any_cons]
theorem zuu (N:Nat) (m:Md) (q:Qy) (p:Pt) (own:Int) (hc:0≤m.c∧m.c≤3):∀ (d i n:Nat),((i+d:Nat):Int)=m.c→d < n →
  lpE (z1d N) (z0i z1v [1,1,1,0,1,0,1,1,1,0,0,1,0,0]) ⟨[4,5,6,8,9,36,37],[4,5,6],[]⟩ n (yjo m q p own (i:Int)) (z06 1 (kSq (z1d N) (z0i z1v [1,1,1,0,1,0,1,1,1,0,1]) (z06 0 (kSq (z1d N) (z0i z1v [1,1,1,1]) (z2v (z1d N) none [(ResultVar.tmp 8)] [[.bool]]))))) =
   some (.bool (ycm m q p own d i),[])
 | d,i,0,_,h=>absurd h (by omega)
 | 0,i,n+1,hd,_=>by
  rw [z05,zdx,v07 (show ¬ (i:Int) < m.c by omega),z02]
  exact zjh N m q p _ _ _ _
 | d+1,i,n+1,hd,hn=>by
  have ei:IntKind.wrap IntKind.i64 ((i:Int)+1)=((i+1:Nat):Int):=z7z (by omega)
  rw [z05,zdx,ei,v01 (show (i:Int) < m.c by omega),z00,ycm]
  have ih:=zuu N m q p own hc d (i+1) n (by omega) (by omega)
  have en:((i:Int) != q.c)=!((i:Int)==q.c):=rfl;rw [en];cases ((i:Int)==q.c) with
  | true=>exact ih
  | false=>
   rw [v0i,z00,v0r];cases decide (z6f m (i:Int) p≥own) with
   | true=>exact zjl N m q p _ _ _ _
   | false=>exact ih
theorem z91 {m:Md} {q:Qy} (h:z3c m q=true):z26 m=true∧(0≤q.c∧q.c < m.c)∧(0≤q.bu∧q.bu≤65536)∧zx7 q.bx m.d=true∧y20 m q=true:=by
 unfold z3c at h;simp only [v02,v06] at h;exact ⟨h.1,⟨h.2.1,h.2.2.1⟩,⟨h.2.2.2.1,h.2.2.2.2.1⟩,h.2.2.2.2.2.1,h.2.2.2.2.2.2⟩
theorem zmz {m:Md} {q:Qy} (h:y20 m q=true):(q.k=1∧q.lo≤q.hi∧q.ft=0∧q.fl=false)∨(q.k=2∧2≤m.c∧q.lo=0∧q.hi=0∧q.ft=0∧q.fl=false)∨(q.k=3∧(0≤q.ft∧q.ft < m.d)∧q.lo=0∧q.hi=0):=by
 unfold y20 at h;cases h1:(q.k==1) with
 | true=>
  rw [h1,z00] at h;simp only [v02,v06,v1d,v12] at h;exact .inl ⟨v1d.1 h1,h⟩
 | false=>
  rw [h1,z02] at h;cases h2:(q.k==2) with
  | true=>
   rw [h2,z00] at h;simp only [v02,v06,v1d,v12,ge_iff_le] at h;exact .inr (.inl ⟨v1d.1 h2,h⟩)
  | false=>
   rw [h2,z02] at h;cases h3:(q.k==3) with
   | true=>
    rw [h3,z00] at h;simp only [v02,v06,v1d,ge_iff_le] at h;exact .inr (.inr ⟨v1d.1 h3,⟨h.1,h.2.1⟩,h.2.2⟩)
   | false=>rw [h3,z02] at h; cases h
theorem zfp:z2u PR B0 70 z5b:=by
 refine z0f [(115,zbe),(65,z2e),(116,z8d),(114,zac)] [(9,⟨[4,5,6,8,9,36,37],[4,5,6],[]⟩)] z5b [[.bool]] Tryz.func70 zt7 ⟨zt6,z7i,zou,zop,trivial⟩ ?_;intro vs r hwf h;unfold z5b at h
 split at h
 ·rename_i m q p t
  replace h:=z3f h;obtain ⟨m,rfl,h⟩:=h;replace h:=z2z h;obtain ⟨q,rfl,h⟩:=h;replace h:=zcr h;obtain ⟨p,rfl,h⟩:=h;rw [R.get_ok] at h;refine ⟨10,?_⟩;rw [← h];refine (zrv 10 m q p t).trans ?_;unfold z5o;cases hr:z3c m q with
  | false=>rfl
  | true=>
   obtain ⟨hm,_,_,_,hk⟩:=z91 hr;have hmp:=z1x hm;rw [v0c,z02,v0r];cases h1:(q.k==1) with
   | true=>rfl
   | false=>
    rw [z02,z02];cases h2:(q.k==2) with
    | true=>
     rw [z00,z00];refine (zuu 10 m q p _ (by omega) m.c.toNat 0 10 (by omega) (by omega)).trans ?_
     rw [y6z,← v3m]
     rfl
    | false=>
     rw [z02,z02];rcases zmz hk with ⟨e,_⟩ | ⟨e,_⟩ | ⟨_,⟨f0,fd⟩,_⟩
     ·rw [e] at h1; cases h1
     ·rw [e] at h2; cases h2
     ·have step:∀ x:Int,cond (decide (x≥t)) (some (V.bool false,[])) (cond q.fl (some (V.bool (decide (z6f m q.c (z7v q p t) > z6f m q.c p)),[])) (some (V.bool (decide (z6f m q.c (z7v q p t) < z6f m q.c p)),[]))) =
        some (V.bool (cond (decide (x≥t)) false (cond q.fl (decide (z6f m q.c (z7v q p t) > z6f m q.c p)) (decide (z6f m q.c (z7v q p t) < z6f m q.c p)))),([]:List (List V))):=fun x=>by
       cases decide (x≥t) with
       | true=>rfl
       | false=>cases q.fl <;> rfl
      obtain e | e | e | e:q.ft=0∨q.ft=1∨q.ft=2∨q.ft=3:=by omega
      all_goals
       rw [e];exact step _
 ·simp [R.get] at h
open Go Go.Proofs Go.RowKit Go.Sort
theorem zs5 (x:Int):∀ l,(yh8 x l).Perm (x :: l)
 | []=>List.Perm.refl _
 | y :: r=>by
  rw [yh8];cases decide (x≤y) with
  | true=>exact List.Perm.refl _
  | false=>exact ((zs5 x r).cons y).trans (List.Perm.swap x y r)
theorem zc5:∀ l,(zg2 l).Perm l
 | []=>List.Perm.refl _
 | x :: r=>(zs5 x (zg2 r)).trans ((zc5 r).cons x)
theorem zsc (x:Int):∀ {l:List Int},l.Pairwise (·≤·)→(yh8 x l).Pairwise (·≤·)
 | [],_=>by simp [yh8]
 | y :: r,h=>by
  rw [yh8];cases hd:decide (x≤y) with
  | true=>
   have hd:=v0d hd;rw [z00];rw [List.pairwise_cons] at h ⊢
   refine ⟨fun z hz=>?_,by rw [List.pairwise_cons]; exact h⟩
   rcases v13.1 hz with rfl | hz
   ·exact hd
   ·exact Int.le_trans hd (h.1 z hz)
  | false=>
   have hd:=v0t hd;rw [z02];rw [List.pairwise_cons] at h ⊢
   refine ⟨fun z hz=>?_,zsc x h.2⟩
   rcases v13.1 ((zs5 x r).mem_iff.1 hz) with rfl | hz
   ·omega
   ·exact h.1 z hz
theorem zoa:∀ l,(zg2 l).Pairwise (·≤·)
 | []=>List.Pairwise.nil
 | x :: r=>zsc x (zoa r)
theorem y50 (l:List Int):(l.mergeSort fun x y=>decide (x≤y))=zg2 l:=by
 refine List.Perm.eq_of_pairwise (le:=(·≤·)) (fun a b _ _ h1 h2=>Int.le_antisymm h1 h2) ?_ (zoa l) ((List.mergeSort_perm l _).trans (zc5 l).symm)
 have:=List.pairwise_mergeSort (le:=fun (x y:Int)=>decide (x≤y)) (fun a b c h1 h2=>v01 (Int.le_trans (v0d h1) (v0d h2))) (fun a b=>by
  rcases Int.le_total a b with h | h
  ·rw [v01 h]; rfl
  ·rw [v01 h,Bool.or_true]) l
 exact this.imp fun h=>by simpa using h
theorem y1k (x:Int):∀ (l:List Int) (p:Int),y9i p (l++[x])=y9i p l++cond ((l.getLast?.getD p)==x) [] [x]
 | [],p=>by
  show cond (x==p) (y9i x []) (x :: y9i x [])=_;rw [show ((([]:List Int).getLast?.getD p)==x)=(x==p) by show (p==x)=(x==p); rw [v2r,v1d,v1d]; exact eq_comm]
  cases (x==p) <;> rfl
 | y :: r,p=>by
  rw [v1x,y9i,y9i,y1k x r y];have e:((y :: r).getLast?.getD p)=r.getLast?.getD y:=by
   cases r with
   | nil=>rfl
   | cons z r=>rw [List.getLast?_cons_cons,List.getLast?_eq_some_getLast (List.cons_ne_nil z r)]; rfl
  rw [e];cases (y==p) <;> rfl
theorem yai (x:Int) (l:List Int):y0g (l++[x])=y0g l++cond (l.getLast?==some x) [] [x]:=by
 cases l with
 | nil=>rfl
 | cons y r=>
  rw [v1x,y0g,y0g,y1k,v1x]
  congr 2
  have:((y :: r).getLast?==some x)=(r.getLast?.getD y==x):=by
   cases r with
   | nil=>show (some y==some x)=(y==x); rw [v2r]; simp
   | cons z r=>rw [List.getLast?_cons_cons,List.getLast?_eq_some_getLast (List.cons_ne_nil z r)]; rw [v2r]; simp
  rw [this]
theorem zzs (l:List Int):Lib.compact l=y0g l:=by
 have key:∀ m,m≤l.length→Lib.compactUpTo l.toArray m=y0g (l.take m):=by
  intro m
  induction m with
  | zero=>intro _; rfl
  | succ m ih=>
   intro hm;have e1:Lib.compactUpTo l.toArray (m+1)=Lib.compactUpTo l.toArray m++cond (Lib.keeps l.toArray m) [l.toArray[m]!] []:=by
    unfold Lib.compactUpTo;rw [List.range_succ,List.filter_append,v3k]
    congr 1
    cases hk:Lib.keeps l.toArray m <;> simp [hk]
   have hml:m < l.length:=by omega
   have e2:l.toArray[m]! = l[m]:=by simp [hml]
   rw [e1,ih (by omega),List.take_succ_eq_append_getElem hml,yai,e2]
   congr 1
   cases m with
   | zero=>simp [Lib.keeps]
   | succ k=>
    have hk:k < l.length:=by omega
    have e3:(l.take (k+1)).getLast?=some l[k]:=by rw [List.getLast?_take]; simp [hk]
    rw [e3];have e4:l.toArray[k]! = l[k]:=by simp [hk]
    cases hq:Lib.keeps l.toArray (k+1) with
    | true=>
     have:¬ (l[k+1]=l[k]):=fun he=>by
      rw [Lib.keeps_neg (Nat.succ_pos k) (by show l.toArray[k+1]! = l.toArray[k]!; rw [e2,e4]; exact he)] at hq
      cases hq
     rw [z00];rw [show (some l[k]==some l[k+1])=false by simp; exact fun h=>this h.symm]
     rfl
    | false=>
     have:l[k+1]=l[k]:=by
      by_cases he:l[k+1]=l[k]
      ·exact he
      ·rw [Lib.keeps_pos (by show l.toArray[k+1]!≠l.toArray[k]!; rw [e2,e4]; exact he)] at hq
       cases hq
     rw [z02,this];rw [show (some l[k]==some l[k])=true by simp]
     rfl
 unfold Lib.compact;rw [key _ (v08 _),v0w]
theorem y7b:∀ (l:List Int) (p:Int),(y9i p l).length≤l.length
 | [],_=>v08 _
 | x :: r,p=>by
  have:=y7b r x
  rw [y9i];cases (x==p)
  ·rw [z02,v05,v05]; omega
  ·rw [z00,v05]; omega
theorem zyn (l:List Int):(y0g l).length≤l.length:=by
 cases l with
 | nil=>exact v08 _
 | cons x r=>rw [y0g,v05,v05]; have:=y7b r x; omega
theorem zxk {p x:Int}:∀ {l:List Int},x∈y9i p l→x∈l
 | [],h=>by cases h
 | y :: r,h=>by
  rw [y9i] at h;cases hb:(y==p)
  ·rw [hb,z02] at h
   rcases v13.1 h with h | h
   ·exact h ▸ v09 ..
   ·exact v0b _ (zxk h)
  ·rw [hb,z00] at h
   exact v0b _ (zxk h)
theorem ydi {x:Int} {l:List Int} (h:x∈y0g l):x∈l:=by
 cases l with
 | nil=>cases h
 | cons y r=>
  rcases v13.1 h with h | h
  ·exact h ▸ v09 ..
  ·exact v0b _ (zxk h)
theorem zhf (l:List Int):(iZ l).length=l.length:=v15 ..
theorem zyd (l:List Int):(iZ l).map IV.toInt=l:=by
 unfold iZ;rw [v40];exact List.map_id l
theorem zsj (l:List Int):zcu (iZ l)=l.map (Value.int .i64):=by
 unfold zcu iZ;rw [v40]
 rfl
theorem y98 (l:List IV):zcu l=(l.map IV.toInt).map (Value.int .i64):=by
 unfold zcu;rw [v40]
 rfl
abbrev zu5:Int→Value:=Value.int .i64
theorem zkf {w:World} {e g n cap:Nat} {zs:List Int} (h:w.ownsRow 0 e 1 (.slice (some ⟨g,0,none⟩) n cap) zs.length (zs.map zu5)):n=zs.length∧n≤cap∧cap≤maxLen∧g < w.heap.size∧Holds zu5 w g 0 zs.toArray:=by
 rcases h.2 with ⟨h1,_⟩ | ⟨g',cap',cur,h1,_,h2,h3,h4,h5,h6⟩
 ·cases h1
 ·simp only [Value.slice.injEq,v00,Addr.mk.injEq,v18] at h1
  obtain ⟨rfl,rfl,rfl⟩:=h1;refine ⟨rfl,h3,h4,(Array.getElem?_eq_some_iff.1 h2).1,fun j hj=>?_⟩
  have hj':j < zs.length:=by simpa using hj
  rw [v0n];constructor
  ·have hc:cur[j]?=some (zu5 zs[j]):=by
    have:(cur.toList.take (zs.length*1))[j]?=some (zu5 zs[j]):=by rw [h6]; simp [hj']
    rw [v0z,v1c (by omega)] at this
    simpa using this
   simp only [World.cell?,h2];simp [hc,hj']
  ·simp [World.frozen?,h2]
theorem yeu {w:World} {g:Nat} {cur:Array Value} {e:TypeId} {fr:Nat × Nat} (h:w.heap[g]?=some (.cells cur e fr)) (q:Nat) (os:Array Obj) (zs:List Int) :
  (grow (putRow zu5 (Sort.ahead w q) g 0 zs.toArray) os).heap[g]?=some (.cells (putCells zu5 0 zs.toArray cur) e fr):=by
 have hg:g < w.heap.size:=(Array.getElem?_eq_some_iff.1 h).1;have h0:(putRow zu5 (Sort.ahead w q) g 0 zs.toArray).heap[g]?=some (.cells (putCells zu5 0 zs.toArray cur) e fr):=by
  unfold putRow mapBlock;simp [v35,onCells,h]
 unfold grow;simp only;rw [v2z (by rw [size_putRow]; exact hg)]
 exact h0
theorem ycf {cur:Array Value} {zs:List Int} (h:zs.length≤cur.size):(putCells zu5 0 zs.toArray cur).size=cur.size∧(putCells zu5 0 zs.toArray cur).toList.take zs.length=zs.map zu5:=by
 refine ⟨by simp [putCells],?_⟩
 apply List.ext_getElem?;intro k;rw [v0z]
 by_cases hk:k < zs.length
 ·rw [v1c hk]
  have hc:k < cur.size:=by omega
  simp [putCells,hk,hc]
 ·rw [v0x hk]
  simp [hk]
theorem y58 {w:World} {e g n cap:Nat} {zs:List Int} (h:w.ownsRow 0 e 1 (.slice (some ⟨g,0,none⟩) n cap) zs.length (zs.map zu5)) (q:Nat) (os:Array Obj) (ys rest:List Int) (hl:(ys++rest).length=zs.length) :
  w.grownBy (grow (putRow zu5 (Sort.ahead w q) g 0 (ys++rest).toArray) os) (some g) ∧
   (grow (putRow zu5 (Sort.ahead w q) g 0 (ys++rest).toArray) os).ownsRow 0 e 1 (.slice (some ⟨g,0,none⟩) ys.length cap) ys.length (ys.map zu5):=by
 have hh:=zkf h;rcases h.2 with ⟨h1,_⟩ | ⟨g',cap',cur,h1,_,h2,h3,h4,h5,h6⟩
 ·cases h1
 ·simp only [Value.slice.injEq,v00,Addr.mk.injEq,v18] at h1
  obtain ⟨rfl,rfl,rfl⟩:=h1;rw [v0a] at hl;have hcur:(ys++rest).length≤cur.size:=by rw [v0a]; omega
  obtain ⟨p1,p2⟩:=ycf (zs:=ys++rest) hcur;refine ⟨⟨rfl,rfl,rfl,?_,fun k hk hne=>?_⟩,by simp,.inr ⟨g,cap,_,rfl,v0y _,yeu h2 q os _,by omega,h4,by rw [p1,h5],?_⟩⟩
  ·show w.heap.size≤((putRow zu5 (Sort.ahead w q) g 0 (ys++rest).toArray).heap++os).size
   rw [Array.size_append,size_putRow];exact Nat.le_add_right _ _
  ·have hne':g≠k:=fun e=>hne (by rw [e])
   unfold grow;simp only;rw [v2z (by rw [size_putRow]; exact hk)]
   unfold putRow mapBlock;simp [v35,hne']
  ·rw [v3u]
   have:=congrArg (List.take ys.length) p2
   rw [v3n,v1y (by rw [v0a]; omega),v3k,List.take_left' (by simp)] at this
   exact this
theorem zvv (w:World) (r:Option Nat):w.grownBy w r:=⟨rfl,rfl,rfl,v08 _,fun _ _ _=>rfl⟩
theorem ycy {l:List IV} (h:∀ x∈l,IntKind.i64.min≤x.toInt∧x.toInt≤IntKind.i64.max) {ys:List Int} (hs:∀ y∈ys,y∈l.map IV.toInt):∀ x∈iZ ys,IntKind.i64.min≤x.toInt∧x.toInt≤IntKind.i64.max:=by
 intro x hx;obtain ⟨y,hy,rfl⟩:=List.mem_map.1 hx;obtain ⟨z,hz,hzy⟩:=List.mem_map.1 (hs y hy);show IntKind.i64.min≤y∧y≤IntKind.i64.max;rw [← hzy];exact h z hz
theorem zrg {w:World} {e:Nat} {v:Value} {l:List IV} (h:w.ownsRow 0 e 1 v l.length (zcu l)):(v = .slice none 0 0∧l=[])∨∃ g cap,v = .slice (some ⟨g,0,none⟩) (l.map IV.toInt).length cap∧w.ownsRow 0 e 1 (.slice (some ⟨g,0,none⟩) (l.map IV.toInt).length cap) (l.map IV.toInt).length ((l.map IV.toInt).map zu5):=by
 rcases h.2 with ⟨h1,h2⟩ | ⟨g,cap,cur,h1,_⟩
 ·exact .inl ⟨h1,List.length_eq_zero_iff.1 h2⟩
 ·rw [h1] at h
  refine .inr ⟨g,cap,by rw [h1,v15],?_⟩
  rw [v15,← y98];exact h
theorem y88:zwu PR 201 y70:=by
 intro w v l l' rs ys hown hrng hlen hr hg;unfold y70 at hg;simp only at hg
 split at hg
 ·simp only [v00] at hg
  subst hg;obtain rfl:ys=[]:=by
   cases ys with
   | nil=>rfl
   | cons y ys=>simp [zo3] at hr
  refine Does.of_calls Tryz.func201 (by kernel_rfl) (by kernel_rfl) ?_
  have hmem:∀ y∈zg2 (l.map IV.toInt),y∈l.map IV.toInt:=fun y hy=>(zc5 _).mem_iff.1 hy
  rcases zrg hown with ⟨rfl,rfl⟩ | ⟨g,cap,rfl,ho⟩
  ·refine (Tryz.slices_Sort_int_none none 0 w).mono ?_
   rintro e w' ⟨rfl,rfl⟩
   exact ⟨_,rfl,zvv _ _,fun x hx=>(by cases hx),fun h=>(by cases h),fun _=>hown⟩
  ·obtain ⟨_,_,hcm,hgs,hH⟩:=zkf ho
   refine (Tryz.slices_Sort_int g 0 cap (l.map IV.toInt) w hH hgs (by rw [v15]; unfold strMax at hlen; omega)).mono ?_
   rintro e w' ⟨rfl,q,os,rfl⟩
   rw [y50];have hl:(zg2 (l.map IV.toInt)++[]).length=(l.map IV.toInt).length:=by rw [v2k]; exact (zc5 _).length_eq
   have hp:=y58 ho q os (zg2 (l.map IV.toInt)) [] hl;rw [v2k] at hp hl;refine ⟨_,rfl,hp.1,ycy hrng hmem,fun h=>(by cases h),fun _=>?_⟩
   rw [zsj,zhf,← hl];exact hp.2
 ·cases hg
theorem zxr:zwu PR 202 zkl:=by
 intro w v l l' rs ys hown hrng hlen hr hg;unfold zkl at hg;simp only at hg
 split at hg
 ·simp only [v00] at hg
  subst hg;obtain rfl:ys=[]:=by
   cases ys with
   | nil=>rfl
   | cons y ys=>simp [zo3] at hr
  refine Does.of_calls Tryz.func202 (by kernel_rfl) (by kernel_rfl) ?_
  rcases zrg hown with ⟨rfl,rfl⟩ | ⟨g,cap,rfl,ho⟩
  ·refine (Tryz.slices_Compact_int_empty none 0 w).mono ?_
   rintro e w' ⟨rfl,rfl⟩
   exact ⟨_,rfl,zvv _ _,fun x hx=>(by cases hx),fun _=>⟨hown,fun b hb=>(by simp [Value.ownBlock] at hb)⟩,fun h=>by cases h⟩
  ·obtain ⟨_,hnc,hcm,hgs,hH⟩:=zkf ho
   refine (Tryz.slices_Compact_int g 0 cap (l.map IV.toInt) w hH (by rw [v15]; unfold strMax at hlen; omega) hnc).mono ?_
   rintro e w' ⟨rfl,q,rfl⟩
   rw [zzs];have hlc:=zyn (l.map IV.toInt);have hp:=y58 ho q #[] (y0g (l.map IV.toInt)) (List.replicate ((l.map IV.toInt).length - (y0g (l.map IV.toInt)).length) 0) (by rw [v0a,v33]; omega)
   rw [grow_empty] at hp;refine ⟨_,rfl,hp.1,ycy hrng fun y hy=>ydi hy,fun _=>⟨?_,fun b hb=>.inl hb⟩,fun h=>by cases h⟩
   rw [zsj,zhf];exact hp.2
 ·cases hg
set_option maxHeartbeats 1000000 in
theorem zvy (a b x:Int) (B:Nat) (W:World) (ha:W.cell? ⟨B,0,none⟩=some (.int .i64 a)) (hb:W.cell? ⟨B,1,none⟩=some (.int .i64 b)) :
  FnGives Tryz.prog 169 #[.pointer (some ⟨B,0,none⟩)] #[.int .i64 x] (.bool (decide (x < a)||decide (x≥b))) W:=by
 show Calls Tryz.prog 169 #[.int .i64 x,.pointer (some ⟨B,0,none⟩)] W _
 go_enter Tryz.func169,Tryz.ntmps169
 go_wp2
 all_goals (go_ret; exact ⟨by simp_all,0,rfl⟩)
set_option maxHeartbeats 1000000 in
theorem y8j (fv:Value) (w:World):Calls Tryz.prog 167 #[.slice none 0 0,fv] w fun e w'=>e = .returned (.slice none 0 0)∧∃ q,w'=w.drewN q:=by
 go_enter Tryz.func167,Tryz.ntmps167
 go_wp2_with (go_at_call 200; refine (Tryz.slices_IndexFunc_empty (α:=Int) none 0 fv _).mono ?_; rintro e w' ⟨rfl,rfl⟩)
 go_ret
 exact ⟨rfl,0,rfl⟩
theorem y9f {w:World} {v:Value} {f:Nat} {a b:Int} {ys:List Value} (h:zo3 w v [.clo f [.bor [.int .i64 a,.int .i64 b]]] ys):∃ B,ys=[.func (.func f) #[] #[.pointer (some ⟨B,0,none⟩)]]∧B < w.heap.size∧w.cell? ⟨B,0,none⟩=some (.int .i64 a)∧w.cell? ⟨B,1,none⟩=some (.int .i64 b)∧v.ownBlock≠some B:=by
 cases ys with
 | nil=>simp [zo3] at h
 | cons y r=>
  cases r with
  | cons _ _=>simp [zo3] at h
  | nil=>
   simp only [zo3] at h;obtain ⟨B,c,T,rfl,hh,hc,hne⟩:=h;refine ⟨B,rfl,(Array.getElem?_eq_some_iff.1 hh).1,?_,?_,hne⟩
   ·simp only [World.cell?,hh]
    rw [← v1s,hc]
    rfl
   ·simp only [World.cell?,hh]
    rw [← v1s,hc]
    rfl
theorem y1x:zwu PR 167 zpo:=by
 intro w v l l' rs ys hown hrng hlen hr hg;unfold zpo at hg;simp only at hg
 split at hg
 ·rename_i f a b
  cases hf:Nat.beq f 169 with
  | false=>rw [hf,z02] at hg; cases hg
  | true=>
   rw [hf,z00,v00] at hg;subst hg;obtain rfl:=z1j.1 hf;obtain ⟨B,rfl,hBs,ha,hb,hne⟩:=y9f hr;have pe:zmk a b (l.map IV.toInt)=(l.map IV.toInt).filter fun x=>!(decide (x < a)||decide (x≥b)):=rfl
   have eg:∀ args w,(callFunc 169 args).run Tryz.prog w = .ok (.enter 169 args) w:=enters_of Tryz.func169 (by kernel_rfl) rfl
   have hp:PredAt Tryz.prog 169 #[.pointer (some ⟨B,0,none⟩)] zu5 (fun x=>decide (x < a)||decide (x≥b)) w:=
    fun W x hbw=>zvy a b x B W ((hbw.cell (p:=⟨B,0,none⟩) hBs).trans ha) ((hbw.cell (p:=⟨B,1,none⟩) hBs).trans hb)
   rcases zrg hown with ⟨rfl,rfl⟩ | ⟨g,cap,rfl,ho⟩
   ·refine Does.of_calls Tryz.func167 (by kernel_rfl) (by kernel_rfl) ((y8j _ w).mono ?_)
    rintro e w' ⟨rfl,q,rfl⟩
    exact ⟨_,rfl,⟨rfl,rfl,rfl,v08 _,fun _ _ _=>rfl⟩,fun x hx=>(by cases hx),fun _=>⟨World.ownsRow_nil _ 0 _ _,fun b hb=>(by simp [Value.ownBlock] at hb)⟩,fun h=>by cases h⟩
   ·obtain ⟨_,hnc,hcm,hgs,hH⟩:=zkf ho
    have hBg:B≠g:=fun e=>hne (by rw [e]; rfl)
    have hpo:PredOver Tryz.prog 169 #[.pointer (some ⟨B,0,none⟩)] zu5 (fun x=>decide (x < a)||decide (x≥b)) g 0 (l.map IV.toInt).toArray.size w:=
     fun n os dk x _=>by
      have hcell:∀ o u,w.cell? ⟨B,o,none⟩=some u→(sortWorld zu5 w g 0 n dk os).cell? ⟨B,o,none⟩=some u:=fun o u hu=>by
       unfold sortWorld;rw [cell?_grow _ _ _ (by show B < (putRow _ _ _ _ _).heap.size; rw [size_putRow]; exact hBs),cell?_putRow_other _ _ g 0 _ _ (Or.inl hBg)]
       exact hu
      exact zvy a b x B _ (hcell 0 _ ha) (hcell 1 _ hb)
    refine Does.of_calls Tryz.func167 (by kernel_rfl) (by kernel_rfl) ?_
    have hcall:=Tryz.slices_DeleteFunc zu5 (fun _=>rfl) (fun x=>decide (x < a)||decide (x≥b)) 169 #[.pointer (some ⟨B,0,none⟩)] eg 0 Tryz.zeroValue3 g 0 cap (l.map IV.toInt).toArray w hp hpo hH (by simp; unfold strMax at hlen; omega) (by simp; rw [v15] at hnc; exact hnc)
    have es:(l.map IV.toInt).toArray.size=(l.map IV.toInt).length:=by simp
    rw [es] at hcall;refine hcall.mono ?_
    rintro e w' ⟨rfl,q,rfl⟩
    have ef:(l.map IV.toInt).toArray.toList.filter (fun x=>!(decide (x < a)||decide (x≥b)))=zmk a b (l.map IV.toInt):=rfl
    rw [ef];have hlc:(zmk a b (l.map IV.toInt)).length≤(l.map IV.toInt).length:=v3y ..
    have hp2:=y58 ho q #[] (zmk a b (l.map IV.toInt)) (List.replicate ((l.map IV.toInt).length - (zmk a b (l.map IV.toInt)).length) 0) (by rw [v0a,v33]; omega)
    rw [grow_empty] at hp2;refine ⟨_,rfl,hp2.1,ycy hrng fun y hy=>(List.mem_filter.1 hy).1,fun _=>⟨?_,fun b hb=>.inl hb⟩,fun h=>by cases h⟩
    rw [zsj,zhf];exact hp2.2
 ·cases hg
open Go Go.Proofs
set_option maxRecDepth 100000
theorem y3h {dim n:Int}:∀ {l:List IV} {i k:Nat} (hk:k < l.length),zcl dim n i l=true→zaf (l[k]).toInt=true∧zxf dim n (i+k) (z04 (l[k]).toInt)=true
 | [],i,k,hk,_=>absurd hk (Nat.not_lt_zero k)
 | w :: r,i,0,hk,h=>by
  rw [zcl] at h;simp only [v02] at h;exact h.1
 | w :: r,i,k+1,hk,h=>by
  rw [zcl,v02] at h
  have:=y3h (k:=k) (by simpa using hk) h.2
  rw [show i+1+k=i+(k+1) by omega] at this
  exact this
theorem zf1 {l:List IV} {dim:Int} (h:z8v l dim=true):(1≤l.length∧l.length≤31)∧(∀ k (hk:k < l.length),zaf (l[k]).toInt=true∧zxf dim (ic l.length) k (z04 (l[k]).toInt)=true)∧yao l=true:=by
 unfold z8v at h;simp only [v02] at h;refine ⟨⟨v03 h.1.1,v03 h.1.2⟩,fun k hk=>?_,h.2.2⟩
 have:=y3h hk h.2.1
 rwa [v0n] at this
theorem y5h {dim n:Int} {i:Nat} {x:Nd} (h:zxf dim n i x=true) (hl:x.lf=false):x.f < dim∧x.l≠x.r∧((i:Int) < x.l∧(i:Int) < x.r)∧(x.l < n∧x.r < n):=by
 unfold zxf at h;rw [hl,z02] at h;simp only [v02,v12,v14,v1i] at h;obtain ⟨h1,h2,h3,h4⟩:=h;exact ⟨by omega,h2,by omega,by omega⟩
theorem y86 {l:List IV} {d e:Int} (h:z8v l d=true) (hde:d≤e):z8v l e=true:=by
 have key:∀ (l:List IV) (n:Int) (i:Nat),zcl d n i l=true→zcl e n i l=true:=by
  intro l n
  induction l with
  | nil=>intro _ _; rfl
  | cons w r ih=>
   intro i h;rw [zcl] at h ⊢
   simp only [v02] at h ⊢
   refine ⟨⟨h.1.1,?_⟩,ih _ h.2⟩;have h2:=h.1.2;unfold zxf at h2 ⊢
   cases hl:(z04 w.toInt).lf with
   | true=>rfl
   | false=>
    rw [hl,z02] at h2;rw [z02];simp only [v02,v12,v14] at h2 ⊢
    exact ⟨by omega,h2.2⟩
 unfold z8v at h ⊢
 simp only [v02] at h ⊢
 exact ⟨h.1,key _ _ _ h.2.1,h.2.2⟩
abbrev kpL:KP:=⟨[4,5,6,24,25,26],[20,500],[⟨(.tmp 6),500,275,true,zcy⟩]⟩
abbrev yka (l:List IV) (i:Int) (own out:List IV):St:=
 ⟨[(4,.zs),(5,(.row 20 0 l.length)),(6,(.row 500 0 out.length)),(24,(.list false [(.int .u64)] l)),(25,(.int .i64 (ic (List.length l)))),(26,(.int .i64 i))],[(20,(some (.row true 36 true za2 own))),(500,(some (.row true 275 true zcy out)))]⟩
theorem zhs (N:Nat) (l:List IV) (ht:z8v l 4=true):∀ (m i n:Nat) (own out:List IV),i+m=l.length→m < n→own.length=l.length→out.length≤i →
  lpE (z3o N) (z0i z4x [1,1,1,1,1,0,1,0,0]) kpL n (yka l (i:Int) own out) (z06 0 (kSq (z3o N) (z0i z4x [1,1,1,1,1,1]) (z2v (z3o N) none [(ResultVar.tmp 4)] [[(.list true zcy)]]))) =
   some (.list true zcy (zmj (l.drop i) i own out),[])
 | m,i,0,_,_,_,h,_,_=>absurd h (by omega)
 | 0,i,n+1,own,out,hd,_,_,_=>by
  have hi:i=l.length:=by omega
  subst hi;rw [z05,zfu,zau (v08 _),z02,zkp,v1z,zmj,v11,v0w]
 | m+1,i,n+1,own,out,hd,hn,ho,hu=>by
  obtain ⟨⟨l1,l31⟩,hat,_⟩:=zf1 ht;have hi:i < l.length:=by omega
  have ei:IntKind.wrap IntKind.i64 ((i:Int)+1)=((i+1:Nat):Int):=z7z (by omega)
  obtain ⟨hb,hf⟩:=hat i hi;have io:decide ((i:Int) < ic (l.length - 0))=true:=z9z hi;rw [z05,zfu,ei,z9z hi,z00,zg5,v0u,z00,zbl hi,io,v0u,v0l,v0j hi,zmj];simp only [v0n];cases hl:(z04 (l[i]).toInt).lf with
  | true=>
   rw [v0c,z02,z00,z00,v0r];have e1:zfn (z04 (l[i]).toInt) i own=own:=by unfold zfn; rw [hl,z00]
   rw [e1];cases (bxI (own.getD i default)).emp with
   | true=>exact zhs N l ht m (i+1) n own out (by omega) (by omega) ho (by omega)
   | false=>
    have ih:=zhs N l ht m (i+1) n own (out++[pcI (bxI (own.getD i default)) (z04 (l[i]).toInt).v]) (by omega) (by omega) ho (by rw [v0a]; simp; omega)
    unfold yka at ih;rw [v0a,v2h] at ih;rw [v0i,z00,z00,v01 (show (out.length+1)*88≤z09 by unfold z09; omega),z00,v0w]
    exact ih
  | false=>
   obtain ⟨f4,_,_,⟨ln,rn⟩⟩:=y5h hf hl;obtain ⟨⟨f0,_⟩,⟨a1,_⟩,⟨b1,_⟩,_⟩:=y2b hb hl;have hp:zma (z04 (l[i]).toInt).f=true:=by unfold zma; rw [v01 f0,v01 (by omega)]; rfl
   have el:(decide (0≤(z04 (l[i]).toInt).l)&&decide ((z04 (l[i]).toInt).l < ic (l.length - 0)))=true:=by rw [v01 (by omega),v01 (show (z04 (l[i]).toInt).l < ic (l.length - 0) from ln)]; rfl
   have er:(decide (0≤(z04 (l[i]).toInt).r)&&decide ((z04 (l[i]).toInt).r < ic (l.length - 0)))=true:=by rw [v01 (by omega),v01 (show (z04 (l[i]).toInt).r < ic (l.length - 0) from rn)]; rfl
   rw [v0i,z00,z00,hp,z00,el,z00,er,z00,v0v,z02];have e1:zfn (z04 (l[i]).toInt) i own=(own.set (z04 (l[i]).toInt).l.toNat ((bxI (own.getD i default)).cutL (z04 (l[i]).toInt).f (z04 (l[i]).toInt).a).I).set (z04 (l[i]).toInt).r.toNat ((bxI (own.getD i default)).cutH (z04 (l[i]).toInt).f (z04 (l[i]).toInt).a).I:=by unfold zfn; rw [hl,z02]
   rw [e1];exact zhs N l ht m (i+1) n _ out (by omega) (by omega) (by rw [v2e,v2e]; exact ho) (by omega)
theorem zse:z2u PR B0 218 z9m:=by
 refine z0f [(111,z74),(112,z29),(55,z1t),(96,z7e)] [(7,⟨[4,5,6,24,25,26],[20,500],[⟨.tmp 6,500,275,true,[.int .i64,.int .i64,.int .i64,.int .i64,.int .i64,.int .i64,.int .i64,.int .i64,.int .i64,.int .i64,.int .i64]⟩]⟩)] z9m [[.list true [.int .i64,.int .i64,.int .i64,.int .i64,.int .i64,.int .i64,.int .i64,.int .i64,.int .i64,.int .i64,.int .i64]]] Tryz.func218 zyx ⟨zf4,z6j,z5n,zif,trivial⟩ ?_;intro vs r hwf h;unfold z9m at h
 split at h
 ·rename_i l b
  replace h:=z2l h;obtain ⟨b,rfl,h⟩:=h;rw [R.get_ok] at h;refine ⟨40,?_⟩;rw [← h];refine (zt5 40 l b).trans ?_;unfold z45;cases ht:z8v l 4 with
  | false=>rfl
  | true=>
   rw [v0c,z02,v0r];cases b.emp with
   | true=>rfl
   | false=>
    obtain ⟨⟨l1,l31⟩,_,_⟩:=zf1 ht;have run:=zhs 40 l ht l.length 0 40 ((List.replicate l.length bx0.I).set 0 b.I) [] (by omega) (by omega) (by simp) (v0y _)
    rw [z02,v01 (show (0:Int)≤ic l.length by simp only [ic]; omega),v01 (show ic l.length=ic l.length from rfl),v01 (show ic l.length*ic 80≤ic z09 by unfold z09; simp only [ic]; omega),v0u,v0u,z00,
     v01 (show 0≤0 from v08 0),v01 (show (0:Int) < ic (Int.toNat (ic l.length) - 0) by simp only [ic]; omega),v0u,z00]
    exact run
 ·simp [R.get] at h
abbrev yjy (l:List IV) (lo hi i:Int):St:=⟨[(4,(.int .i64 0)),(5,(.int .i64 0)),(6,(.bool false)),(8,(.int .i64 lo)),(9,(.int .i64 hi)),(26,(.list true zcy l)),(27,(.int .i64 (ic (List.length l)))),(28,(.int .i64 i))],[]⟩
theorem y2e (N:Nat) (l:List IV) (hl:l.length≤strMax):∀ (m i n:Nat) (lo hi:Int),i+m=l.length→m < n →
  lpE (z4g N) (z0i z5x [1,1,1,1,0,1,0,0]) ⟨[4,5,6,8,9,26,27,28],[],[]⟩ n (yjy l lo hi (i:Int)) (z06 0 (kSq (z4g N) (z0i z5x [1,1,1,1,1]) (z2v (z4g N) none [(ResultVar.tmp 4),(ResultVar.tmp 5),(ResultVar.tmp 6)] [[(.int .i64)],[(.int .i64)],[.bool]]))) =
   some (.tup [.int .i64 (y9w (l.drop i) lo),.int .i64 (y9u (l.drop i) hi),.bool true],[])
 | m,i,0,_,_,_,h=>absurd h (by omega)
 | 0,i,n+1,lo,hi,hd,_=>by
  have hi:i=l.length:=by omega
  subst hi;rw [z05,zh5,zau (v08 _),z02,v1z];exact zm8 N _ _ _ _ _ l _ _
 | m+1,i,n+1,lo,hi,hd,hn=>by
  have hi:i < l.length:=by omega
  have mx:strMax=140737488355327:=rfl;have ei:IntKind.wrap IntKind.i64 ((i:Int)+1)=((i+1:Nat):Int):=z7z (by omega)
  rw [z05,zh5,ei,z9z hi,z00,zg5,v0u,z00,zbl hi,v0j hi,y9w,y9u];exact y2e N l hl m (i+1) n _ _ (by omega) (by omega)
theorem y0c:∀ (l:List IV) (i:Nat) (own out:List IV),(zmj l i own out).length≤out.length+l.length
 | [],_,_,out=>v08 _
 | w :: r,i,own,out=>by
  rw [zmj]
  have:=y0c r (i+1) (zfn (z04 w.toInt) i own) (cond ((z04 w.toInt).lf&&!(bxI (own.getD i default)).emp) (out++[pcI (bxI (own.getD i default)) (z04 w.toInt).v]) out)
  refine v1m this ?_;cases ((z04 w.toInt).lf&&!(bxI (own.getD i default)).emp) with
  | true=>rw [z00,v0a,v2h,v05]; omega
  | false=>rw [z02,v05]; omega
theorem y93 (l:List IV) (b:Bx):(z45 l b).length≤31:=by
 unfold z45;cases ht:z8v l 4 with
 | false=>exact v0y _
 | true=>
  cases b.emp with
  | true=>exact v0y _
  | false=>
   have:=y0c l 0 ((List.replicate l.length bx0.I).set 0 b.I) []
   have h2:=(zf1 ht).1.2;simp only [v0o,v0n] at this;exact v1m this h2
theorem zua:z2u PR B0 196 zay:=by
 refine z0f [(218,z9m)] [(6,⟨[4,5,6,8,9,26,27,28],[],[]⟩)] zay [[.int .i64],[.int .i64],[.bool]] Tryz.func196 y1e ⟨zse,trivial⟩ ?_;intro vs r hwf h;unfold zay at h
 split at h
 ·rename_i l b
  replace h:=z2l h;obtain ⟨b,rfl,h⟩:=h;rw [R.get_ok] at h;refine ⟨40,?_⟩;rw [← h];refine (zxg 40 l b).trans ?_;have h31:=y93 l b;unfold tLo tHi tOK yim yij;generalize z45 l b=ps at h31 ⊢
  cases ps with
  | nil=>rfl
  | cons x r=>
   have run:=y2e 40 (x :: r) (v1m h31 (by decide)) (x :: r).length 0 40 (pcV x) (pcV x) (by omega) (by omega)
   have e0:(ic (x :: r).length==0)=false:=by
    simp only [ic,v05,v1i];omega
   have e1:(decide (0≤0)&&decide (0 < ic (x :: r).length))=true:=by
    rw [v01 (show 0≤0 from v08 0),v01 (show 0 < ic (x :: r).length by simp only [ic,v05]; omega)]
    rfl
   rw [e0,z02,e1,z00,z00];exact run
 ·simp [R.get] at h
theorem yhc {l:List IV}:∀ {a:Int},z1r a=true→(∀ x∈l,z1r (pcV x)=true)→z1r (y9w l a)=true:=by
 induction l with
 | nil=>intro a h _; exact h
 | cons x r ih=>
  intro a h hx;rw [y9w];refine ih ?_ fun y hy=>hx y (v0b _ hy)
  have:=z4w h
  have:=z4w (hx x (v09 ..))
  unfold z1r;rw [v01 (by omega),v01 (by omega)]
  rfl
theorem yfv {l:List IV}:∀ {a:Int},z1r a=true→(∀ x∈l,z1r (pcV x)=true)→z1r (y9u l a)=true:=by
 induction l with
 | nil=>intro a h _; exact h
 | cons x r ih=>
  intro a h hx;rw [y9u];refine ih ?_ fun y hy=>hx y (v0b _ hy)
  have:=z4w h
  have:=z4w (hx x (v09 ..))
  unfold z1r;rw [v01 (by omega),v01 (by omega)]
  rfl
theorem zwb:∀ (l:List IV) (i:Nat) (own out:List IV),(∀ x∈out,z1r (pcV x)=true)→∀ x∈zmj l i own out,z1r (pcV x)=true
 | [],_,_,_,h=>h
 | w :: r,i,own,out,h=>by
  rw [zmj];refine zwb r (i+1) _ _ ?_;cases ((z04 w.toInt).lf&&!(bxI (own.getD i default)).emp) with
  | true=>
   intro x hx;rcases v0k.1 hx with hx | hx
   ·exact h x hx
   ·obtain rfl:=v28.1 hx
    exact y6h _
  | false=>exact h
theorem y63 (l:List IV) (b:Bx):∀ x∈z45 l b,z1r (pcV x)=true:=by
 unfold z45;cases (z8v l 4&&!b.emp) with
 | true=>exact zwb _ _ _ _ (fun x hx=>by cases hx)
 | false=>intro x hx; cases hx
theorem yj1 (l:List IV) (b:Bx):z1r (tLo l b)=true∧z1r (tHi l b)=true:=by
 unfold tLo tHi tOK;have hf:=y63 l b;generalize z45 l b=ps at hf ⊢
 cases ps with
 | nil=>exact ⟨rfl,rfl⟩
 | cons x r=>exact ⟨yhc (hf x (v09 ..)) hf,yfv (hf x (v09 ..)) hf⟩
abbrev yjp (ts:List IV) (b:Bx) (k lo hi i:Int):St:=⟨[(1,(.int .i64 k)),(5,(.ptr 5 0 0)),(6,(.int .i64 0)),(7,(.int .i64 0)),(8,(.bool false)),(9,(.int .i64 lo)),(10,(.int .i64 hi)),(42,(.list true zji ts)),(43,(.int .i64 (ic (List.length ts)))),(44,(.int .i64 i))],[(5,(some (.box (Bx.cs b))))]⟩
theorem y4m (N:Nat) (ts:List IV) (b:Bx) (k:Int) (hts:ts.length≤8):∀ (m i n:Nat) (lo hi:Int),i+m=ts.length→m < n→(-2147483648*(i+1)≤lo∧lo≤2147483648*(i+1))→(-2147483648*(i+1)≤hi∧hi≤2147483648*(i+1)) →
  lpE (z0j N) (z0i z16 [1,1,1,0,1,0,0]) ⟨[1,5,6,7,8,9,10,42,43,44],[5],[]⟩ n (yjp ts b k lo hi (i:Int)) (z06 0 (kSq (z0j N) (z0i z16 [1,1,1,1]) (z2v (z0j N) none [(ResultVar.tmp 6),(ResultVar.tmp 7),(ResultVar.tmp 8)] [[(.int .i64)],[(.int .i64)],[.bool]]))) =
   some (.tup [.int .i64 (zwz (fun l=>tLo l b) k (ts.drop i) lo),.int .i64 (zwz (fun l=>tHi l b) k (ts.drop i) hi),.bool true],[])
 | m,i,0,_,_,_,h,_,_=>absurd h (by omega)
 | 0,i,n+1,lo,hi,hd,_,_,_=>by
  have hlt:i=ts.length:=by omega
  subst hlt;rw [z05,zis,zau (v08 _),z02,v1z];exact zpe N b _ _ _ _ _ _ _ _ _
 | m+1,i,n+1,lo,hi,hd,hn,h1,h2=>by
  have hlt:i < ts.length:=by omega
  have ei:IntKind.wrap IntKind.i64 ((i:Int)+1)=((i+1:Nat):Int):=z7z (by omega)
  rw [z05,zis,ei,z9z hlt,z00,zg5,v0u,z00,zbl hlt,v0j hlt,zwz,zwz];obtain ⟨q1,q2⟩:=yj1 (zdp ts[i]) b;have q1:=z4w q1;have q2:=z4w q2;have en:((ts[i].cell 0).toInt != k)=!((ts[i].cell 0).toInt==k):=rfl;rw [en];cases ((ts[i].cell 0).toInt==k) with
  | true=>
   rw [v0c,z02,z00,z00];have ew:IntKind.wrap IntKind.i64 (lo+tLo (zdp ts[i]) b)=lo+tLo (zdp ts[i]) b:=z15 (by omega) (by omega)
   have ew2:IntKind.wrap IntKind.i64 (hi+tHi (zdp ts[i]) b)=hi+tHi (zdp ts[i]) b:=z15 (by omega) (by omega)
   have ih:=y4m N ts b k hts m (i+1) n (lo+tLo (zdp ts[i]) b) (hi+tHi (zdp ts[i]) b) (by omega) (by omega) (by omega) (by omega)
   rw [← ew,← ew2] at ih;refine v41 ih ?_;rw [ew,ew2]
  | false=>
   rw [v0i,z00,z02,z02];exact y4m N ts b k hts m (i+1) n lo hi (by omega) (by omega) (by omega) (by omega)
theorem zf6:z2u PR B0 162 z6b:=by
 refine z0f [(196,zay),(112,z29),(53,z1u)] [(5,⟨[1,5,6,7,8,9,10,42,43,44],[5],[]⟩)] z6b [[.int .i64],[.int .i64],[.bool]] Tryz.func162 y45 ⟨zua,z6j,z5q,trivial⟩ ?_;intro vs r hwf h;unfold z6b at h
 split at h
 ·rename_i m k b
  replace h:=z3f h;obtain ⟨m,rfl,h⟩:=h;replace h:=z2l h;obtain ⟨b,rfl,h⟩:=h;rw [R.get_ok] at h;refine ⟨10,?_⟩;rw [← h];refine (y22 10 m k b).trans ?_;unfold sLo sHi sOK;cases hm:z26 m with
  | false=>rfl
  | true=>
   rw [v0c,z02];cases h0:decide (k < 0) with
   | true=>
    have:zbu m k=false:=by unfold zbu; rw [v07 (show ¬ 0≤k by have:=v0d h0; omega)]; rfl
    rw [this]
    rfl
   | false=>
    rw [z02];cases h1:decide (k≥m.c) with
    | true=>
     have:zbu m k=false:=by unfold zbu; rw [v07 (show ¬ k < m.c by have:=v0d h1; omega),v2b]
     rw [this]
     rfl
    | false=>
     have hc:zbu m k=true:=by unfold zbu; rw [v01 (show 0≤k by have:=v0t h0; omega),v01 (show k < m.c by have:=v0t h1; omega)]; rfl
     rw [z02,hc];cases b.emp with
     | true=>rfl
     | false=>
      have hb:=zxa hm k;have run:=y4m 10 m.ts b k (z1x hm).2.2.1 m.ts.length 0 10 (zcn m k) (zcn m k) (by omega) (by have:=(z1x hm).2.2.1; omega) (by omega) (by omega)
      rw [z02];rcases zsg hm hc with rfl | rfl | rfl <;> exact run
 ·simp [R.get] at h
theorem y5d (g:List IV→Int) (hg:∀ l,-2147483648≤g l∧g l≤2147483648) (k:Int):∀ (ts:List IV) (s:Int) (n:Nat),(-2147483648*(n:Int)≤s∧s≤2147483648*(n:Int)) → -2147483648*((n+ts.length:Nat):Int)≤zwz g k ts s∧zwz g k ts s≤2147483648*((n+ts.length:Nat):Int)
 | [],s,n,h=>by
  rw [zwz]
  simpa using h
 | t :: r,s,n,h=>by
  rw [zwz];have h1:=hg (zdp t)
  have:=y5d g hg k r (cond (yhl t==k) (s+g (zdp t)) s) (n+1) (by cases (yhl t==k) <;> simp only [v2f,v1n] <;> omega)
  rw [v05];rw [show n+1+r.length=n+(r.length+1) by omega] at this
  exact this
theorem yj0 {m:Md} (k:Int) (b:Bx):(-34359738368≤sLo m k b∧sLo m k b≤34359738368)∧(-34359738368≤sHi m k b∧sHi m k b≤34359738368):=by
 unfold sLo sHi;cases hs:sOK m k b with
 | false=>simp only [v1n]; omega
 | true=>
  unfold sOK at hs;simp only [v02] at hs;have hb:=zxa hs.1 k;have h8:=(z1x hs.1).2.2.1;have h1:=y5d (fun l=>tLo l b) (fun l=>by have:=z4w (yj1 l b).1; omega) k m.ts (zcn m k) 1 (by omega)
  have h2:=y5d (fun l=>tHi l b) (fun l=>by have:=z4w (yj1 l b).2; omega) k m.ts (zcn m k) 1 (by omega)
  rw [z00,z00];omega
abbrev ykc (m:Md) (b:Bx) (k lo a:Int) (z:Bool) (i:Int):St:=⟨[(1,(.int .i64 k)),(3,(.ptr 3 0 0)),(5,(.ptr 5 0 0)),(6,(.int .i64 0)),(7,(.bool false)),(8,(.int .i64 lo)),(11,(.int .i64 a)),(12,(.bool z)),(33,(.int .i64 (Md.c m))),(34,(.int .i64 i))],[(3,(some (.box (Md.cs m)))),(5,(some (.box (Bx.cs b))))]⟩
theorem y6e (N:Nat) (m:Md) (b:Bx) (k:Int) (hc:0≤m.c∧m.c≤3) (lo:Int) (hlo : -34359738368≤lo∧lo≤34359738368):∀ (d i n:Nat) (a:Int) (z:Bool),((i+d:Nat):Int)=m.c→d < n →
  lpE (z2w N) (z0i z4a [1,1,1,1,0,1,0,0]) ⟨[1,3,5,6,7,8,11,12,33,34],[3,5],[]⟩ n (ykc m b k lo a z (i:Int)) (z06 0 (kSq (z2w N) (z0i z4a [1,1,1,1,1]) (z2v (z2w N) none [(ResultVar.tmp 6),(ResultVar.tmp 7)] [[(.int .i64)],[.bool]]))) =
   some (.tup [.int .i64 (ztw m k lo b d (i:Int) a z),.bool true],[])
 | d,i,0,_,_,_,h=>absurd h (by omega)
 | 0,i,n+1,a,z,hd,_=>by
  rw [z05,zea,v07 (show ¬ (i:Int) < m.c by omega),z02]
  exact zjm N m b _ _ _ _ _ _ _ _
 | d+1,i,n+1,a,z,hd,hn=>by
  have ei:IntKind.wrap IntKind.i64 ((i:Int)+1)=((i+1:Nat):Int):=z7z (by omega)
  have hs:=(yj0 (m:=m) (i:Int) b).2;have ew:IntKind.wrap IntKind.i64 (lo - sHi m (i:Int) b)=lo - sHi m (i:Int) b:=z15 (by omega) (by omega)
  have ec:(i:Int)+1=((i+1:Nat):Int):=by omega
  rw [z05,zea,ei,ew,v01 (show (i:Int) < m.c by omega),z00,ztw,ec]
  have ih:=fun a z=>y6e N m b k hc lo hlo d (i+1) n a z (by omega) (by omega)
  cases ((i:Int)==k) with
  | true=>exact ih a z
  | false=>
   rw [z02,z02];cases z with
   | false=>exact ih _ true
   | true=>
    rw [v0c,z02,v2g];cases decide (lo - sHi m (i:Int) b < a) with
    | true=>exact ih _ true
    | false=>exact ih a true
theorem zpb:z2u PR B0 163 z8f:=by
 refine z0f [(162,z6b)] [(6,⟨[1,3,5,6,7,8,11,12,33,34],[3,5],[]⟩)] z8f [[.int .i64],[.bool]] Tryz.func163 ztm ⟨zf6,trivial⟩ ?_;intro vs r hwf h;unfold z8f at h
 split at h
 ·rename_i m k b
  replace h:=z3f h;obtain ⟨m,rfl,h⟩:=h;replace h:=z2l h;obtain ⟨b,rfl,h⟩:=h;rw [R.get_ok] at h;refine ⟨10,?_⟩;rw [← h];refine (zpw 10 m k b).trans ?_;unfold ygv yby;cases hs:sOK m k b with
  | false=>rfl
  | true=>
   have hm:z26 m=true:=by unfold sOK at hs; simp only [v02] at hs; exact hs.1
   have hc:=(z1x hm).2.1;rw [v0c,z02];cases h2:decide (m.c < 2) with
   | true=>rw [v07 (show ¬ m.c≥2 by have:=v0d h2; omega)]; rfl
   | false=>
    rw [v01 (show m.c≥2 by have:=v0t h2; omega),z02]
    exact y6e 10 m b k (by omega) (sLo m k b) (yj0 k b).1 m.c.toNat 0 10 0 false (by omega) (by omega)
 ·simp [R.get] at h
theorem zm1:z2u PR B0 165 z72:=by
 refine z0f [(162,z6b),(198,z7y),(199,z78),(197,z2m)] [] z72 [[.int .i64],[.int .i64],[.bool]] Tryz.func165 zqy ⟨zf6,zox,zmy,z8j,trivial⟩ ?_;intro vs r hwf h;unfold z72 at h
 split at h
 ·rename_i m q b
  replace h:=z3f h;obtain ⟨m,rfl,h⟩:=h;replace h:=z2z h;obtain ⟨q,rfl,h⟩:=h;replace h:=z2l h;obtain ⟨b,rfl,h⟩:=h;rw [R.get_ok] at h;refine ⟨0,?_⟩;rw [← h];refine (zp0 0 m q b).trans ?_;have h1:=yj0 (m:=m) q.c (zdb q b);have h2:=yj0 (m:=m) q.c (z9g q b);rw [z15 (n:=sLo m q.c (z9g q b) - sHi m q.c (zdb q b)) (by omega) (by omega),z15 (n:=sHi m q.c (z9g q b) - sLo m q.c (zdb q b)) (by omega) (by omega)]
  unfold yh4 ygs y9m;cases z5j q <;> cases sOK m q.c (zdb q b) <;> cases sOK m q.c (z9g q b) <;> rfl
 ·simp [R.get] at h
theorem zsv:z2u PR B0 122 z9r:=by
 refine z0f [(163,z8f),(162,z6b),(112,z29),(165,z72),(164,z6k),(65,z2e)] [] z9r [[.bool]] Tryz.func122 zz0 ⟨zpb,zf6,z6j,zm1,zlt,z7i,trivial⟩ ?_;intro vs r hwf h;unfold z9r at h
 split at h
 ·rename_i m q b
  replace h:=z3f h;obtain ⟨m,rfl,h⟩:=h;replace h:=z2z h;obtain ⟨q,rfl,h⟩:=h;replace h:=z2l h;obtain ⟨b,rfl,h⟩:=h;rw [R.get_ok] at h;refine ⟨0,?_⟩;rw [← h];refine (zte 0 m q b).trans ?_;unfold z49;cases z3c m q <;> cases b.emp <;> cases (q.k==1) <;> cases (q.k==2) <;> cases sOK m q.c b <;> cases decide (q.lo≤sLo m q.c b) <;> cases yby m q.c b <;> cases zh6 q b <;> cases q.fl <;> cases y9m m q b <;> rfl
 ·simp [R.get] at h
theorem zsb:z2u PR B0 123 z9o:=by
 refine z0f [(81,zhe)] [] z9o [[.int .i64,.int .i64,.int .i64,.int .i64],[.int .i64]] Tryz.func123 zyu ⟨y4b,trivial⟩ ?_;intro vs r hwf h;unfold z9o at h
 split at h
 ·rename_i b
  replace h:=z2l h;obtain ⟨b,rfl,h⟩:=h;rw [R.get_ok] at h;exact ⟨0,(ztc 0 b).trans h⟩
 ·simp [R.get] at h
theorem zov:z2u PR B0 166 z8a:=by
 refine z0f [] [] z8a [[.int .i64]] Tryz.func166 ztr trivial ?_;intro vs r hwf h;unfold z8a at h
 split at h
 ·rename_i q i
  replace h:=z2z h;obtain ⟨q,rfl,h⟩:=h;rw [R.get_ok] at h;refine ⟨0,?_⟩;rw [← h];refine (zrw 0 q i).trans ?_;unfold zr9;cases decide (i≥0) <;> cases decide (i < 4) <;> cases (i==4) <;> cases (q.k==3) <;> rfl
 ·simp [R.get] at h
def ygm (m:Md) (f:Int) (s:Sp):Res:=
 cond (decide (f < 0)) (some (.list false [.int .i64] [],[]))
  (cond (z26 m)
   (cond (Nat.beq (iZ (y4x m.ts f)).length (iZ (y4x m.ts f)).length)
    (cond (Nat.ble (iZ (zmk s.lo s.hi ((iZ (y4x m.ts f)).map IV.toInt))).length (iZ (y4x m.ts f)).length)
     (some (.list false [.int .i64] (List.drop 0 (List.take (iZ (zmk s.lo s.hi ((iZ (y4x m.ts f)).map IV.toInt))).length (iZ (zmk s.lo s.hi ((iZ (y4x m.ts f)).map IV.toInt))))),[])) none) none) none)
theorem ydk {m:Md} (hm:z26 m=true) (f:Int) (s:Sp):ygm m f s=some (.list false [.int .i64] (iZ (cond (decide (f < 0)) [] (zmk s.lo s.hi (y4x m.ts f)))),[]):=by
 unfold ygm;cases decide (f < 0) with
 | true=>rfl
 | false=>
  rw [z02,hm,z00,v32,z00,zyd,z02];have hle:(iZ (zmk s.lo s.hi (y4x m.ts f))).length≤(iZ (y4x m.ts f)).length:=by
   rw [zhf,zhf];exact v3y ..
  rw [v1g hle,z00,v11,v0w]
theorem zxl (m:Md) (q:Qy) (b:Bx):∀ i:Nat,i < 5→z0y (zr6 0) zjk [.tmp 8] [[.list false [.int .i64]]] [m.V,q.V,b.V,.int .i64 (i:Int)]=ygm m (zr9 q (i:Int)) (b.g i)
 | 0,_=>by kernel_rfl
 | 1,_=>by kernel_rfl
 | 2,_=>by kernel_rfl
 | 3,_=>by kernel_rfl
 | 4,_=>by kernel_rfl
 | i+5,h=>absurd h (by omega)
abbrev ykb:KP:=⟨[1,4,5,16,17,18],[500],[⟨(.tmp 5),500,3,false,[(.int .i64)]⟩]⟩
abbrev yk4:KP:=⟨[1,4,5,16,17,18,23,24,25],[500],[⟨(.tmp 5),500,3,false,[(.int .i64)]⟩]⟩
abbrev ye5 (f:Int) (ts:List IV) (i:Int) (W:List IV) (j:Int) (O:List IV):St:=
 ⟨[(1,(.int .i64 f)),(4,.zs),(5,(.row 500 0 O.length)),(16,(.list true zji ts)),(17,(.int .i64 (ic ts.length))),(18,(.int .i64 i)),(23,(.list false [(.int .u64)] W)),(24,(.int .i64 (ic W.length))),(25,(.int .i64 j))],[(500,(some (.row true 3 false [(.int .i64)] O)))]⟩
theorem zle (N:Nat) (f:Int) (ts:List IV) (i:Int) (W:List IV) (hW:W.length≤31) (K:Out→St→Res):∀ (m j n:Nat) (O:List IV),j+m=W.length→m < n→O.length+m≤1000 →
  lpE (z12 N) (z0i z19 [1,1,1,0,1,0,0,1,1,0,0,1,1,0,0]) yk4 n (ye5 f ts i W (j:Int) O) K=K (.exit 2) (ye5 f ts i W (ic W.length) (O++iZ ((W.drop j).flatMap (ydl f))))
 | m,j,0,_,_,h,_=>absurd h (by omega)
 | 0,j,n+1,O,hd,_,_=>by
  have hj:j=W.length:=by omega
  subst hj;rw [z05,zbi,zau (v08 _),z02,v1z];show K (.exit 2) _=K (.exit 2) (ye5 f ts i W (ic W.length) (O++[]));rw [v2k]
 | m+1,j,n+1,O,hd,hn,hO=>by
  have hj:j < W.length:=by omega
  have ej:IntKind.wrap IntKind.i64 ((j:Int)+1)=((j+1:Nat):Int):=z7z (by omega)
  rw [z05,zbi,ej,z9z hj,z00,zg5,v0u,z00,zbl hj,v0j hj,v3c];unfold ydl;cases (z04 (W[j]).toInt).lf with
  | true=>
   rw [v0c,z02,v0v,z02,v3a];exact zle N f ts i W hW K m (j+1) n O (by omega) (by omega) (by omega)
  | false=>
   rw [v0i,z00,v0r];cases ((z04 (W[j]).toInt).f==f) with
   | false=>
    rw [z02,z02,v3a];exact zle N f ts i W hW K m (j+1) n O (by omega) (by omega) (by omega)
   | true=>
    rw [z00,z00,v01 (show (O.length+1)*8≤z09 by unfold z09; omega),z00,v0w]
    have ih:=zle N f ts i W hW K m (j+1) n (O++[IV.int (z04 (W[j]).toInt).a]) (by omega) (by omega) (by rw [v0a,v2h]; omega)
    rw [v3b] at ih;unfold ye5 at ih ⊢
    rw [v0a,v2h] at ih;exact ih
abbrev yfm (f:Int) (ts:List IV) (i:Int) (O:List IV):St:=
 ⟨[(1,(.int .i64 f)),(4,.zs),(5,(.row 500 0 O.length)),(16,(.list true zji ts)),(17,(.int .i64 (ic ts.length))),(18,(.int .i64 i))],[(500,(some (.row true 3 false [(.int .i64)] O)))]⟩
theorem zxx (f:Int):∀ W:List IV,(W.flatMap (ydl f)).length≤W.length
 | []=>v08 _
 | w :: r=>by
  rw [v3c,v0a,v05]
  have:=zxx f r
  unfold ydl at this ⊢
  cases (!(z04 w.toInt).lf&&(z04 w.toInt).f==f) <;> simp only [v2f,v1n,v0o,v2h] <;> omega
theorem zor {d c:Int} {t:IV} (h:z7u d c t=true):(0≤yhl t∧yhl t < c)∧z8v (zdp t) d=true:=by
 unfold z7u at h;simp only [v02,v12,v14] at h;exact ⟨⟨by show 0≤(t.cell 0).toInt; omega,by show (t.cell 0).toInt < c; omega⟩,h.2.2⟩
theorem y7h {d c:Int} {ts:List IV} (h:ts.all (z7u d c)=true) {t:IV} (ht:t∈ts):(zdp t).length≤31:=by
 have:=(zor (v30.1 h t ht)).2
 exact (zf1 this).1.2
theorem y04 (N:Nat) (hN:40≤N) (f:Int) (ts:List IV) (hts:ts.length≤8) (hW:∀ t∈ts,(zdp t).length≤31) (K:Out→St→Res):∀ (m i n:Nat) (O:List IV),i+m=ts.length→m < n→O.length≤31*i →
  lpE (z12 N) (z0i z19 [1,1,1,0,1,0,0]) ykb n (yfm f ts (i:Int) O) K=K (.exit 0) (yfm f ts (ic ts.length) (O++iZ (zd7 (ts.drop i) f)))
 | m,i,0,_,_,h,_=>absurd h (by omega)
 | 0,i,n+1,O,hd,_,_=>by
  have hi:i=ts.length:=by omega
  subst hi;rw [z05,zbh,zau (v08 _),z02,v1z];show K (.exit 0) _=K (.exit 0) (yfm f ts (ic ts.length) (O++[]));rw [v2k]
 | m+1,i,n+1,O,hd,hn,hO=>by
  have hi:i < ts.length:=by omega
  have ei:IntKind.wrap IntKind.i64 ((i:Int)+1)=((i+1:Nat):Int):=z7z (by omega)
  have hw:=hW ts[i] (v2o hi);have hl:=zxx f (zdp ts[i]);rw [z05,zbh,z9z hi,z00,zg5,v0u,z00,zbl hi,v0j hi];refine (zle N f ts (i:Int) (zdp ts[i]) hw _ (zdp ts[i]).length 0 N O (by omega) (by omega) (by omega)).trans ?_
  rw [zet,ei,v11];have ih:=y04 N hN f ts hts hW K m (i+1) n (O++iZ ((zdp ts[i]).flatMap (ydl f))) (by omega) (by omega) (by rw [v0a,zhf]; omega)
  have e:zd7 (ts[i] :: ts.drop (i+1)) f=(zdp ts[i]).flatMap (ydl f)++zd7 (ts.drop (i+1)) f:=by unfold zd7; rw [v3c]
  rw [e];have e2:iZ ((zdp ts[i]).flatMap (ydl f)++zd7 (ts.drop (i+1)) f)=iZ ((zdp ts[i]).flatMap (ydl f))++iZ (zd7 (ts.drop (i+1)) f):=by unfold iZ; rw [v3k]
  rw [e2,← v3b];exact ih
theorem zi9:z2u PR B0 168 z4z:=by
 refine ya7 [(53,z1u),(55,z1t)] [(202,zkl),(201,y70)] [(5,ykb),(8,yk4)] z4z [] Tryz.func168 zka ⟨z5q,z5n,trivial⟩ ⟨zxr,y88,trivial⟩ ?_;intro vs r hwf h;unfold z4z at h
 split at h
 ·rename_i m f
  replace h:=z3f h;obtain ⟨m,rfl,h⟩:=h;cases hm:z26 m with
  | false=>rw [hm] at h; simp [R.get] at h
  | true=>
   rw [hm,R.get_br,z00,R.get_ok] at h;refine ⟨40,?_⟩;rw [← h];refine (zjn 40 m f).trans ?_;have hmp:=z1x hm;rw [hm,v0c,z02];refine (y04 40 (by omega) f m.ts hmp.2.2.1 (fun t ht=>y7h hmp.2.2.2.2 ht) _ m.ts.length 0 40 [] (by omega) (by have:=hmp.2.2.1; omega) (v0y _)).trans ?_
   rw [v11,v3a,zf5,v32,z00,zyd];have e1:(iZ (zg2 (zd7 m.ts f))).length=(iZ (zd7 m.ts f)).length:=by rw [zhf,zhf]; exact (zc5 _).length_eq
   have e2:(iZ (y0g (zg2 (zd7 m.ts f)))).length≤(iZ (zd7 m.ts f)).length:=by rw [← e1,zhf,zhf]; exact zyn _
   rw [e1,v32,z00,z00,zyd,v1g e2,z00,v0w]
   rfl
 ·simp [R.get] at h
theorem zzf:z2u PR B0 126 zci:=by
 refine ya7 [(166,z8a),(168,z4z)] [(167,zpo)] [] zci [[.list false [.int .i64]]] Tryz.func126 y3o ⟨zov,zi9,trivial⟩ ⟨y1x,trivial⟩ ?_;intro vs r hwf h;unfold zci at h
 split at h
 ·rename_i m q b i
  replace h:=z3f h;obtain ⟨m,rfl,h⟩:=h;replace h:=z2z h;obtain ⟨q,rfl,h⟩:=h;replace h:=z2l h;obtain ⟨b,rfl,h⟩:=h;cases hg:(z26 m&&zma i) with
  | false=>rw [hg] at h; simp [R.get] at h
  | true=>
  rw [hg,R.get_br,z00,R.get_ok] at h;rw [v02] at hg;refine ⟨0,?_⟩;rw [← h];have key:∀ k:Nat,k < 5→z0y (zr6 0) zjk [.tmp 8] [[.list false [.int .i64]]] [m.V,q.V,b.V,.int .i64 (k:Int)]=some (.list false [.int .i64] (iZ (zjs m q b k)),[]):=fun k hk=>by
   rw [zxl m q b k hk,ydk hg.1]
   rfl
  rcases zvs hg.2 with rfl | rfl | rfl | rfl | rfl
  ·exact key 0 (by omega)
  ·exact key 1 (by omega)
  ·exact key 2 (by omega)
  ·exact key 3 (by omega)
  ·exact key 4 (by omega)
 ·simp [R.get] at h
abbrev ykh (m:Md) (q:Qy) (b:Bx) (i:Int):St:=⟨[(3,(.ptr 3 0 0)),(4,(.ptr 4 0 0)),(5,(.ptr 5 0 0)),(6,(.int .i64 0)),(7,(.int .i64 0)),(8,(.bool false)),(11,(.int .i64 i))],[(3,(some (.box (Md.cs m)))),(4,(some (.box (Qy.cs q)))),(5,(some (.box (Bx.cs b))))]⟩
theorem ye4 {m:Md} (hm:z26 m=true) (q:Qy) (b:Bx) (i:Nat):(zjs m q b i).length≤248:=by
 have key:∀ (ts:List IV) (f:Int),(∀ t∈ts,(zdp t).length≤31)→(zd7 ts f).length≤31*ts.length:=by
  intro ts f
  induction ts with
  | nil=>intro _; exact v08 _
  | cons t r ih=>
   intro ht;have h1:=ih fun u hu=>ht u (v0b _ hu)
   have h2:=zxx f (zdp t);have h3:=ht t (v09 ..);unfold zd7 at h1 ⊢
   rw [v3c,v0a,v05];omega
 have hmp:=z1x hm;have h1:=key m.ts (zr9 q (i:Int)) fun t ht=>y7h hmp.2.2.2.2 ht
 unfold zjs;cases decide (zr9 q (i:Int) < 0) with
 | true=>exact v0y _
 | false=>
  rw [z02];have h2:(zmk (b.g i).lo (b.g i).hi (y4x m.ts (zr9 q (i:Int)))).length≤(y4x m.ts (zr9 q (i:Int))).length:=v3y ..
  have h3:(y4x m.ts (zr9 q (i:Int))).length≤(zd7 m.ts (zr9 q (i:Int))).length:=by
   unfold y4x;exact v1m (zyn _) (Nat.le_of_eq (zc5 _).length_eq)
  have:=hmp.2.2.1
  omega
theorem y1w (N:Nat) (m:Md) (hm:z26 m=true) (q:Qy) (b:Bx):∀ (d i n:Nat),i+d=5→d < n →
  lpE (z3e N) (z0i z4y [1,0,1,0,0]) ⟨[3,4,5,6,7,8,11],[3,4,5],[]⟩ n (ykh m q b (i:Int)) (z06 0 (kSq (z3e N) (z0i z4y [1,1]) (z2v (z3e N) none [(ResultVar.tmp 6),(ResultVar.tmp 7),(ResultVar.tmp 8)] [[(.int .i64)],[(.int .i64)],[.bool]]))) =
   some (.tup [.int .i64 (spI (spR m q b d i)),.int .i64 (yaq (spR m q b d i)),.bool (spR m q b d i).isSome],[])
 | d,i,0,_,h=>absurd h (by omega)
 | 0,i,n+1,hd,_=>by
  have hi:i=5:=by omega
  subst hi;rw [z05,zhb,v07 (show ¬ ((5:Nat):Int) < 5 by omega),z02]
  exact zm3 N m q b _ _ _ _
 | d+1,i,n+1,hd,hn=>by
  have hp:zma (i:Int)=true:=by unfold zma; rw [v01 (show (0:Int)≤(i:Int) by omega),v01 (show (i:Int) < 5 by omega)]; rfl
  have ei:IntKind.wrap IntKind.i64 ((i:Int)+1)=((i+1:Nat):Int):=z7z (by omega)
  have hc:=ye4 hm q b i;rw [z05,zhb,ei,v01 (show (i:Int) < 5 by omega),z00,hm,hp,v0u,z00,v0l,spR,zhf]
  generalize zjs m q b i=cs at hc ⊢
  have ed:decide (ic cs.length > 0)=decide (cs.length > 0):=by rw [v2r]; simp
  rw [ed];cases hpos:decide (cs.length > 0) with
  | true=>
   have hpos:=v0d hpos;have ew:IntKind.wrap IntKind.i64 (Int.tdiv (IntKind.wrap IntKind.i64 (ic cs.length - 1)) 2)=(((cs.length - 1) / 2:Nat):Int):=by
    have e1:IntKind.wrap IntKind.i64 (ic cs.length - 1)=((cs.length - 1:Nat):Int):=by rw [z15 (by simp only [ic]; omega) (by simp only [ic]; omega)]; simp only [ic]; omega
    have e2:Int.tdiv ((cs.length - 1:Nat):Int) 2=(((cs.length - 1) / 2:Nat):Int):=by
     rw [Int.tdiv_eq_ediv_of_nonneg (by omega)]
     omega
    rw [e1,e2,z15 (by omega) (by omega)]
   have hlt:(cs.length - 1) / 2 < cs.length:=by omega
   rw [z00,ew,zg5,v01 (show (((cs.length - 1) / 2:Nat):Int) < ic cs.length by simp only [ic]; omega),v0u,z00,z00,v0l]
   have eg:IV.toInt (List.getD (iZ cs) ((cs.length - 1) / 2) default)=cs.getD ((cs.length - 1) / 2) 0:=by
    unfold iZ;rw [v0m,v0m,v19,v0g hlt]
    rfl
   rw [eg];exact znc N m q b _ _ _ _
  | false=>
   rw [z02,z02];exact y1w N m hm q b d (i+1) n (by omega) (by omega)
theorem zus:z2u PR B0 124 zar:=by
 refine z0f [(126,zci)] [(2,⟨[3,4,5,6,7,8,11],[3,4,5],[]⟩)] zar [[.int .i64],[.int .i64],[.bool]] Tryz.func124 y3i ⟨zzf,trivial⟩ ?_;intro vs r hwf h;unfold zar at h
 split at h
 ·rename_i m q b
  replace h:=z3f h;obtain ⟨m,rfl,h⟩:=h;replace h:=z2z h;obtain ⟨q,rfl,h⟩:=h;replace h:=z2l h;obtain ⟨b,rfl,h⟩:=h;cases hg:(z26 m) with
  | false=>rw [hg] at h; simp [R.get] at h
  | true=>
  rw [hg,R.get_br,z00,R.get_ok] at h;refine ⟨10,?_⟩;rw [← h];exact (zy6 10 m q b).trans (y1w 10 m hg q b 5 0 10 rfl (by omega))
 ·simp [R.get] at h
open Go Go.Proofs
def y0f (N:Nat):Env:=mkE [(65,z2e),(66,z63)] [] 26 N
theorem zwo (N:Nat) (m:Md) (q:Qy):z0y (y0f N) znw [.tmp 4] [[.list false []]] [(Md.V m),(Qy.V q)]=(cond (!z3c m q) (some ((.bor (zdq m q [.zs,.zs,(.i 4),.zs,(.i 0),(.i 0),(.i 0),(.i 0),(.i 0),(.i 0),(.i 0)])),[])) (some ((.bor (zdq m q [(.vec 36 true za2 [(Bx.I (z9p q))]),.zs,(.i 0),.zs,(.i 0),(.i 0),(.i 0),(.i 0),(.i 0),(.i 0),(.i 0)])),[]))):=by kernel_rfl
def z43 (N:Nat):Env:=mkE [(125,z2n)] [] 22 N
theorem zd1 (N:Nat) (m:Md) (q:Qy) (left u00:List IV) (k w0 w1 w2 w3 tw vs sp:Int):z0y (z43 N) z2y [.cell 2 55] [[.int .i64,.list true [.bool,.int .i64,.int .i64],.int .i64,.int .i64,.int .i64,.int .i64,.int .i64,.int .i64]] [(.bor (zdq m q [.vec 36 true za2 left,.vec 127 true z2r u00,.int .i64 k,.zs,.int .i64 w0,.int .i64 w1,.int .i64 w2,.int .i64 w3,.int .i64 tw,.int .i64 vs,.int .i64 sp]))]=(cond (k==0) (some ((.agg [(.i 3),(.list true z2r []),(.i w0),(.i w1),(.i w2),(.i w3),(.i tw),(.i sp)]),[(zdq m q [(.vec 36 true za2 (List.take (List.length left) left)),(.vec 127 true z2r (List.take (List.length u00) u00)),(.i k),.zs,(.i w0),(.i w1),(.i w2),(.i w3),(.i tw),(.i vs),(.i sp)])])) (some ((.agg [(.i k),(.list true z2r []),(.i w0),(.i w1),(.i w2),(.i w3),(.i tw),(.i sp)]),[(zdq m q [(.vec 36 true za2 (List.take (List.length left) left)),(.vec 127 true z2r (List.take (List.length u00) u00)),(.i k),.zs,(.i w0),(.i w1),(.i w2),(.i w3),(.i tw),(.i vs),(.i sp)])]))):=by kernel_rfl
theorem zd5 (N:Nat) (m:Md) (q:Qy) (left:List IV) (k w0 w1 w2 w3 tw vs sp:Int):z0y (z43 N) z2y [.cell 2 55] [[.int .i64,.list true [.bool,.int .i64,.int .i64],.int .i64,.int .i64,.int .i64,.int .i64,.int .i64,.int .i64]] [(.bor (zdq m q [.vec 36 true za2 left,.zs,.int .i64 k,.zs,.int .i64 w0,.int .i64 w1,.int .i64 w2,.int .i64 w3,.int .i64 tw,.int .i64 vs,.int .i64 sp]))]=(cond (k==0) (some ((.agg [(.i 3),(.list true z2r []),(.i w0),(.i w1),(.i w2),(.i w3),(.i tw),(.i sp)]),[(zdq m q [(.vec 36 true za2 (List.take (List.length left) left)),.zs,(.i k),.zs,(.i w0),(.i w1),(.i w2),(.i w3),(.i tw),(.i vs),(.i sp)])])) (some ((.agg [(.i k),(.list true z2r []),(.i w0),(.i w1),(.i w2),(.i w3),(.i tw),(.i sp)]),[(zdq m q [(.vec 36 true za2 (List.take (List.length left) left)),.zs,(.i k),.zs,(.i w0),(.i w1),(.i w2),(.i w3),(.i tw),(.i vs),(.i sp)])]))):=by kernel_rfl
theorem zd6 (N:Nat) (m:Md) (q:Qy) (left u00 vp:List IV) (k w0 w1 w2 w3 tw vs sp:Int):z0y (z43 N) z2y [.cell 2 55] [[.int .i64,.list true [.bool,.int .i64,.int .i64],.int .i64,.int .i64,.int .i64,.int .i64,.int .i64,.int .i64]] [(.bor (zdq m q [.vec 36 true za2 left,.list true z2r u00,.int .i64 k,.list true z2r vp,.int .i64 w0,.int .i64 w1,.int .i64 w2,.int .i64 w3,.int .i64 tw,.int .i64 vs,.int .i64 sp]))]=(cond (k==0) (cond (Nat.ble (List.length vp) 100000) (some ((.agg [(.i 3),(.list true z2r (List.drop 0 (List.take (List.length vp) vp))),(.i w0),(.i w1),(.i w2),(.i w3),(.i tw),(.i sp)]),[(zdq m q [(.vec 36 true za2 (List.take (List.length left) left)),(.list true z2r u00),(.i k),(.list true z2r vp),(.i w0),(.i w1),(.i w2),(.i w3),(.i tw),(.i vs),(.i sp)])])) none) (cond (Nat.ble (List.length vp) 100000) (some ((.agg [(.i k),(.list true z2r (List.drop 0 (List.take (List.length vp) vp))),(.i w0),(.i w1),(.i w2),(.i w3),(.i tw),(.i sp)]),[(zdq m q [(.vec 36 true za2 (List.take (List.length left) left)),(.list true z2r u00),(.i k),(.list true z2r vp),(.i w0),(.i w1),(.i w2),(.i w3),(.i tw),(.i vs),(.i sp)])])) none)):=by kernel_rfl
theorem zd3 (N:Nat) (m:Md) (q:Qy) (k w0 w1 w2 w3 tw vs sp:Int):z0y (z43 N) z2y [.cell 2 55] [[.int .i64,.list true [.bool,.int .i64,.int .i64],.int .i64,.int .i64,.int .i64,.int .i64,.int .i64,.int .i64]] [(.bor (zdq m q [.zs,.zs,.int .i64 k,.zs,.int .i64 w0,.int .i64 w1,.int .i64 w2,.int .i64 w3,.int .i64 tw,.int .i64 vs,.int .i64 sp]))]=(cond (k==0) (some ((.agg [(.i 3),(.list true z2r []),(.i w0),(.i w1),(.i w2),(.i w3),(.i tw),(.i sp)]),[(zdq m q [.zs,.zs,(.i k),.zs,(.i w0),(.i w1),(.i w2),(.i w3),(.i tw),(.i vs),(.i sp)])])) (some ((.agg [(.i k),(.list true z2r []),(.i w0),(.i w1),(.i w2),(.i w3),(.i tw),(.i sp)]),[(zdq m q [.zs,.zs,(.i k),.zs,(.i w0),(.i w1),(.i w2),(.i w3),(.i tw),(.i vs),(.i sp)])]))):=by kernel_rfl
def z5l (N:Nat):Env:=mkE [(111,z74),(122,z9r),(123,z9o),(124,zar),(70,z5b)] [] 165 N
theorem z9b (N:Nat) (m:Md) (q:Qy) (left u00:List IV) (k w0 w1 w2 w3 tw vs sp:Int):z0y (z5l N) z3z [.tmp 2] [[.bool]] [(.bor (zdq m q [.vec 36 true za2 left,.vec 127 true z2r u00,.int .i64 k,.zs,.int .i64 w0,.int .i64 w1,.int .i64 w2,.int .i64 w3,.int .i64 tw,.int .i64 vs,.int .i64 sp]))]=(cond (k != 0) (some ((.bool false),[(zdq m q [(.vec 36 true za2 (List.take (List.length left) left)),(.vec 127 true z2r (List.take (List.length u00) u00)),(.i k),.zs,(.i w0),(.i w1),(.i w2),(.i w3),(.i tw),(.i vs),(.i sp)])])) (cond (decide (sp≥Qy.bu q)) (some ((.bool false),[(zdq m q [(.vec 36 true za2 (List.take (List.length left) left)),(.vec 127 true z2r (List.take (List.length u00) u00)),(.i k),.zs,(.i w0),(.i w1),(.i w2),(.i w3),(.i tw),(.i vs),(.i sp)])])) (cond (decide (0≤IntKind.wrap IntKind.i64 (ic (List.length left - 0) - 1))&&decide (IntKind.wrap IntKind.i64 (ic (List.length left - 0) - 1) < ic (List.length left - 0))) (cond (decide (0≤IntKind.wrap IntKind.i64 (ic (List.length left - 0) - 1))&&decide (IntKind.wrap IntKind.i64 (ic (List.length left - 0) - 1)≤ic (List.length left - 0))) (cond (z49 m q (bxI (List.getD left (0+Int.toNat (IntKind.wrap IntKind.i64 (ic (List.length left - 0) - 1))) default))) (cond (decide ((List.length u00+1)*24≤z09)) (cond (ic (0+Int.toNat (IntKind.wrap IntKind.i64 (ic (List.length left - 0) - 1)) - 0)==0) (some ((.bool true),[(zdq m q [(.vec 36 true za2 (List.take (0+Int.toNat (IntKind.wrap IntKind.i64 (ic (List.length left - 0) - 1))) left)),(.list true z2r (List.drop 0 (List.take (List.length u00+1) (List.take (List.length u00) u00++[IV.agg [IV.bool true,IV.int 0,IV.int 0]])))),(.i 1),(.list true z2r (List.drop 0 (List.take (List.length u00+1) (List.take (List.length u00) u00++[IV.agg [IV.bool true,IV.int 0,IV.int 0]])))),(.i 0),(.i 0),(.i 0),(.i 0),(.i 0),(.i 0),(.i (IntKind.wrap IntKind.i64 (sp+1)))])])) (some ((.bool true),[(zdq m q [(.vec 36 true za2 (List.take (0+Int.toNat (IntKind.wrap IntKind.i64 (ic (List.length left - 0) - 1))) left)),(.vec 127 true z2r (List.take (List.length u00+1) (List.take (List.length u00) u00++[IV.agg [IV.bool true,IV.int 0,IV.int 0]]))),(.i k),.zs,(.i w0),(.i w1),(.i w2),(.i w3),(.i tw),(.i vs),(.i (IntKind.wrap IntKind.i64 (sp+1)))])]))) none) (cond (z5o m q (Bx.low (bxI (List.getD left (0+Int.toNat (IntKind.wrap IntKind.i64 (ic (List.length left - 0) - 1))) default))) (Sp.hi (Bx.s4 (bxI (List.getD left (0+Int.toNat (IntKind.wrap IntKind.i64 (ic (List.length left - 0) - 1))) default))))) (some ((.bool true),[(zdq m q [(.vec 36 true za2 (List.take (0+Int.toNat (IntKind.wrap IntKind.i64 (ic (List.length left - 0) - 1))) left)),(.vec 127 true z2r (List.take (List.length u00) u00)),(.i 2),.zs,(.i (Pt.p0 (Bx.low (bxI (List.getD left (0+Int.toNat (IntKind.wrap IntKind.i64 (ic (List.length left - 0) - 1))) default))))),(.i (Pt.p1 (Bx.low (bxI (List.getD left (0+Int.toNat (IntKind.wrap IntKind.i64 (ic (List.length left - 0) - 1))) default))))),(.i (Pt.p2 (Bx.low (bxI (List.getD left (0+Int.toNat (IntKind.wrap IntKind.i64 (ic (List.length left - 0) - 1))) default))))),(.i (Pt.p3 (Bx.low (bxI (List.getD left (0+Int.toNat (IntKind.wrap IntKind.i64 (ic (List.length left - 0) - 1))) default))))),(.i (Sp.hi (Bx.s4 (bxI (List.getD left (0+Int.toNat (IntKind.wrap IntKind.i64 (ic (List.length left - 0) - 1))) default))))),(.i 0),(.i (IntKind.wrap IntKind.i64 (sp+1)))])])) (cond (z26 m) (cond (!Option.isSome (z2p m q (bxI (List.getD left (0+Int.toNat (IntKind.wrap IntKind.i64 (ic (List.length left - 0) - 1))) default)))) (some ((.bool true),[(zdq m q [(.vec 36 true za2 (List.take (0+Int.toNat (IntKind.wrap IntKind.i64 (ic (List.length left - 0) - 1))) left)),(.vec 127 true z2r (List.take (List.length u00) u00)),(.i 3),.zs,(.i 0),(.i 0),(.i 0),(.i 0),(.i 0),(.i 0),(.i (IntKind.wrap IntKind.i64 (sp+1)))])])) (cond (zma (spI (z2p m q (bxI (List.getD left (0+Int.toNat (IntKind.wrap IntKind.i64 (ic (List.length left - 0) - 1))) default))))) (cond (decide ((0+Int.toNat (IntKind.wrap IntKind.i64 (ic (List.length left - 0) - 1))+2)*80≤z09)) (cond (decide ((List.length u00+1)*24≤z09)) (some ((.bool true),[(zdq m q [(.vec 36 true za2 (List.take (0+Int.toNat (IntKind.wrap IntKind.i64 (ic (List.length left - 0) - 1))+2) (List.take (0+Int.toNat (IntKind.wrap IntKind.i64 (ic (List.length left - 0) - 1))) left++[(Bx.I (Bx.cutH (bxI (List.getD left (0+Int.toNat (IntKind.wrap IntKind.i64 (ic (List.length left - 0) - 1))) default)) (spI (z2p m q (bxI (List.getD left (0+Int.toNat (IntKind.wrap IntKind.i64 (ic (List.length left - 0) - 1))) default)))) (yaq (z2p m q (bxI (List.getD left (0+Int.toNat (IntKind.wrap IntKind.i64 (ic (List.length left - 0) - 1))) default)))))),(Bx.I (Bx.cutL (bxI (List.getD left (0+Int.toNat (IntKind.wrap IntKind.i64 (ic (List.length left - 0) - 1))) default)) (spI (z2p m q (bxI (List.getD left (0+Int.toNat (IntKind.wrap IntKind.i64 (ic (List.length left - 0) - 1))) default)))) (yaq (z2p m q (bxI (List.getD left (0+Int.toNat (IntKind.wrap IntKind.i64 (ic (List.length left - 0) - 1))) default))))))]))),(.vec 127 true z2r (List.take (List.length u00+1) (List.take (List.length u00) u00++[IV.agg [IV.bool false,IV.int (spI (z2p m q (bxI (List.getD left (0+Int.toNat (IntKind.wrap IntKind.i64 (ic (List.length left - 0) - 1))) default)))),IV.int (yaq (z2p m q (bxI (List.getD left (0+Int.toNat (IntKind.wrap IntKind.i64 (ic (List.length left - 0) - 1))) default))))]]))),(.i k),.zs,(.i w0),(.i w1),(.i w2),(.i w3),(.i tw),(.i vs),(.i (IntKind.wrap IntKind.i64 (sp+1)))])])) none) none) none)) none))) none) none))):=by kernel_rfl
theorem z9t (N:Nat) (m:Md) (q:Qy) (left:List IV) (k w0 w1 w2 w3 tw vs sp:Int):z0y (z5l N) z3z [.tmp 2] [[.bool]] [(.bor (zdq m q [.vec 36 true za2 left,.zs,.int .i64 k,.zs,.int .i64 w0,.int .i64 w1,.int .i64 w2,.int .i64 w3,.int .i64 tw,.int .i64 vs,.int .i64 sp]))]=(cond (k != 0) (some ((.bool false),[(zdq m q [(.vec 36 true za2 (List.take (List.length left) left)),.zs,(.i k),.zs,(.i w0),(.i w1),(.i w2),(.i w3),(.i tw),(.i vs),(.i sp)])])) (cond (decide (sp≥Qy.bu q)) (some ((.bool false),[(zdq m q [(.vec 36 true za2 (List.take (List.length left) left)),.zs,(.i k),.zs,(.i w0),(.i w1),(.i w2),(.i w3),(.i tw),(.i vs),(.i sp)])])) (cond (decide (0≤IntKind.wrap IntKind.i64 (ic (List.length left - 0) - 1))&&decide (IntKind.wrap IntKind.i64 (ic (List.length left - 0) - 1) < ic (List.length left - 0))) (cond (decide (0≤IntKind.wrap IntKind.i64 (ic (List.length left - 0) - 1))&&decide (IntKind.wrap IntKind.i64 (ic (List.length left - 0) - 1)≤ic (List.length left - 0))) (cond (z49 m q (bxI (List.getD left (0+Int.toNat (IntKind.wrap IntKind.i64 (ic (List.length left - 0) - 1))) default))) (cond (ic (0+Int.toNat (IntKind.wrap IntKind.i64 (ic (List.length left - 0) - 1)) - 0)==0) (some ((.bool true),[(zdq m q [(.vec 36 true za2 (List.take (0+Int.toNat (IntKind.wrap IntKind.i64 (ic (List.length left - 0) - 1))) left)),(.list true z2r [(IV.agg [IV.bool true,IV.int 0,IV.int 0])]),(.i 1),(.list true z2r [(IV.agg [IV.bool true,IV.int 0,IV.int 0])]),(.i 0),(.i 0),(.i 0),(.i 0),(.i 0),(.i 0),(.i (IntKind.wrap IntKind.i64 (sp+1)))])])) (some ((.bool true),[(zdq m q [(.vec 36 true za2 (List.take (0+Int.toNat (IntKind.wrap IntKind.i64 (ic (List.length left - 0) - 1))) left)),(.vec 127 true z2r [(IV.agg [IV.bool true,IV.int 0,IV.int 0])]),(.i k),.zs,(.i w0),(.i w1),(.i w2),(.i w3),(.i tw),(.i vs),(.i (IntKind.wrap IntKind.i64 (sp+1)))])]))) (cond (z5o m q (Bx.low (bxI (List.getD left (0+Int.toNat (IntKind.wrap IntKind.i64 (ic (List.length left - 0) - 1))) default))) (Sp.hi (Bx.s4 (bxI (List.getD left (0+Int.toNat (IntKind.wrap IntKind.i64 (ic (List.length left - 0) - 1))) default))))) (some ((.bool true),[(zdq m q [(.vec 36 true za2 (List.take (0+Int.toNat (IntKind.wrap IntKind.i64 (ic (List.length left - 0) - 1))) left)),.zs,(.i 2),.zs,(.i (Pt.p0 (Bx.low (bxI (List.getD left (0+Int.toNat (IntKind.wrap IntKind.i64 (ic (List.length left - 0) - 1))) default))))),(.i (Pt.p1 (Bx.low (bxI (List.getD left (0+Int.toNat (IntKind.wrap IntKind.i64 (ic (List.length left - 0) - 1))) default))))),(.i (Pt.p2 (Bx.low (bxI (List.getD left (0+Int.toNat (IntKind.wrap IntKind.i64 (ic (List.length left - 0) - 1))) default))))),(.i (Pt.p3 (Bx.low (bxI (List.getD left (0+Int.toNat (IntKind.wrap IntKind.i64 (ic (List.length left - 0) - 1))) default))))),(.i (Sp.hi (Bx.s4 (bxI (List.getD left (0+Int.toNat (IntKind.wrap IntKind.i64 (ic (List.length left - 0) - 1))) default))))),(.i 0),(.i (IntKind.wrap IntKind.i64 (sp+1)))])])) (cond (z26 m) (cond (!Option.isSome (z2p m q (bxI (List.getD left (0+Int.toNat (IntKind.wrap IntKind.i64 (ic (List.length left - 0) - 1))) default)))) (some ((.bool true),[(zdq m q [(.vec 36 true za2 (List.take (0+Int.toNat (IntKind.wrap IntKind.i64 (ic (List.length left - 0) - 1))) left)),.zs,(.i 3),.zs,(.i 0),(.i 0),(.i 0),(.i 0),(.i 0),(.i 0),(.i (IntKind.wrap IntKind.i64 (sp+1)))])])) (cond (zma (spI (z2p m q (bxI (List.getD left (0+Int.toNat (IntKind.wrap IntKind.i64 (ic (List.length left - 0) - 1))) default))))) (cond (decide ((0+Int.toNat (IntKind.wrap IntKind.i64 (ic (List.length left - 0) - 1))+2)*80≤z09)) (some ((.bool true),[(zdq m q [(.vec 36 true za2 (List.take (0+Int.toNat (IntKind.wrap IntKind.i64 (ic (List.length left - 0) - 1))+2) (List.take (0+Int.toNat (IntKind.wrap IntKind.i64 (ic (List.length left - 0) - 1))) left++[(Bx.I (Bx.cutH (bxI (List.getD left (0+Int.toNat (IntKind.wrap IntKind.i64 (ic (List.length left - 0) - 1))) default)) (spI (z2p m q (bxI (List.getD left (0+Int.toNat (IntKind.wrap IntKind.i64 (ic (List.length left - 0) - 1))) default)))) (yaq (z2p m q (bxI (List.getD left (0+Int.toNat (IntKind.wrap IntKind.i64 (ic (List.length left - 0) - 1))) default)))))),(Bx.I (Bx.cutL (bxI (List.getD left (0+Int.toNat (IntKind.wrap IntKind.i64 (ic (List.length left - 0) - 1))) default)) (spI (z2p m q (bxI (List.getD left (0+Int.toNat (IntKind.wrap IntKind.i64 (ic (List.length left - 0) - 1))) default)))) (yaq (z2p m q (bxI (List.getD left (0+Int.toNat (IntKind.wrap IntKind.i64 (ic (List.length left - 0) - 1))) default))))))]))),(.vec 127 true z2r [(IV.agg [IV.bool false,IV.int (spI (z2p m q (bxI (List.getD left (0+Int.toNat (IntKind.wrap IntKind.i64 (ic (List.length left - 0) - 1))) default)))),IV.int (yaq (z2p m q (bxI (List.getD left (0+Int.toNat (IntKind.wrap IntKind.i64 (ic (List.length left - 0) - 1))) default))))])]),(.i k),.zs,(.i w0),(.i w1),(.i w2),(.i w3),(.i tw),(.i vs),(.i (IntKind.wrap IntKind.i64 (sp+1)))])])) none) none)) none))) none) none))):=by kernel_rfl
theorem zeh (N:Nat) (m:Md) (q:Qy) (left u00 vp:List IV) (k w0 w1 w2 w3 tw vs sp:Int):z0y (z5l N) z3z [.tmp 2] [[.bool]] [(.bor (zdq m q [.vec 36 true za2 left,.list true z2r u00,.int .i64 k,.list true z2r vp,.int .i64 w0,.int .i64 w1,.int .i64 w2,.int .i64 w3,.int .i64 tw,.int .i64 vs,.int .i64 sp]))]=(cond (k != 0) (some ((.bool false),[(zdq m q [(.vec 36 true za2 (List.take (List.length left) left)),(.list true z2r u00),(.i k),(.list true z2r vp),(.i w0),(.i w1),(.i w2),(.i w3),(.i tw),(.i vs),(.i sp)])])) (cond (decide (sp≥Qy.bu q)) (some ((.bool false),[(zdq m q [(.vec 36 true za2 (List.take (List.length left) left)),(.list true z2r u00),(.i k),(.list true z2r vp),(.i w0),(.i w1),(.i w2),(.i w3),(.i tw),(.i vs),(.i sp)])])) (cond (decide (0≤IntKind.wrap IntKind.i64 (ic (List.length left - 0) - 1))&&decide (IntKind.wrap IntKind.i64 (ic (List.length left - 0) - 1) < ic (List.length left - 0))) (cond (decide (0≤IntKind.wrap IntKind.i64 (ic (List.length left - 0) - 1))&&decide (IntKind.wrap IntKind.i64 (ic (List.length left - 0) - 1)≤ic (List.length left - 0))) (cond (z49 m q (bxI (List.getD left (0+Int.toNat (IntKind.wrap IntKind.i64 (ic (List.length left - 0) - 1))) default))) none (cond (z5o m q (Bx.low (bxI (List.getD left (0+Int.toNat (IntKind.wrap IntKind.i64 (ic (List.length left - 0) - 1))) default))) (Sp.hi (Bx.s4 (bxI (List.getD left (0+Int.toNat (IntKind.wrap IntKind.i64 (ic (List.length left - 0) - 1))) default))))) (some ((.bool true),[(zdq m q [(.vec 36 true za2 (List.take (0+Int.toNat (IntKind.wrap IntKind.i64 (ic (List.length left - 0) - 1))) left)),(.list true z2r u00),(.i 2),.zs,(.i (Pt.p0 (Bx.low (bxI (List.getD left (0+Int.toNat (IntKind.wrap IntKind.i64 (ic (List.length left - 0) - 1))) default))))),(.i (Pt.p1 (Bx.low (bxI (List.getD left (0+Int.toNat (IntKind.wrap IntKind.i64 (ic (List.length left - 0) - 1))) default))))),(.i (Pt.p2 (Bx.low (bxI (List.getD left (0+Int.toNat (IntKind.wrap IntKind.i64 (ic (List.length left - 0) - 1))) default))))),(.i (Pt.p3 (Bx.low (bxI (List.getD left (0+Int.toNat (IntKind.wrap IntKind.i64 (ic (List.length left - 0) - 1))) default))))),(.i (Sp.hi (Bx.s4 (bxI (List.getD left (0+Int.toNat (IntKind.wrap IntKind.i64 (ic (List.length left - 0) - 1))) default))))),(.i 0),(.i (IntKind.wrap IntKind.i64 (sp+1)))])])) (cond (z26 m) (cond (!Option.isSome (z2p m q (bxI (List.getD left (0+Int.toNat (IntKind.wrap IntKind.i64 (ic (List.length left - 0) - 1))) default)))) (some ((.bool true),[(zdq m q [(.vec 36 true za2 (List.take (0+Int.toNat (IntKind.wrap IntKind.i64 (ic (List.length left - 0) - 1))) left)),(.list true z2r u00),(.i 3),.zs,(.i 0),(.i 0),(.i 0),(.i 0),(.i 0),(.i 0),(.i (IntKind.wrap IntKind.i64 (sp+1)))])])) (cond (zma (spI (z2p m q (bxI (List.getD left (0+Int.toNat (IntKind.wrap IntKind.i64 (ic (List.length left - 0) - 1))) default))))) (cond (decide ((0+Int.toNat (IntKind.wrap IntKind.i64 (ic (List.length left - 0) - 1))+2)*80≤z09)) none none) none)) none))) none) none))):=by kernel_rfl
theorem zf9 (N:Nat) (m:Md) (q:Qy) (k w0 w1 w2 w3 tw vs sp:Int):z0y (z5l N) z3z [.tmp 2] [[.bool]] [(.bor (zdq m q [.zs,.zs,.int .i64 k,.zs,.int .i64 w0,.int .i64 w1,.int .i64 w2,.int .i64 w3,.int .i64 tw,.int .i64 vs,.int .i64 sp]))]=(cond (k != 0) (some ((.bool false),[(zdq m q [.zs,.zs,(.i k),.zs,(.i w0),(.i w1),(.i w2),(.i w3),(.i tw),(.i vs),(.i sp)])])) (cond (decide (sp≥Qy.bu q)) (some ((.bool false),[(zdq m q [.zs,.zs,(.i k),.zs,(.i w0),(.i w1),(.i w2),(.i w3),(.i tw),(.i vs),(.i sp)])])) none)):=by kernel_rfl
open Go Go.Proofs Go.RowKit Go.Sort Go.Lib
theorem ybe:(PR.info? 127).map (fun i=>(i.zero,i.size,i.bytes))=some (some (.agg #[.bool false,.int .i64 0,.int .i64 0]),3,24):=by kernel_rfl
set_option maxHeartbeats 4000000 in
theorem y8x (b:Addr) (n c:Nat) (news:List Value) (w:World) (hl:news.length=n*3) (hn:n≤maxLen) (hbig:n*24≤140737488355328)
  (hc:∀ j u,news[j]?=some u→w.cell? (b.add j)=some u) (h1:∀ u∈news,u.oneCell'=true) :
  Calls Tryz.prog 125 #[.slice (some b) n c] w fun e w'=>∃ v',e = .returned v'∧w'.ownsRow w.heap.size 127 3 v' n news∧Below w.heap.size w w':=by
 obtain ⟨i0,hi,hz0,hz1,hz2⟩:∃ i,PR.info? 127=some i∧i.zero=some (.agg #[.bool false,.int .i64 0,.int .i64 0])∧i.size=3∧i.bytes=24:=by
  have h:=ybe;rw [v26] at h;obtain ⟨i,hi,he⟩:=h;simp only [v04] at he;exact ⟨i,hi,he⟩
 have qS:∀ (w:World) (a:Option Addr) (n c n' c':Nat),(binOp .eql 51 (.slice a n c) (.slice none n' c')).run Tryz.prog w = .ok (.bool a.isNone) w:=fun w a n c n' c'=>Lib.run_eql_slice_nil w _ _ a n c n' c' Tryz.underlying51
 have A:Aside (∀ j u,news[j]?=some u→w.cell? (b.add j)=some u):=hc;clear hc
 go_enter Tryz.func125,Tryz.ntmps125
 go_wp2_with (at_builtin; refine wpList_append_own _ rfl _ _ 51 rfl w.heap.size 127 i0 (.agg #[.bool false,.int .i64 0,.int .i64 0]) 3 24 Tryz.underlying51 hi hz0 hz1 hz2 rfl (by decide) _ _ _ rfl (World.ownsRow_made w #[] 0 (v08 _) (v0y _) (by simp)) b n c news rfl ?qc1 ?qc2 ?qc3 ?qc4 ?qc5 ?qc6 ?_)
 case qc1=>exact hl
 case qc2=>
  intro j u hj;exact Lib.cell?_alloc_some _ (A.out j u hj)
 case qc3=>exact h1
 case qc4=>rw [v0n]; exact hn
 case qc5=>rw [v0n]; exact hbig
 case qc6=>simp
 intro v' w1 hown hgrow hnil
 go_wp2
 go_ret
 refine ⟨v',rfl,by simpa using hown,?_⟩
 exact ((Below.refl _ w).alloc (v08 _) _).grown hgrow (by simp) (by intro k hk; simp [Value.ownBlock] at hk; omega)
set_option maxHeartbeats 1000000 in
theorem ztb (n c:Nat) (w:World):Calls Tryz.prog 125 #[.slice none n c] w fun e w'=>e = .returned (.slice none 0 0)∧w'=w:=by
 have qS:∀ (w:World) (a:Option Addr) (n c n' c':Nat),(binOp .eql 51 (.slice a n c) (.slice none n' c')).run Tryz.prog w = .ok (.bool a.isNone) w:=fun w a n c n' c'=>Lib.run_eql_slice_nil w _ _ a n c n' c' Tryz.underlying51
 go_enter Tryz.func125,Tryz.ntmps125
 go_wp2
 go_ret
 exact ⟨rfl,rfl⟩
def zfl (y:IV):Nat→Value
 | 0=>.bool (zc1 y)
 | 1=>.int .i64 (z1k y)
 | _=>.int .i64 (zhv y)
def zc8 (l:List IV):List Value:=l.flatMap fun y=>[zfl y 0,zfl y 1,zfl y 2]
theorem zjj:∀ l:List IV,(zc8 l).length=l.length*3
 | []=>rfl
 | y :: r=>by
  have:=zjj r
  unfold zc8 at this ⊢
  rw [v3c,v0a,this,v05];simp;omega
theorem zi2:∀ (l:List IV) (j:Nat) (u:Value),(zc8 l)[j]?=some u→∃ i y k,j=i*3+k∧k < 3∧l[i]?=some y∧u=zfl y k
 | [],j,u,h=>by simp [zc8] at h
 | y :: r,j,u,h=>by
  have e:zc8 (y :: r)=[zfl y 0,zfl y 1,zfl y 2]++zc8 r:=by unfold zc8; rw [v3c]
  rw [e] at h
  match j,h with
  | 0,h=>exact ⟨0,y,0,rfl,by omega,rfl,by simpa using h.symm⟩
  | 1,h=>exact ⟨0,y,1,rfl,by omega,rfl,by simpa using h.symm⟩
  | 2,h=>exact ⟨0,y,2,rfl,by omega,rfl,by simpa using h.symm⟩
  | j+3,h=>
   obtain ⟨i,z,k,rfl,hk,hi,hu⟩:=zi2 r j u (by simpa using h)
   exact ⟨i+1,z,k,by omega,hk,by simpa using hi,hu⟩
theorem y4t (l:List IV) (i:Nat) (y:IV) (hy:l[i]?=some y) (k:Nat) (hk:k < 3):(zc8 l)[i*3+k]?=some (zfl y k):=by
 have hi:i < l.length:=(List.getElem?_eq_some_iff.1 hy).1;have hlt:i*3+k < (zc8 l).length:=by rw [zjj]; omega
 obtain ⟨i',y',k',h1,h2,h3,h4⟩:=zi2 l (i*3+k) _ (v0g hlt);obtain rfl:i'=i:=by omega
 obtain rfl:k'=k:=by omega
 rw [hy] at h3;simp only [v00] at h3;subst h3;rw [v0g hlt,h4]
theorem zak:z2u PR B0 125 z2n:=by
 intro w X γ vs xs r out hsp hg hx hR hV;unfold z2n at hsp;simp only at hsp
 split at hsp
 ·rename_i l
  cases hc:Nat.ble l.length 100000 with
  | false=>rw [hc] at hsp; simp [R.get] at hsp
  | true=>
   rw [hc] at hsp;have hc:=v03 hc;simp only [R.get,v00,v04] at hsp;obtain ⟨rfl,rfl⟩:=hsp;obtain ⟨x0,rfl⟩:∃ x0,xs=[x0]:=by
    have:=hV.length
    simp at this
    match xs,this with
    | [a],_=>exact ⟨a,rfl⟩
   simp only [v0e,v10,z8p,VRels,VRel,v18] at hV;simp only [Kd.Rel,IV.toList] at hV;obtain ⟨p,c,rfl,hc1,hc2,hc3,hcell⟩:=hV;have key:∀ i y,l[i]?=some y→∃ b o,p=some ⟨b,o,none⟩∧(∀ k,k < 3→w.cell? ⟨b,o+i*3+k,none⟩=some (zfl y k))∧(IntKind.i64.min≤z1k y∧z1k y≤IntKind.i64.max)∧(IntKind.i64.min≤zhv y∧zhv y≤IntKind.i64.max):=fun i y hy=>by
    obtain ⟨b,o,rfl,_,_,hr⟩:=hcell i y hy;simp only [Kd.RelAll,v18,v05,v0o,v0n,v1j] at hr;obtain ⟨⟨u0,a0,b0⟩,⟨u1,a1,b1⟩,⟨u2,a2,b2⟩⟩:=hr;simp only [Kd.Rel,z2q] at b0 b1 b2;refine ⟨b,o,rfl,fun k hk=>?_,b1.2,b2.2⟩
    match k,hk with
    | 0,_=>rw [b0] at a0; exact a0
    | 1,_=>rw [b1.1] at a1; exact a1
    | 2,_=>rw [b2.1] at a2; exact a2
   have hel:∀ (w':World) (O:Nat→Prop) i y,l[i]?=some y→Kd.RelAll w' O z2r (z2q true y) 0 (fun j u=>(zc8 l)[i*z2r.length+j]?=some u):=fun w' O i y hy=>by
    obtain ⟨_,_,_,_,k1,k2⟩:=key i y hy;simp only [Kd.RelAll,v05,v0o,v0n,v1j,v18];have g:=y4t l i y hy;refine ⟨⟨_,g 0 (by omega),?_⟩,⟨_,g 1 (by omega),?_⟩,⟨_,g 2 (by omega),?_⟩⟩
    ·simp only [Kd.Rel,z2q,zfl,zc1]
    ·simp only [Kd.Rel,z2q,zfl,z1k]; exact ⟨trivial,k1⟩
    ·simp only [Kd.Rel,z2q,zfl,zhv]; exact ⟨trivial,k2⟩
   refine y0u hR rfl (by decide) (by decide) hc3 (Does.of_calls Tryz.func125 (by kernel_rfl) (by kernel_rfl) ?_)
   cases p with
   | none=>
    have h0:l=[]:=by
     cases l with
     | nil=>rfl
     | cons y r=>
      obtain ⟨b,o,hp,_⟩:=key 0 y rfl;cases hp
    subst h0;refine (ztb _ c w).mono ?_
    rintro e w' ⟨rfl,rfl⟩
    exact ⟨_,[],rfl,Keep.refl _ _,⟨rfl,.inl ⟨rfl,rfl⟩⟩,hel _⟩
   | some a=>
    refine (y8x a l.length c (zc8 l) w (zjj l) (by unfold maxLen; omega) (by omega) (fun j u hj=>?_) (fun u hu=>?_)).mono ?_
    ·obtain ⟨i,y,k,rfl,hk,hi,rfl⟩:=zi2 l j u hj
     obtain ⟨b,o,hp,hu,_⟩:=key i y hi;simp only [v00] at hp;subst hp;rw [Addr.add_lit,← v2i];exact hu k hk
    ·obtain ⟨j,hj⟩:=v2t hu
     obtain ⟨i,y,k,_,hk,_,rfl⟩:=zi2 l j u hj
     match k,hk with
     | 0,_=>rfl
     | 1,_=>rfl
     | 2,_=>rfl
    ·rintro e w' ⟨v',rfl,hown,hw⟩
     exact ⟨v',_,rfl,Keep.below hw,hown,hel _⟩
 ·simp [R.get] at hsp
open Go Go.Proofs
set_option maxRecDepth 100000
theorem ygu {l:List V} {m:Md} (h:mdOf? l=some m):l=m.cs:=by
 unfold mdOf? at h
 split at h
 ·simp only [v00] at h
  subst h
  rfl
 ·cases h
theorem yg4 {l:List V} {q:Qy} (h:qyOf? l=some q):l=q.cs:=by
 unfold qyOf? at h
 split at h
 ·simp only [v00] at h
  subst h
  rfl
 ·cases h
theorem yha {l r:List V} {m:Md} {q:Qy} (h:seOf? l=some (m,q,r)):l=zdq m q r:=by
 unfold seOf? at h
 split at h
 ·rename_i m' q' h1 h2
  simp only [v00,v04] at h;obtain ⟨rfl,rfl,rfl⟩:=h;unfold zdq;rw [← ygu h1,← yg4 h2,v3j,v3j]
 ·cases h
def yk5 (t:Nat) (s:Sr):Prop:=t≤3∧(t=3→s.left=[])∧(t=1∨t=3→s.proof=[])∧(t≠2→s.v.proof=[])
theorem yih {r:List V} {t:Nat} {s:Sr} (h:srT? r=some (t,s)) (m:Md) (q:Qy):zdq m q r=srV t m q s∧yk5 t s:=by
 unfold srT? at h
 split at h
 case h_5=>cases h
 all_goals
  simp only [v00,v04] at h;obtain ⟨rfl,rfl⟩:=h;refine ⟨rfl,by omega,?_,?_,?_⟩ <;> intro h <;> first | rfl | (exfalso; omega)
theorem zvr {v:V} {k:Nat→Md→Qy→Sr→R} {z:V × List (List V)} (h:(y6x v k).get=some z):∃ t m q s,v = .bor (srV t m q s)∧yk5 t s∧(k t m q s).get=some z:=by
 unfold y6x at h
 split at h
 ·rename_i l
  split at h
  ·rename_i m q r hl
   split at h
   ·rename_i t s hr
    obtain ⟨e,hw⟩:=yih hr m q;exact ⟨t,m,q,s,by rw [yha hl,e],hw,h⟩
   ·simp [R.get] at h
  ·simp [R.get] at h
 ·simp [R.get] at h
theorem zt0:z2u PR B0 74 zbj:=by
 refine z0f [(65,z2e),(66,z63)] [] zbj [[.list false []]] Tryz.func74 y30 ⟨z7i,zgp,trivial⟩ ?_;intro vs r hwf h;unfold zbj at h
 split at h
 ·rename_i m q
  replace h:=z3f h;obtain ⟨m,rfl,h⟩:=h;replace h:=z2z h;obtain ⟨q,rfl,h⟩:=h;refine ⟨0,(zwo 0 m q).trans ?_⟩;cases hr:z3c m q with
  | true=>rw [hr,R.get_br,z00,R.get_ok] at h; exact h
  | false=>rw [hr,R.get_br,z02,R.get_ok] at h; exact h
 ·simp [R.get] at h
theorem zdl:z2u PR B0 76 z32:=by
 refine z0f [(125,z2n)] [] z32 [[.int .i64,.list true [.bool,.int .i64,.int .i64],.int .i64,.int .i64,.int .i64,.int .i64,.int .i64,.int .i64]] Tryz.func76 zee ⟨zak,trivial⟩ ?_;intro vs r hwf h;unfold z32 at h
 split at h
 ·replace h:=zvr h
  obtain ⟨t,m,q,s,rfl,hw,h⟩:=h;cases hg:Nat.ble s.v.proof.length 100000 with
  | false=>rw [hg] at h; simp [R.get] at h
  | true=>
   rw [hg,R.get_br,z00,R.get_ok] at h;refine ⟨0,?_⟩;rw [← h];obtain ⟨left,proof,⟨k,vp,a,b,c,d,tw,vs⟩,sp⟩:=s;replace hg:Nat.ble vp.length 100000=true:=hg
   match t,hw with
   | 0,hw=>
    obtain rfl:vp=[]:=hw.2.2.2 (by omega)
    refine (zd1 0 m q left proof k a b c d tw vs sp).trans ?_;rw [v0w,v0w];unfold y07;cases (k==0) <;> rfl
   | 1,hw=>
    obtain rfl:vp=[]:=hw.2.2.2 (by omega)
    refine (zd5 0 m q left k a b c d tw vs sp).trans ?_;rw [v0w];unfold y07;cases (k==0) <;> rfl
   | 2,_=>
    refine (zd6 0 m q left proof vp k a b c d tw vs sp).trans ?_;rw [v0w,hg,z00,z00,v11,v0w];unfold y07;cases (k==0) <;> rfl
   | 3,hw=>
    obtain rfl:vp=[]:=hw.2.2.2 (by omega)
    refine (zd3 0 m q k a b c d tw vs sp).trans ?_;unfold y07;cases (k==0) <;> rfl
   | t+4,hw=>exact absurd hw.1 (by omega)
 ·simp [R.get] at h
theorem yfg (m:Md) (q:Qy) (b:Bx):∀ (d i:Nat),i+d=5→(spR m q b d i).isSome=true→zma (spI (spR m q b d i))=true
 | 0,i,_,h=>by rw [spR] at h; cases h
 | d+1,i,hd,h=>by
  rw [spR] at h ⊢
  cases hc:decide ((zjs m q b i).length > 0) with
  | true=>
   rw [z00];show zma (i:Int)=true;unfold zma;rw [v01 (show (0:Int)≤(i:Int) by omega),v01 (show (i:Int) < 5 by omega)]
   rfl
  | false=>
   rw [hc,z02] at h;rw [z02];exact yfg m q b d (i+1) (by omega) h
theorem zfx:z2u PR B0 75 z3w:=by
 refine z0f [(111,z74),(122,z9r),(123,z9o),(124,zar),(70,z5b)] [] z3w [[.bool]] Tryz.func75 zi4 ⟨zf4,zsv,zsb,zus,zfp,trivial⟩ ?_;intro vs r hwf h;unfold z3w at h
 split at h
 ·replace h:=zvr h
  obtain ⟨t,m,q,s,rfl,hw,h⟩:=h;refine ⟨0,?_⟩;obtain ⟨left,proof,⟨k,vp,a,b,c,d,tw,vs⟩,sp⟩:=s;cases ho:zml q ⟨left,proof,⟨k,vp,a,b,c,d,tw,vs⟩,sp⟩ with
  | true=>
   rw [ho,R.get_br,z00,R.get_ok] at h;rw [← h];have hk:(k != 0)=true∨(k != 0)=false∧decide (sp≥q.bu)=true:=by
    unfold zml at ho;have e:(k != 0)=!(k==0):=rfl;rw [e];cases hk:(k==0) with
    | false=>exact .inl rfl
    | true=>
     replace ho:(!(k==0)||decide (sp≥q.bu))=true:=ho;rw [hk,v0c,v2g] at ho;exact .inr ⟨rfl,ho⟩
   match t,hw with
   | 0,hw=>
    refine (z9b 0 m q left proof k a b c d tw vs sp).trans ?_;rcases hk with hk | ⟨hk,hs⟩
    ·rw [hk,z00,v0w,v0w]; rfl
    ·rw [hk,z02,hs,z00,v0w,v0w]; rfl
   | 1,hw=>
    refine (z9t 0 m q left k a b c d tw vs sp).trans ?_;rcases hk with hk | ⟨hk,hs⟩
    ·rw [hk,z00,v0w]; rfl
    ·rw [hk,z02,hs,z00,v0w]; rfl
   | 2,hw=>
    refine (zeh 0 m q left proof vp k a b c d tw vs sp).trans ?_;rcases hk with hk | ⟨hk,hs⟩
    ·rw [hk,z00,v0w]; rfl
    ·rw [hk,z02,hs,z00,v0w]; rfl
   | 3,hw=>
    refine (zf9 0 m q k a b c d tw vs sp).trans ?_;rcases hk with hk | ⟨hk,hs⟩
    ·rw [hk,z00]; rfl
    ·rw [hk,z02,hs,z00]; rfl
   | t+4,hw=>exact absurd hw.1 (by omega)
  | false=>
   rw [ho,R.get_br,z02] at h;unfold zml at ho;replace ho:(!(k==0)||decide (sp≥q.bu))=false:=ho;rw [v2v] at ho;have hk:(k != 0)=false:=ho.1;have hsp:decide (sp≥q.bu)=false:=ho.2;cases hg:(Nat.ble t 1&&(z3c m q&&(decide (0≤sp)&&(Nat.blt 0 left.length&&(Nat.ble left.length 100000&&Nat.ble proof.length 100000))))) with
   | false=>
    replace h:(R.br (Nat.ble t 1&&(z3c m q&&(decide (0≤sp)&&(Nat.blt 0 left.length&&(Nat.ble left.length 100000&&Nat.ble proof.length 100000))))) _ R.no).get=some r:=h;rw [hg] at h;simp [R.get] at h
   | true=>
    replace h:(R.br (Nat.ble t 1&&(z3c m q&&(decide (0≤sp)&&(Nat.blt 0 left.length&&(Nat.ble left.length 100000&&Nat.ble proof.length 100000))))) _ R.no).get=some r:=h;rw [hg,R.get_br,z00] at h;have hst:some (.bool true,[srV (ydp m q t ⟨left,proof,⟨k,vp,a,b,c,d,tw,vs⟩,sp⟩) m q (zfy m q ⟨left,proof,⟨k,vp,a,b,c,d,tw,vs⟩,sp⟩)])=some r:=by
     rw [← h];unfold ydp;simp only [R.get_br,R.get_ok];cases z49 m q (z6w left) with
     | true=>cases (ic (left.length - 1)==0) <;> rfl
     | false=>
      cases z5o m q (z6w left).low (z6w left).s4.hi with
      | true=>rfl
      | false=>cases (z2p m q (z6w left)).isSome <;> rfl
    rw [← hst];simp only [v02] at hg;obtain ⟨ht,hr,h0,hl,hl5,hp5⟩:=hg;obtain ⟨hm,_,⟨_,hbu⟩,_,_⟩:=z91 hr;have h0:=v0d h0;have hs1:=v0t hsp;have hl:0 < left.length:=v03 hl;have hl5:=v03 hl5;have hp5:=v03 hp5;have esp:IntKind.wrap IntKind.i64 (sp+1)=sp+1:=z15 (by omega) (by omega)
    have etop:IntKind.wrap IntKind.i64 (ic (left.length - 0) - 1)=((left.length - 1:Nat):Int):=by
     rw [z15 (by simp only [ic]; omega) (by simp only [ic]; omega)]
     simp only [ic];omega
    have ed:(decide (0≤((left.length - 1:Nat):Int))&&decide (((left.length - 1:Nat):Int) < ic (left.length - 0)))=true:=by
     rw [v01 (by omega),v01 (by simp only [ic]; omega)]
     rfl
    have ee:(decide (0≤((left.length - 1:Nat):Int))&&decide (((left.length - 1:Nat):Int)≤ic (left.length - 0)))=true:=by
     rw [v01 (by omega),v01 (by simp only [ic]; omega)]
     rfl
    have epop:left.take (left.length - 1+2)=left.take (left.length - 1+2):=rfl;have hlen:(zhz left).length=left.length - 1:=by unfold zhz; rw [v0h]; omega
    have htk:∀ (x y:IV),List.take (left.length - 1+2) (List.take (left.length - 1) left++[x,y])=zhz left++[x,y]:=fun x y=>v1a (by rw [v0a]; unfold zhz at hlen; rw [hlen]; simp)
    have hb80:decide ((left.length - 1+2)*80≤z09)=true:=v01 (by unfold z09; omega)
    have hin:=yfg m q (z6w left) 5 0 rfl;replace hin:(z2p m q (z6w left)).isSome=true→zma (spI (z2p m q (z6w left)))=true:=hin
    match t,ht,hw with
    | 0,_,_=>
     have hb24:decide ((proof.length+1)*24≤z09)=true:=v01 (by unfold z09; omega)
     have htp:∀ x:IV,List.take (proof.length+1) (proof++[x])=proof++[x]:=fun x=>v1a (by rw [v0a]; simp)
     refine (z9b 0 m q left proof k a b c d tw vs sp).trans ?_;rw [hk,z02,hsp,z02,etop,ed,z00,ee,z00,esp,v0l];simp only [v0n,v2n,v0w];rw [hb24,hb80,hm];unfold zfy ydp;show cond (z49 m q (z6w left)) _ (cond (z5o m q (z6w left).low (z6w left).s4.hi) _ _)=_;cases z49 m q (z6w left) with
     | true=>
      simp only [htp,v11];rw [z00,z00];show cond (ic (left.length - 1)==0) _ _=_;cases (ic (left.length - 1)==0) <;> rfl
     | false=>
      rw [z02];cases z5o m q (z6w left).low (z6w left).s4.hi with
      | true=>rfl
      | false=>
       rw [z02,z00];show cond (!(z2p m q (z6w left)).isSome) _ (cond (zma (spI (z2p m q (z6w left)))) _ _)=_;cases hs:(z2p m q (z6w left)).isSome with
       | false=>rfl
       | true=>
        rw [v0c,z02,hin hs,z00,z00,z00];simp only [htp,htk]
        rfl
    | 1,_,hw=>
     obtain rfl:proof=[]:=hw.2.2.1 (.inl rfl);refine (z9t 0 m q left k a b c d tw vs sp).trans ?_;rw [hk,z02,hsp,z02,etop,ed,z00,ee,z00,esp,v0l];simp only [v0n,v2n];rw [hb80,hm];unfold zfy ydp;show cond (z49 m q (z6w left)) _ (cond (z5o m q (z6w left).low (z6w left).s4.hi) _ _)=_;cases z49 m q (z6w left) with
     | true=>
      rw [z00];show cond (ic (left.length - 1)==0) _ _=_;cases (ic (left.length - 1)==0) <;> rfl
     | false=>
      rw [z02];cases z5o m q (z6w left).low (z6w left).s4.hi with
      | true=>rfl
      | false=>
       rw [z02,z00];show cond (!(z2p m q (z6w left)).isSome) _ (cond (zma (spI (z2p m q (z6w left)))) _ _)=_;cases hs:(z2p m q (z6w left)).isSome with
       | false=>rfl
       | true=>
        rw [v0c,z02,hin hs,z00,z00];simp only [htk]
        rfl
    | t+2,ht,_=>exact absurd (v03 ht) (by omega)
 ·simp [R.get] at h
open Go Go.Proofs
def z5v (N:Nat):Env:=mkE [(74,zbj),(75,z3w),(76,z32)] [(2,⟨[4,5],[4,8,500,501],[⟨.cell 8 23,500,36,true,za2⟩,⟨.cell 8 24,501,127,true,z2r⟩]⟩)] 13 N
open Go Go.Proofs
set_option maxRecDepth 100000
abbrev kpR:KP:=⟨[4,5],[4,8,500,501],[⟨.cell 8 23,500,36,true,za2⟩,⟨.cell 8 24,501,127,true,z2r⟩]⟩
def ykg (sh:Bool) (s:Sr):List V:=match sh with
 | false=>.row 500 0 s.left.length :: .row 501 0 s.proof.length :: vdT s.v .zs s.spent
 | true=>.row 500 0 s.left.length :: yf0 s.proof :: vdT s.v (yf0 s.v.proof) s.spent
def ykl (sh:Bool) (s:Sr):Option Ob:=match sh with
 | false=>some (.row true 127 true z2r s.proof)
 | true=>none
def zj0 (m:Md) (q:Qy) (sh:Bool) (s:Sr):St:=
 ⟨[(4,.ptr 4 0 0),(5,.ptr 8 0 0)],[(4,some (.box [.int .i64 0,.zs,.int .i64 0,.int .i64 0,.int .i64 0,.int .i64 0,.int .i64 0,.int .i64 0])),(8,some (.box (zdq m q (ykg sh s)))),(500,some (.row true 36 true za2 s.left)),(501,ykl sh s)]⟩
def tkS (s:Sr):Sr:=⟨s.left.take s.left.length,s.proof.take s.proof.length,⟨s.v.kind,[],s.v.w0,s.v.w1,s.v.w2,s.v.w3,s.v.twin,s.v.spent⟩,s.spent⟩
def yi1 (s:Sr):Sr:=⟨s.left.take s.left.length,s.proof,s.v,s.spent⟩
theorem y0x {s:Sr} (h:s.v.proof=[]):tkS s=s:=by
 obtain ⟨left,proof,⟨k,vp,a,b,c,d,tw,vs⟩,sp⟩:=s;obtain rfl:vp=[]:=h;unfold tkS;simp only [v0w]
theorem yac (s:Sr):yi1 s=s:=by
 obtain ⟨left,proof,v,sp⟩:=s;unfold yi1;simp only [v0w]
def okS (m:Md) (q:Qy) (s:Sr):Bool:=z3c m q&&(decide (0≤s.spent)&&(Nat.blt 0 s.left.length&&(Nat.ble s.left.length 100000&&Nat.ble s.proof.length 100000)))
noncomputable abbrev yi6 (N:Nat):Out→St→Res:=z06 0 (kSq (z5v N) (z0i z5z [1,1,1]) (z2v (z5v N) none [.cell 4 55] [[.int .i64,.list true z2r,.int .i64,.int .i64,.int .i64,.int .i64,.int .i64,.int .i64]]))
theorem zwr (N:Nat) (m:Md) (q:Qy):z0y (z5v N) z5z [.cell 4 55] [[.int .i64,.list true [.bool,.int .i64,.int .i64],.int .i64,.int .i64,.int .i64,.int .i64,.int .i64,.int .i64]] [m.V,q.V] =
 cond (z3c m q) (lpE (z5v N) (z0i z5z [1,1,0,0,0]) kpR N (zj0 m q false ⟨[(z9p q).I],[],Vd.none,0⟩) (yi6 N))
 (lpE (z5v N) (z0i z5z [1,1,0,0,0]) kpR N (zj0 m q false ⟨[],[],⟨4,[],0,0,0,0,0,0⟩,0⟩) (yi6 N)):=by kernel_rfl
theorem zmt (N:Nat) (m:Md) (q:Qy) (s:Sr) (again:St→Res) (k:Out→St→Res):rnd (z5v N) (z0i z5z [1,1,0,0,0]) (zj0 m q false s) (z3v again kpR k) =
 cond (zml q (tkS s)) (k (.exit 0) (zj0 m q false (tkS s)))
 (cond (okS m q (tkS s))
 (cond (z49 m q (z6w (tkS s).left)) (cond (ic ((tkS s).left.length - 1)==0) (again (zj0 m q true (zfy m q (tkS s)))) (again (zj0 m q false (zfy m q (tkS s)))))
 (cond (z5o m q (z6w (tkS s).left).low (z6w (tkS s).left).s4.hi) (again (zj0 m q false (zfy m q (tkS s))))
 (cond (z2p m q (z6w (tkS s).left)).isSome (again (zj0 m q false (zfy m q (tkS s)))) (again (zj0 m q false (zfy m q (tkS s))))))) none):=by kernel_rfl
theorem zx1 (N:Nat) (m:Md) (q:Qy) (s:Sr) (again:St→Res) (k:Out→St→Res):rnd (z5v N) (z0i z5z [1,1,0,0,0]) (zj0 m q true s) (z3v again kpR k) =
 cond (zml q (yi1 s)) (k (.exit 0) (zj0 m q true (yi1 s))) none:=by kernel_rfl
theorem zuv (N:Nat) (m:Md) (q:Qy) (s:Sr):yi6 N (.exit 0) (zj0 m q false s)=some ((y07 (tkS s)).V,[]):=by kernel_rfl
theorem zz9 (N:Nat) (m:Md) (q:Qy) (s:Sr):yi6 N (.exit 0) (zj0 m q true s)=cond (Nat.ble s.v.proof.length 100000) (some ((y07 (yi1 s)).V,[])) none:=by kernel_rfl
structure SrInv (q:Qy) (sh:Bool) (s:Sr):Prop where
 sp0:0≤s.spent
 sp1:s.spent≤max 0 q.bu
 left:(s.left.length:Int)≤s.spent+1
 proof:(s.proof.length:Int)≤s.spent
 vp:(s.v.proof.length:Int)≤s.spent
 own:sh=false→s.v.proof=[]
 open_:s.v.kind=0→0 < s.left.length
 shut:sh=true→s.v.kind≠0
theorem ydg (l:List IV):(zhz l).length=l.length - 1:=by
 unfold zhz;rw [v0h];omega
theorem SrInv.step {m:Md} {q:Qy} {s:Sr} (h:SrInv q false s) (ho:zml q s=false) :
  SrInv q (z49 m q (z6w s.left)&&(ic (s.left.length - 1)==0)) (zfy m q s)∧(zfy m q s).spent=s.spent+1:=by
 unfold zml at ho;rw [v2v] at ho;have hk:s.v.kind=0:=by simpa using ho.1
 have hs:=v0t ho.2;have h1:=h.sp0;have h2:=h.left;have h3:=h.proof;have h4:=h.vp;have h5:=h.own rfl;have h6:=h.open_ hk;have hp:=ydg s.left;have h5':s.v.proof.length=0:=by rw [h5]; rfl
 unfold zfy;cases z49 m q (z6w s.left) with
 | true=>
  rw [z00];cases he:(ic (s.left.length - 1)==0) with
  | true=>
   refine ⟨⟨?_,?_,?_,?_,?_,fun h=>(by cases h),fun h=>(by cases h),fun _=>(show (1:Int)≠0 by decide)⟩,rfl⟩ <;> simp only [v2f,v0a,v2h] <;> omega
  | false=>
   have hne:s.left.length - 1≠0:=by simpa [ic] using he
   refine ⟨⟨?_,?_,?_,?_,?_,fun _=>h5,fun _=>?_,fun h=>(by cases h)⟩,rfl⟩ <;> simp only [v1n,v0a,v2h] <;> omega
 | false=>
  rw [z02,v0v];cases z5o m q (z6w s.left).low (z6w s.left).s4.hi with
  | true=>refine ⟨⟨?_,?_,?_,?_,?_,fun _=>rfl,fun h=>(by cases h),fun h=>(by cases h)⟩,rfl⟩ <;> simp only [v2f,v0o] <;> omega
  | false=>
   rw [z02];cases (z2p m q (z6w s.left)).isSome with
   | true=>refine ⟨⟨?_,?_,?_,?_,?_,fun _=>h5,fun _=>?_,fun h=>(by cases h)⟩,rfl⟩ <;> simp only [v2f,v0a,v05,v0o] <;> omega
   | false=>refine ⟨⟨?_,?_,?_,?_,?_,fun _=>rfl,fun h=>(by cases h),fun h=>(by cases h)⟩,rfl⟩ <;> simp only [v1n,v0o] <;> omega
theorem yia {m:Md} {q:Qy} {s:Sr} (hr:z3c m q=true) (h:SrInv q false s) (hk:s.v.kind=0):okS m q s=true:=by
 have hb:=(z91 hr).2.2.1;have h1:=h.sp0;have h2:=h.left;have h3:=h.proof;have h6:=h.open_ hk;have h7:=h.sp1;unfold okS;rw [hr,v01 h1,v1g (show s.left.length≤100000 by omega),v1g (show s.proof.length≤100000 by omega)]
 have:Nat.blt 0 s.left.length=true:=v1g h6
 rw [this]
 rfl
theorem ybn (N:Nat) (m:Md) (q:Qy) (hr:z3c m q=true) (K:Out→St→Res):∀ (d n:Nat) (sh:Bool) (s:Sr),SrInv q sh s→q.bu < s.spent+d→d < n →
  ∃ sh',SrInv q sh' (ygr m q d s)∧lpE (z5v N) (z0i z5z [1,1,0,0,0]) kpR n (zj0 m q sh s) K=K (.exit 0) (zj0 m q sh' (ygr m q d s))
 | d,0,sh,s,_,_,h=>absurd h (by omega)
 | 0,n+1,sh,s,hi,hd,_=>by
  have h1:=hi.sp1;have h2:=hi.sp0;have h3:=(z91 hr).2.2.1;omega
 | d+1,n+1,sh,s,hi,hd,hn=>by
  rw [ygr];cases ho:zml q s with
  | true=>
   rw [z00];refine ⟨sh,hi,?_⟩;cases sh with
   | false=>rw [z05,zmt,y0x (hi.own rfl),ho,z00]
   | true=>rw [z05,zx1,yac,ho,z00]
  | false=>
   rw [z02];cases sh with
   | true=>
    unfold zml at ho;rw [v2v] at ho
    have:=hi.shut rfl
    simp at ho;exact absurd ho.1 this
   | false=>
    obtain ⟨hi',hs'⟩:=hi.step (m:=m) ho;have hk:s.v.kind=0:=by
     unfold zml at ho;rw [v2v] at ho
     simpa using ho.1
    obtain ⟨sh',hi2,hrun⟩:=ybn N m q hr K d n _ (zfy m q s) hi' (by rw [hs']; omega) (by omega)
    refine ⟨sh',hi2,?_⟩;rw [← hrun,z05,zmt,y0x (hi.own rfl),ho,z02,yia hr hi hk,z00];cases z49 m q (z6w s.left) with
    | true=>
     rw [z00,v0r];cases (ic (s.left.length - 1)==0) <;> rfl
    | false=>
     rw [z02,v0v];cases z5o m q (z6w s.left).low (z6w s.left).s4.hi with
     | true=>rfl
     | false=>cases (z2p m q (z6w s.left)).isSome <;> rfl
theorem yfk {m:Md} {q:Qy} (hr:z3c m q=true):SrInv q false ⟨[(z9p q).I],[],Vd.none,0⟩:=
 ⟨v2s _,by have:=(z91 hr).2.2.1; show (0:Int)≤_; omega,by simp,by simp,by simp [Vd.none],fun _=>rfl,fun _=>by simp,fun h=>by cases h⟩
theorem zu7:z2u PR B0 35 zbm:=by
 refine z0f [(74,zbj),(75,z3w),(76,z32)] [(2,⟨[4,5],[4,8,500,501],[⟨.cell 8 23,500,36,true,za2⟩,⟨.cell 8 24,501,127,true,z2r⟩]⟩)] zbm [[.int .i64,.list true [.bool,.int .i64,.int .i64],.int .i64,.int .i64,.int .i64,.int .i64,.int .i64,.int .i64]] Tryz.func35 y24 ⟨zt0,zfx,zdl,trivial⟩ ?_;intro vs r hwf h;unfold zbm at h
 split at h
 ·rename_i m q
  replace h:=z3f h;obtain ⟨m,rfl,h⟩:=h;replace h:=z2z h;obtain ⟨q,rfl,h⟩:=h;rw [R.get_ok] at h;refine ⟨70000,?_⟩;rw [← h];refine (zwr 70000 m q).trans ?_;unfold ya2 yk9;cases hr:z3c m q with
  | true=>
   have hb:=(z91 hr).2.2.1;rw [z00,z00];obtain ⟨sh',hi,hrun⟩:=ybn 70000 m q hr (yi6 70000) (q.bu.toNat+1) 70000 false _ (yfk hr) (by show q.bu < 0+_; omega) (by omega)
   rw [hrun];generalize ygr m q (q.bu.toNat+1) _=s at hi ⊢
   cases sh' with
   | false=>rw [zuv,y0x (hi.own rfl)]
   | true=>
    have h1:=hi.vp;have h2:=hi.sp1;rw [zz9,yac,v1g (show s.v.proof.length≤100000 by omega),z00]
  | false=>
   rw [z02,z02];have e:zml q ⟨[],[],⟨4,[],0,0,0,0,0,0⟩,0⟩=true:=rfl;rw [z05,zmt,y0x rfl,e,z00,zuv,y0x rfl,ygr,e,z00]
 ·simp [R.get] at h
open Go
def yib:Md:=⟨1,1,3,0,0,[.agg [.int 0,.list [.int (zyb false 0 0 5 1 2),.int (zyb true 10 0 0 0 0),.int (zyb true 20 0 0 0 0)]]]⟩
def z5p:z0n
 | []=>.ok yib.V []
 | _=>.no
open Go
def zr5 (s:Sp):Bool:=decide (-2147483648≤s.lo)&&(decide (s.lo≤s.hi)&&decide (s.hi≤2147483647))
def z5k (b:Bx):Bool:=zr5 b.s0&&(zr5 b.s1&&(zr5 b.s2&&(zr5 b.s3&&zr5 b.s4)))
def zax:z0n
 | [.list false [.int .u64] l,b]=>zd0 b fun b=>.br (z8v l 4&&z5k b) (.ok (.tup [.int .i64 (tLo l b),.int .i64 (tHi l b)]) []) .no
 | _=>.no
def zbb:z0n
 | [m,.int .i64 k,b]=>zey m fun m=>zd0 b fun b=>.br (b.emp||z5k b) (.ok (.tup [.int .i64 (sLo m k b),.int .i64 (sHi m k b)]) []) .no
 | _=>.no
def z9a:z0n
 | [m,q,b]=>zey m fun m=>ze2 q fun q=>zd0 b fun b=>.br (z3c m q&&(b.emp||z5k b)) (.ok (.bool (z49 m q b)) []) .no
 | _=>.no
def zcs (x:IV):Bool:=cond (zc1 x) (z1k x==0&&zhv x==0) (decide (0≤z1k x)&&decide (z1k x≤4))
def z9q:z0n
 | [.agg [.bool s,.int .i64 p,.int .i64 a]]=>.ok (.bool (zcs (stI s p a))) []
 | _=>.no
def zqt (st:Int × Int) (x:IV):Option (Int × Int):=
 cond (st.1==0||!(zcs x)) none (cond (zc1 x) (some (st.1 - 1,st.2)) (some (st.1+1,max st.2 (st.1+1))))
def yd9:List IV→Int × Int→Option (Int × Int)
 | [],st=>some st
 | x :: r,st=>match zqt st x with
  | some st'=>yd9 r st'
  | none=>none
def zmi (l:List IV):Int:=cond (decide (ic l.length > 65536)) 0 (match yd9 l (1,1) with
 | some st=>cond (!(st.1==0)||decide (st.2 > 200)) 0 st.2
 | none=>0)
def zb9:z0n
 | [.list true [.bool,.int .i64,.int .i64] l]=>.ok (.int .i64 (zmi l)) []
 | _=>.no
def z9y:z0n
 | [.list true [.bool,.int .i64,.int .i64] l]=>.ok (.bool (decide (zmi l > 0))) []
 | _=>.no
def zs3 (st:List IV × List IV) (x:IV):Option (List IV × List IV):=
 cond (zc1 x) (some (zhz st.1,st.2++[(z6w st.1).I]))
  (cond (decide (zhv x < ((z6w st.1).g (z1k x).toNat).lo)||decide (zhv x≥((z6w st.1).g (z1k x).toNat).hi)) none
   (some (zhz st.1++[((z6w st.1).cutH (z1k x) (zhv x)).I,((z6w st.1).cutL (z1k x) (zhv x)).I],st.2)))
def y6g:List IV→List IV × List IV→Option (List IV × List IV)
 | [],st=>some st
 | x :: r,st=>match zs3 st x with
  | some st'=>y6g r st'
  | none=>none
def psF (b:Bx) (l:List IV):Option (List IV):=cond (decide (zmi l > 0)) ((y6g l ([b.I],[])).map (·.2)) none
def zaw:z0n
 | [b,.list true [.bool,.int .i64,.int .i64] l]=>zd0 b fun b=>.br (psF b l).isSome (.ok (.tup [.list true za2 ((psF b l).getD []),.bool true]) []) (.ok (.tup [.list true za2 [],.bool false]) [])
 | _=>.no
def Vd.p (v:Vd):Pt:=⟨v.w0,v.w1,v.w2,v.w3⟩
def zsu (m:Md) (q:Qy) (v:Vd):Bool:=
 z3c m q&&cond (v.kind==1) (match psF (z9p q) v.proof with
   | some l=>l.all fun x=>z49 m q (bxI x)
   | none=>false)
  (cond (v.kind==2) ((z9p q).has v.p v.twin&&z5o m q v.p v.twin) false)
def z88:z0n
 | [m,q,v]=>zey m fun m=>ze2 q fun q=>yie v fun v=>.ok (.bool (zsu m q v)) []
 | _=>.no
open Go Go.Proofs
def zx9 (N:Nat):Env:=mkE [] [] 16 N
theorem zto (N:Nat) (u01:Bool) (u00 s_At:Int):z0y (zx9 N) zkx [.tmp 2] [[.bool]] [(.agg [(.bool u01),(.i u00),(.i s_At)])]=(cond u01 (some ((.bool (u01==true&&(u00==0&&(s_At==0&&true)))),[])) (cond (decide (u00≥0)) (some ((.bool (decide (u00≤4))),[])) (some ((.bool false),[])))):=by kernel_rfl
def zza (N:Nat):Env:=mkE [(156,zb9)] [] 6 N
theorem zur (N:Nat) (l:List IV):z0y (zza N) zlp [.tmp 2] [[.bool]] [(.list true [.bool,.int .i64,.int .i64] l)]=(some ((.bool (decide (zmi l > 0))),[])):=by kernel_rfl
def yce (N:Nat):Env:=mkE [(114,zac)] [(2,⟨[2,3,6,9,10],[3],[]⟩)] 25 N
open Go Go.Proofs
def z4d (N:Nat):Env:=mkE [(192,z9q)] [(5,⟨[2,3,4,10,11,12],[],[]⟩)] 40 N
abbrev z3m (x2 x3 x4:Int) (l10:List IV) (x11 x12:Int):St:=⟨[(2,(.i x2)),(3,(.i x3)),(4,(.i x4)),(10,(.list true z2r l10)),(11,(.i x11)),(12,(.i x12))],[]⟩
theorem zze (N:Nat) (l:List IV):z0y (z4d N) z5w [.tmp 2] [[.int .i64]] [(.list true [.bool,.int .i64,.int .i64] l)]=(cond (decide (ic (List.length l) > 65536)) (some ((.i 0),[])) (lpE (z4d N) (z0i z5w [1,1,1,0,1,0,0]) ⟨[2,3,4,10,11,12],[],[]⟩ N (z3m 0 1 1 l (ic (List.length l)) 0) (z06 0 (kSq (z4d N) (z0i z5w [1,1,1,1]) (z2v (z4d N) none [(ResultVar.tmp 2)] [[(.int .i64)]]))))):=by kernel_rfl
theorem zgz (N:Nat) (x2 x3 x4:Int) (l10:List IV) (x11 x12:Int) (again:St→Res) (k:Out→St→Res):rnd (z4d N) (z0i z5w [1,1,1,0,1,0,0]) (z3m x2 x3 x4 l10 x11 x12) (z3v again ⟨[2,3,4,10,11,12],[],[]⟩ k)=(cond (decide (x12 < x11)) (cond (decide (0≤x12)&&decide (x12 < ic (List.length l10))) (cond (x3==0) (k .ret (z3m 0 x3 x4 l10 x11 x12)) (cond (!zcs (stI (IV.toBool (IV.cell (List.getD l10 (Int.toNat x12) default) 0)) (IV.toInt (IV.cell (List.getD l10 (Int.toNat x12) default) 1)) (IV.toInt (IV.cell (List.getD l10 (Int.toNat x12) default) 2)))) (k .ret (z3m 0 x3 x4 l10 x11 x12)) (cond (IV.toBool (IV.cell (List.getD l10 (Int.toNat x12) default) 0)) (again (z3m x2 (IntKind.wrap IntKind.i64 (x3 - 1)) x4 l10 x11 (IntKind.wrap IntKind.i64 (x12+1)))) (again (z3m x2 (IntKind.wrap IntKind.i64 (x3+1)) (max x4 (IntKind.wrap IntKind.i64 (x3+1))) l10 x11 (IntKind.wrap IntKind.i64 (x12+1))))))) none) (k (.exit 0) (z3m x2 x3 x4 l10 x11 x12))):=by kernel_rfl
theorem zn0 (N:Nat) (x2 x3 x4:Int) (l10:List IV) (x11 x12:Int):(z06 0 (kSq (z4d N) (z0i z5w [1,1,1,1]) (z2v (z4d N) none [(ResultVar.tmp 2)] [[(.int .i64)]]))) (.exit 0) (z3m x2 x3 x4 l10 x11 x12)=(cond (x3 != 0) (some ((.i 0),[])) (cond (decide (x4 > 200)) (some ((.i 0),[])) (some ((.i x4),[])))):=by kernel_rfl
theorem zmp (N:Nat) (x2 x3 x4:Int) (l10:List IV) (x11 x12:Int):(z06 0 (kSq (z4d N) (z0i z5w [1,1,1,1]) (z2v (z4d N) none [(ResultVar.tmp 2)] [[(.int .i64)]]))) .ret (z3m x2 x3 x4 l10 x11 x12)=(some ((.i x2),[])):=by kernel_rfl
def z0c (N:Nat):Env:=mkE [(112,z29),(158,zax),(53,z1u)] [(5,⟨[1,5,6,7,8,9,40,41,42],[5],[]⟩)] 66 N
abbrev z1q (a2:Bx) (x1 x6 x7 x8 x9:Int) (l40:List IV) (x41 x42:Int):St:=⟨[(1,(.i x1)),(5,(.ptr 5 0 0)),(6,(.i x6)),(7,(.i x7)),(8,(.i x8)),(9,(.i x9)),(40,(.list true zji l40)),(41,(.i x41)),(42,(.i x42))],[(5,(some (.box (Bx.cs a2))))]⟩
theorem zzc (N:Nat) (m:Md) (a1:Int) (a2:Bx):z0y (z0c N) z0x [.tmp 6,.tmp 7] [[.int .i64],[.int .i64]] [(Md.V m),(.i a1),(Bx.V a2)]=(cond (!z26 m) (some ((.tup [(.i 0),(.i 0)]),[])) (cond (decide (a1 < 0)) (some ((.tup [(.i 0),(.i 0)]),[])) (cond (decide (a1≥Md.c m)) (some ((.tup [(.i 0),(.i 0)]),[])) (cond (Bx.emp a2) (some ((.tup [(.i 0),(.i 0)]),[])) (cond (decide (a1=ic 0)) (cond (decide (a1=ic 0)) (lpE (z0c N) (z0i z0x [1,1,1,0,1,0,0]) ⟨[1,5,6,7,8,9,40,41,42],[5],[]⟩ N (z1q a2 a1 0 0 (Md.b0 m) (Md.b0 m) (Md.ts m) (ic (List.length (Md.ts m))) 0) (z06 0 (kSq (z0c N) (z0i z0x [1,1,1,1]) (z2v (z0c N) none [(ResultVar.tmp 6),(ResultVar.tmp 7)] [[(.int .i64)],[(.int .i64)]])))) (cond (decide (a1=ic 1)) (lpE (z0c N) (z0i z0x [1,1,1,0,1,0,0]) ⟨[1,5,6,7,8,9,40,41,42],[5],[]⟩ N (z1q a2 a1 0 0 (Md.b0 m) (Md.b1 m) (Md.ts m) (ic (List.length (Md.ts m))) 0) (z06 0 (kSq (z0c N) (z0i z0x [1,1,1,1]) (z2v (z0c N) none [(ResultVar.tmp 6),(ResultVar.tmp 7)] [[(.int .i64)],[(.int .i64)]])))) (cond (decide (a1=ic 2)) (lpE (z0c N) (z0i z0x [1,1,1,0,1,0,0]) ⟨[1,5,6,7,8,9,40,41,42],[5],[]⟩ N (z1q a2 a1 0 0 (Md.b0 m) (Md.b2 m) (Md.ts m) (ic (List.length (Md.ts m))) 0) (z06 0 (kSq (z0c N) (z0i z0x [1,1,1,1]) (z2v (z0c N) none [(ResultVar.tmp 6),(ResultVar.tmp 7)] [[(.int .i64)],[(.int .i64)]])))) none))) (cond (decide (a1=ic 1)) (cond (decide (a1=ic 0)) (lpE (z0c N) (z0i z0x [1,1,1,0,1,0,0]) ⟨[1,5,6,7,8,9,40,41,42],[5],[]⟩ N (z1q a2 a1 0 0 (Md.b1 m) (Md.b0 m) (Md.ts m) (ic (List.length (Md.ts m))) 0) (z06 0 (kSq (z0c N) (z0i z0x [1,1,1,1]) (z2v (z0c N) none [(ResultVar.tmp 6),(ResultVar.tmp 7)] [[(.int .i64)],[(.int .i64)]])))) (cond (decide (a1=ic 1)) (lpE (z0c N) (z0i z0x [1,1,1,0,1,0,0]) ⟨[1,5,6,7,8,9,40,41,42],[5],[]⟩ N (z1q a2 a1 0 0 (Md.b1 m) (Md.b1 m) (Md.ts m) (ic (List.length (Md.ts m))) 0) (z06 0 (kSq (z0c N) (z0i z0x [1,1,1,1]) (z2v (z0c N) none [(ResultVar.tmp 6),(ResultVar.tmp 7)] [[(.int .i64)],[(.int .i64)]])))) (cond (decide (a1=ic 2)) (lpE (z0c N) (z0i z0x [1,1,1,0,1,0,0]) ⟨[1,5,6,7,8,9,40,41,42],[5],[]⟩ N (z1q a2 a1 0 0 (Md.b1 m) (Md.b2 m) (Md.ts m) (ic (List.length (Md.ts m))) 0) (z06 0 (kSq (z0c N) (z0i z0x [1,1,1,1]) (z2v (z0c N) none [(ResultVar.tmp 6),(ResultVar.tmp 7)] [[(.int .i64)],[(.int .i64)]])))) none))) (cond (decide (a1=ic 2)) (cond (decide (a1=ic 0)) (lpE (z0c N) (z0i z0x [1,1,1,0,1,0,0]) ⟨[1,5,6,7,8,9,40,41,42],[5],[]⟩ N (z1q a2 a1 0 0 (Md.b2 m) (Md.b0 m) (Md.ts m) (ic (List.length (Md.ts m))) 0) (z06 0 (kSq (z0c N) (z0i z0x [1,1,1,1]) (z2v (z0c N) none [(ResultVar.tmp 6),(ResultVar.tmp 7)] [[(.int .i64)],[(.int .i64)]])))) (cond (decide (a1=ic 1)) (lpE (z0c N) (z0i z0x [1,1,1,0,1,0,0]) ⟨[1,5,6,7,8,9,40,41,42],[5],[]⟩ N (z1q a2 a1 0 0 (Md.b2 m) (Md.b1 m) (Md.ts m) (ic (List.length (Md.ts m))) 0) (z06 0 (kSq (z0c N) (z0i z0x [1,1,1,1]) (z2v (z0c N) none [(ResultVar.tmp 6),(ResultVar.tmp 7)] [[(.int .i64)],[(.int .i64)]])))) (cond (decide (a1=ic 2)) (lpE (z0c N) (z0i z0x [1,1,1,0,1,0,0]) ⟨[1,5,6,7,8,9,40,41,42],[5],[]⟩ N (z1q a2 a1 0 0 (Md.b2 m) (Md.b2 m) (Md.ts m) (ic (List.length (Md.ts m))) 0) (z06 0 (kSq (z0c N) (z0i z0x [1,1,1,1]) (z2v (z0c N) none [(ResultVar.tmp 6),(ResultVar.tmp 7)] [[(.int .i64)],[(.int .i64)]])))) none))) none))))))):=by kernel_rfl
theorem zha (N:Nat) (a2:Bx) (x1 x6 x7 x8 x9:Int) (l40:List IV) (x41 x42:Int) (again:St→Res) (k:Out→St→Res):rnd (z0c N) (z0i z0x [1,1,1,0,1,0,0]) (z1q a2 x1 x6 x7 x8 x9 l40 x41 x42) (z3v again ⟨[1,5,6,7,8,9,40,41,42],[5],[]⟩ k)=(cond (decide (x42 < x41)) (cond (decide (0≤x42)&&decide (x42 < ic (List.length l40))) (cond (IV.toInt (IV.cell (List.getD l40 (Int.toNat x42) default) 0)==x1) (cond (z8v (IV.toList (IV.cell (List.getD l40 (Int.toNat x42) default) 1)) 4&&z5k a2) (again (z1q a2 x1 x6 x7 (IntKind.wrap IntKind.i64 (x8+tLo (IV.toList (IV.cell (List.getD l40 (Int.toNat x42) default) 1)) a2)) (IntKind.wrap IntKind.i64 (x9+tHi (IV.toList (IV.cell (List.getD l40 (Int.toNat x42) default) 1)) a2)) l40 x41 (IntKind.wrap IntKind.i64 (x42+1)))) none) (again (z1q a2 x1 x6 x7 x8 x9 l40 x41 (IntKind.wrap IntKind.i64 (x42+1))))) none) (k (.exit 0) (z1q a2 x1 x6 x7 x8 x9 l40 x41 x42))):=by kernel_rfl
theorem zmo (N:Nat) (a2:Bx) (x1 x6 x7 x8 x9:Int) (l40:List IV) (x41 x42:Int):(z06 0 (kSq (z0c N) (z0i z0x [1,1,1,1]) (z2v (z0c N) none [(ResultVar.tmp 6),(ResultVar.tmp 7)] [[(.int .i64)],[(.int .i64)]]))) (.exit 0) (z1q a2 x1 x6 x7 x8 x9 l40 x41 x42)=(some ((.tup [(.i x8),(.i x9)]),[])):=by kernel_rfl
def z1n (N:Nat):Env:=mkE [(112,z29),(113,zbb)] [(9,⟨[3,4,5,6,7,42,43],[3,4,5],[]⟩)] 94 N
abbrev z3s (m:Md) (a1:Qy) (a2:Bx) (b6:Bool) (x7 x42 x43:Int):St:=⟨[(3,(.ptr 3 0 0)),(4,(.ptr 4 0 0)),(5,(.ptr 5 0 0)),(6,(.bool b6)),(7,(.i x7)),(42,(.i x42)),(43,(.i x43))],[(3,(some (.box (Md.cs m)))),(4,(some (.box (Qy.cs a1)))),(5,(some (.box (Bx.cs a2))))]⟩
theorem ztd (N:Nat) (m:Md) (a1:Qy) (a2:Bx):z0y (z1n N) z2d [.tmp 6] [[.bool]] [(Md.V m),(Qy.V a1),(Bx.V a2)]=(cond (Bx.emp a2) (some ((.bool true),[])) (cond (Bx.emp a2||z5k a2) (cond (Qy.k a1==1) (cond (decide (Qy.lo a1≤sLo m (Qy.c a1) a2)) (some ((.bool (decide (sHi m (Qy.c a1) a2≤Qy.hi a1))),[])) (some ((.bool false),[]))) (cond (Qy.k a1==2) (lpE (z1n N) (z0i z2d [1,1,1,0,1,0,1,1,1,0,0,1,0,0]) ⟨[3,4,5,6,7,42,43],[3,4,5],[]⟩ N (z3s m a1 a2 false (sLo m (Qy.c a1) a2) (Md.c m) 0) (z06 1 (kSq (z1n N) (z0i z2d [1,1,1,0,1,0,1,1,1,0,1]) (z06 0 (kSq (z1n N) (z0i z2d [1,1,1,1]) (z2v (z1n N) none [(ResultVar.tmp 6)] [[.bool]])))))) (cond (decide (Qy.ft a1=ic 0)) (cond (decide (Sp.lo (Bx.s0 a2)≥Sp.hi (Bx.s4 a2))) (some ((.bool true),[])) (cond (decide (Qy.ft a1=ic 0)) (cond (Bx.emp {s0:=(Bx.s4 a2),s1:=(Bx.s1 a2),s2:=(Bx.s2 a2),s3:=(Bx.s3 a2),s4:=(Bx.s4 a2)}||z5k {s0:=(Bx.s4 a2),s1:=(Bx.s1 a2),s2:=(Bx.s2 a2),s3:=(Bx.s3 a2),s4:=(Bx.s4 a2)}) (cond (Qy.fl a1) (some ((.bool (decide (sHi m (Qy.c a1) {s0:=(Bx.s4 a2),s1:=(Bx.s1 a2),s2:=(Bx.s2 a2),s3:=(Bx.s3 a2),s4:=(Bx.s4 a2)}≤sLo m (Qy.c a1) a2))),[])) (some ((.bool (decide (sLo m (Qy.c a1) {s0:=(Bx.s4 a2),s1:=(Bx.s1 a2),s2:=(Bx.s2 a2),s3:=(Bx.s3 a2),s4:=(Bx.s4 a2)}≥sHi m (Qy.c a1) a2))),[]))) none) (cond (decide (Qy.ft a1=ic 1)) (cond (Bx.emp {s0:=(Bx.s0 a2),s1:=(Bx.s4 a2),s2:=(Bx.s2 a2),s3:=(Bx.s3 a2),s4:=(Bx.s4 a2)}||z5k {s0:=(Bx.s0 a2),s1:=(Bx.s4 a2),s2:=(Bx.s2 a2),s3:=(Bx.s3 a2),s4:=(Bx.s4 a2)}) (cond (Qy.fl a1) (some ((.bool (decide (sHi m (Qy.c a1) {s0:=(Bx.s0 a2),s1:=(Bx.s4 a2),s2:=(Bx.s2 a2),s3:=(Bx.s3 a2),s4:=(Bx.s4 a2)}≤sLo m (Qy.c a1) a2))),[])) (some ((.bool (decide (sLo m (Qy.c a1) {s0:=(Bx.s0 a2),s1:=(Bx.s4 a2),s2:=(Bx.s2 a2),s3:=(Bx.s3 a2),s4:=(Bx.s4 a2)}≥sHi m (Qy.c a1) a2))),[]))) none) (cond (decide (Qy.ft a1=ic 2)) (cond (Bx.emp {s0:=(Bx.s0 a2),s1:=(Bx.s1 a2),s2:=(Bx.s4 a2),s3:=(Bx.s3 a2),s4:=(Bx.s4 a2)}||z5k {s0:=(Bx.s0 a2),s1:=(Bx.s1 a2),s2:=(Bx.s4 a2),s3:=(Bx.s3 a2),s4:=(Bx.s4 a2)}) (cond (Qy.fl a1) (some ((.bool (decide (sHi m (Qy.c a1) {s0:=(Bx.s0 a2),s1:=(Bx.s1 a2),s2:=(Bx.s4 a2),s3:=(Bx.s3 a2),s4:=(Bx.s4 a2)}≤sLo m (Qy.c a1) a2))),[])) (some ((.bool (decide (sLo m (Qy.c a1) {s0:=(Bx.s0 a2),s1:=(Bx.s1 a2),s2:=(Bx.s4 a2),s3:=(Bx.s3 a2),s4:=(Bx.s4 a2)}≥sHi m (Qy.c a1) a2))),[]))) none) (cond (decide (Qy.ft a1=ic 3)) (cond (Bx.emp {s0:=(Bx.s0 a2),s1:=(Bx.s1 a2),s2:=(Bx.s2 a2),s3:=(Bx.s4 a2),s4:=(Bx.s4 a2)}||z5k {s0:=(Bx.s0 a2),s1:=(Bx.s1 a2),s2:=(Bx.s2 a2),s3:=(Bx.s4 a2),s4:=(Bx.s4 a2)}) (cond (Qy.fl a1) (some ((.bool (decide (sHi m (Qy.c a1) {s0:=(Bx.s0 a2),s1:=(Bx.s1 a2),s2:=(Bx.s2 a2),s3:=(Bx.s4 a2),s4:=(Bx.s4 a2)}≤sLo m (Qy.c a1) a2))),[])) (some ((.bool (decide (sLo m (Qy.c a1) {s0:=(Bx.s0 a2),s1:=(Bx.s1 a2),s2:=(Bx.s2 a2),s3:=(Bx.s4 a2),s4:=(Bx.s4 a2)}≥sHi m (Qy.c a1) a2))),[]))) none) (cond (decide (Qy.ft a1=ic 4)) (cond (Bx.emp a2||z5k a2) (cond (Qy.fl a1) (some ((.bool (decide (sHi m (Qy.c a1) a2≤sLo m (Qy.c a1) a2))),[])) (some ((.bool (decide (sLo m (Qy.c a1) a2≥sHi m (Qy.c a1) a2))),[]))) none) none)))))) (cond (decide (Qy.ft a1=ic 1)) (cond (decide (Sp.lo (Bx.s1 a2)≥Sp.hi (Bx.s4 a2))) (some ((.bool true),[])) (cond (decide (Qy.ft a1=ic 0)) (cond (Bx.emp {s0:=(Bx.s4 a2),s1:=(Bx.s1 a2),s2:=(Bx.s2 a2),s3:=(Bx.s3 a2),s4:=(Bx.s4 a2)}||z5k {s0:=(Bx.s4 a2),s1:=(Bx.s1 a2),s2:=(Bx.s2 a2),s3:=(Bx.s3 a2),s4:=(Bx.s4 a2)}) (cond (Qy.fl a1) (some ((.bool (decide (sHi m (Qy.c a1) {s0:=(Bx.s4 a2),s1:=(Bx.s1 a2),s2:=(Bx.s2 a2),s3:=(Bx.s3 a2),s4:=(Bx.s4 a2)}≤sLo m (Qy.c a1) a2))),[])) (some ((.bool (decide (sLo m (Qy.c a1) {s0:=(Bx.s4 a2),s1:=(Bx.s1 a2),s2:=(Bx.s2 a2),s3:=(Bx.s3 a2),s4:=(Bx.s4 a2)}≥sHi m (Qy.c a1) a2))),[]))) none) (cond (decide (Qy.ft a1=ic 1)) (cond (Bx.emp {s0:=(Bx.s0 a2),s1:=(Bx.s4 a2),s2:=(Bx.s2 a2),s3:=(Bx.s3 a2),s4:=(Bx.s4 a2)}||z5k {s0:=(Bx.s0 a2),s1:=(Bx.s4 a2),s2:=(Bx.s2 a2),s3:=(Bx.s3 a2),s4:=(Bx.s4 a2)}) (cond (Qy.fl a1) (some ((.bool (decide (sHi m (Qy.c a1) {s0:=(Bx.s0 a2),s1:=(Bx.s4 a2),s2:=(Bx.s2 a2),s3:=(Bx.s3 a2),s4:=(Bx.s4 a2)}≤sLo m (Qy.c a1) a2))),[])) (some ((.bool (decide (sLo m (Qy.c a1) {s0:=(Bx.s0 a2),s1:=(Bx.s4 a2),s2:=(Bx.s2 a2),s3:=(Bx.s3 a2),s4:=(Bx.s4 a2)}≥sHi m (Qy.c a1) a2))),[]))) none) (cond (decide (Qy.ft a1=ic 2)) (cond (Bx.emp {s0:=(Bx.s0 a2),s1:=(Bx.s1 a2),s2:=(Bx.s4 a2),s3:=(Bx.s3 a2),s4:=(Bx.s4 a2)}||z5k {s0:=(Bx.s0 a2),s1:=(Bx.s1 a2),s2:=(Bx.s4 a2),s3:=(Bx.s3 a2),s4:=(Bx.s4 a2)}) (cond (Qy.fl a1) (some ((.bool (decide (sHi m (Qy.c a1) {s0:=(Bx.s0 a2),s1:=(Bx.s1 a2),s2:=(Bx.s4 a2),s3:=(Bx.s3 a2),s4:=(Bx.s4 a2)}≤sLo m (Qy.c a1) a2))),[])) (some ((.bool (decide (sLo m (Qy.c a1) {s0:=(Bx.s0 a2),s1:=(Bx.s1 a2),s2:=(Bx.s4 a2),s3:=(Bx.s3 a2),s4:=(Bx.s4 a2)}≥sHi m (Qy.c a1) a2))),[]))) none) (cond (decide (Qy.ft a1=ic 3)) (cond (Bx.emp {s0:=(Bx.s0 a2),s1:=(Bx.s1 a2),s2:=(Bx.s2 a2),s3:=(Bx.s4 a2),s4:=(Bx.s4 a2)}||z5k {s0:=(Bx.s0 a2),s1:=(Bx.s1 a2),s2:=(Bx.s2 a2),s3:=(Bx.s4 a2),s4:=(Bx.s4 a2)}) (cond (Qy.fl a1) (some ((.bool (decide (sHi m (Qy.c a1) {s0:=(Bx.s0 a2),s1:=(Bx.s1 a2),s2:=(Bx.s2 a2),s3:=(Bx.s4 a2),s4:=(Bx.s4 a2)}≤sLo m (Qy.c a1) a2))),[])) (some ((.bool (decide (sLo m (Qy.c a1) {s0:=(Bx.s0 a2),s1:=(Bx.s1 a2),s2:=(Bx.s2 a2),s3:=(Bx.s4 a2),s4:=(Bx.s4 a2)}≥sHi m (Qy.c a1) a2))),[]))) none) (cond (decide (Qy.ft a1=ic 4)) (cond (Bx.emp a2||z5k a2) (cond (Qy.fl a1) (some ((.bool (decide (sHi m (Qy.c a1) a2≤sLo m (Qy.c a1) a2))),[])) (some ((.bool (decide (sLo m (Qy.c a1) a2≥sHi m (Qy.c a1) a2))),[]))) none) none)))))) (cond (decide (Qy.ft a1=ic 2)) (cond (decide (Sp.lo (Bx.s2 a2)≥Sp.hi (Bx.s4 a2))) (some ((.bool true),[])) (cond (decide (Qy.ft a1=ic 0)) (cond (Bx.emp {s0:=(Bx.s4 a2),s1:=(Bx.s1 a2),s2:=(Bx.s2 a2),s3:=(Bx.s3 a2),s4:=(Bx.s4 a2)}||z5k {s0:=(Bx.s4 a2),s1:=(Bx.s1 a2),s2:=(Bx.s2 a2),s3:=(Bx.s3 a2),s4:=(Bx.s4 a2)}) (cond (Qy.fl a1) (some ((.bool (decide (sHi m (Qy.c a1) {s0:=(Bx.s4 a2),s1:=(Bx.s1 a2),s2:=(Bx.s2 a2),s3:=(Bx.s3 a2),s4:=(Bx.s4 a2)}≤sLo m (Qy.c a1) a2))),[])) (some ((.bool (decide (sLo m (Qy.c a1) {s0:=(Bx.s4 a2),s1:=(Bx.s1 a2),s2:=(Bx.s2 a2),s3:=(Bx.s3 a2),s4:=(Bx.s4 a2)}≥sHi m (Qy.c a1) a2))),[]))) none) (cond (decide (Qy.ft a1=ic 1)) (cond (Bx.emp {s0:=(Bx.s0 a2),s1:=(Bx.s4 a2),s2:=(Bx.s2 a2),s3:=(Bx.s3 a2),s4:=(Bx.s4 a2)}||z5k {s0:=(Bx.s0 a2),s1:=(Bx.s4 a2),s2:=(Bx.s2 a2),s3:=(Bx.s3 a2),s4:=(Bx.s4 a2)}) (cond (Qy.fl a1) (some ((.bool (decide (sHi m (Qy.c a1) {s0:=(Bx.s0 a2),s1:=(Bx.s4 a2),s2:=(Bx.s2 a2),s3:=(Bx.s3 a2),s4:=(Bx.s4 a2)}≤sLo m (Qy.c a1) a2))),[])) (some ((.bool (decide (sLo m (Qy.c a1) {s0:=(Bx.s0 a2),s1:=(Bx.s4 a2),s2:=(Bx.s2 a2),s3:=(Bx.s3 a2),s4:=(Bx.s4 a2)}≥sHi m (Qy.c a1) a2))),[]))) none) (cond (decide (Qy.ft a1=ic 2)) (cond (Bx.emp {s0:=(Bx.s0 a2),s1:=(Bx.s1 a2),s2:=(Bx.s4 a2),s3:=(Bx.s3 a2),s4:=(Bx.s4 a2)}||z5k {s0:=(Bx.s0 a2),s1:=(Bx.s1 a2),s2:=(Bx.s4 a2),s3:=(Bx.s3 a2),s4:=(Bx.s4 a2)}) (cond (Qy.fl a1) (some ((.bool (decide (sHi m (Qy.c a1) {s0:=(Bx.s0 a2),s1:=(Bx.s1 a2),s2:=(Bx.s4 a2),s3:=(Bx.s3 a2),s4:=(Bx.s4 a2)}≤sLo m (Qy.c a1) a2))),[])) (some ((.bool (decide (sLo m (Qy.c a1) {s0:=(Bx.s0 a2),s1:=(Bx.s1 a2),s2:=(Bx.s4 a2),s3:=(Bx.s3 a2),s4:=(Bx.s4 a2)}≥sHi m (Qy.c a1) a2))),[]))) none) (cond (decide (Qy.ft a1=ic 3)) (cond (Bx.emp {s0:=(Bx.s0 a2),s1:=(Bx.s1 a2),s2:=(Bx.s2 a2),s3:=(Bx.s4 a2),s4:=(Bx.s4 a2)}||z5k {s0:=(Bx.s0 a2),s1:=(Bx.s1 a2),s2:=(Bx.s2 a2),s3:=(Bx.s4 a2),s4:=(Bx.s4 a2)}) (cond (Qy.fl a1) (some ((.bool (decide (sHi m (Qy.c a1) {s0:=(Bx.s0 a2),s1:=(Bx.s1 a2),s2:=(Bx.s2 a2),s3:=(Bx.s4 a2),s4:=(Bx.s4 a2)}≤sLo m (Qy.c a1) a2))),[])) (some ((.bool (decide (sLo m (Qy.c a1) {s0:=(Bx.s0 a2),s1:=(Bx.s1 a2),s2:=(Bx.s2 a2),s3:=(Bx.s4 a2),s4:=(Bx.s4 a2)}≥sHi m (Qy.c a1) a2))),[]))) none) (cond (decide (Qy.ft a1=ic 4)) (cond (Bx.emp a2||z5k a2) (cond (Qy.fl a1) (some ((.bool (decide (sHi m (Qy.c a1) a2≤sLo m (Qy.c a1) a2))),[])) (some ((.bool (decide (sLo m (Qy.c a1) a2≥sHi m (Qy.c a1) a2))),[]))) none) none)))))) (cond (decide (Qy.ft a1=ic 3)) (cond (decide (Sp.lo (Bx.s3 a2)≥Sp.hi (Bx.s4 a2))) (some ((.bool true),[])) (cond (decide (Qy.ft a1=ic 0)) (cond (Bx.emp {s0:=(Bx.s4 a2),s1:=(Bx.s1 a2),s2:=(Bx.s2 a2),s3:=(Bx.s3 a2),s4:=(Bx.s4 a2)}||z5k {s0:=(Bx.s4 a2),s1:=(Bx.s1 a2),s2:=(Bx.s2 a2),s3:=(Bx.s3 a2),s4:=(Bx.s4 a2)}) (cond (Qy.fl a1) (some ((.bool (decide (sHi m (Qy.c a1) {s0:=(Bx.s4 a2),s1:=(Bx.s1 a2),s2:=(Bx.s2 a2),s3:=(Bx.s3 a2),s4:=(Bx.s4 a2)}≤sLo m (Qy.c a1) a2))),[])) (some ((.bool (decide (sLo m (Qy.c a1) {s0:=(Bx.s4 a2),s1:=(Bx.s1 a2),s2:=(Bx.s2 a2),s3:=(Bx.s3 a2),s4:=(Bx.s4 a2)}≥sHi m (Qy.c a1) a2))),[]))) none) (cond (decide (Qy.ft a1=ic 1)) (cond (Bx.emp {s0:=(Bx.s0 a2),s1:=(Bx.s4 a2),s2:=(Bx.s2 a2),s3:=(Bx.s3 a2),s4:=(Bx.s4 a2)}||z5k {s0:=(Bx.s0 a2),s1:=(Bx.s4 a2),s2:=(Bx.s2 a2),s3:=(Bx.s3 a2),s4:=(Bx.s4 a2)}) (cond (Qy.fl a1) (some ((.bool (decide (sHi m (Qy.c a1) {s0:=(Bx.s0 a2),s1:=(Bx.s4 a2),s2:=(Bx.s2 a2),s3:=(Bx.s3 a2),s4:=(Bx.s4 a2)}≤sLo m (Qy.c a1) a2))),[])) (some ((.bool (decide (sLo m (Qy.c a1) {s0:=(Bx.s0 a2),s1:=(Bx.s4 a2),s2:=(Bx.s2 a2),s3:=(Bx.s3 a2),s4:=(Bx.s4 a2)}≥sHi m (Qy.c a1) a2))),[]))) none) (cond (decide (Qy.ft a1=ic 2)) (cond (Bx.emp {s0:=(Bx.s0 a2),s1:=(Bx.s1 a2),s2:=(Bx.s4 a2),s3:=(Bx.s3 a2),s4:=(Bx.s4 a2)}||z5k {s0:=(Bx.s0 a2),s1:=(Bx.s1 a2),s2:=(Bx.s4 a2),s3:=(Bx.s3 a2),s4:=(Bx.s4 a2)}) (cond (Qy.fl a1) (some ((.bool (decide (sHi m (Qy.c a1) {s0:=(Bx.s0 a2),s1:=(Bx.s1 a2),s2:=(Bx.s4 a2),s3:=(Bx.s3 a2),s4:=(Bx.s4 a2)}≤sLo m (Qy.c a1) a2))),[])) (some ((.bool (decide (sLo m (Qy.c a1) {s0:=(Bx.s0 a2),s1:=(Bx.s1 a2),s2:=(Bx.s4 a2),s3:=(Bx.s3 a2),s4:=(Bx.s4 a2)}≥sHi m (Qy.c a1) a2))),[]))) none) (cond (decide (Qy.ft a1=ic 3)) (cond (Bx.emp {s0:=(Bx.s0 a2),s1:=(Bx.s1 a2),s2:=(Bx.s2 a2),s3:=(Bx.s4 a2),s4:=(Bx.s4 a2)}||z5k {s0:=(Bx.s0 a2),s1:=(Bx.s1 a2),s2:=(Bx.s2 a2),s3:=(Bx.s4 a2),s4:=(Bx.s4 a2)}) (cond (Qy.fl a1) (some ((.bool (decide (sHi m (Qy.c a1) {s0:=(Bx.s0 a2),s1:=(Bx.s1 a2),s2:=(Bx.s2 a2),s3:=(Bx.s4 a2),s4:=(Bx.s4 a2)}≤sLo m (Qy.c a1) a2))),[])) (some ((.bool (decide (sLo m (Qy.c a1) {s0:=(Bx.s0 a2),s1:=(Bx.s1 a2),s2:=(Bx.s2 a2),s3:=(Bx.s4 a2),s4:=(Bx.s4 a2)}≥sHi m (Qy.c a1) a2))),[]))) none) (cond (decide (Qy.ft a1=ic 4)) (cond (Bx.emp a2||z5k a2) (cond (Qy.fl a1) (some ((.bool (decide (sHi m (Qy.c a1) a2≤sLo m (Qy.c a1) a2))),[])) (some ((.bool (decide (sLo m (Qy.c a1) a2≥sHi m (Qy.c a1) a2))),[]))) none) none)))))) (cond (decide (Qy.ft a1=ic 4)) (cond (decide (Sp.lo (Bx.s4 a2)≥Sp.hi (Bx.s4 a2))) (some ((.bool true),[])) (cond (decide (Qy.ft a1=ic 0)) (cond (Bx.emp {s0:=(Bx.s4 a2),s1:=(Bx.s1 a2),s2:=(Bx.s2 a2),s3:=(Bx.s3 a2),s4:=(Bx.s4 a2)}||z5k {s0:=(Bx.s4 a2),s1:=(Bx.s1 a2),s2:=(Bx.s2 a2),s3:=(Bx.s3 a2),s4:=(Bx.s4 a2)}) (cond (Qy.fl a1) (some ((.bool (decide (sHi m (Qy.c a1) {s0:=(Bx.s4 a2),s1:=(Bx.s1 a2),s2:=(Bx.s2 a2),s3:=(Bx.s3 a2),s4:=(Bx.s4 a2)}≤sLo m (Qy.c a1) a2))),[])) (some ((.bool (decide (sLo m (Qy.c a1) {s0:=(Bx.s4 a2),s1:=(Bx.s1 a2),s2:=(Bx.s2 a2),s3:=(Bx.s3 a2),s4:=(Bx.s4 a2)}≥sHi m (Qy.c a1) a2))),[]))) none) (cond (decide (Qy.ft a1=ic 1)) (cond (Bx.emp {s0:=(Bx.s0 a2),s1:=(Bx.s4 a2),s2:=(Bx.s2 a2),s3:=(Bx.s3 a2),s4:=(Bx.s4 a2)}||z5k {s0:=(Bx.s0 a2),s1:=(Bx.s4 a2),s2:=(Bx.s2 a2),s3:=(Bx.s3 a2),s4:=(Bx.s4 a2)}) (cond (Qy.fl a1) (some ((.bool (decide (sHi m (Qy.c a1) {s0:=(Bx.s0 a2),s1:=(Bx.s4 a2),s2:=(Bx.s2 a2),s3:=(Bx.s3 a2),s4:=(Bx.s4 a2)}≤sLo m (Qy.c a1) a2))),[])) (some ((.bool (decide (sLo m (Qy.c a1) {s0:=(Bx.s0 a2),s1:=(Bx.s4 a2),s2:=(Bx.s2 a2),s3:=(Bx.s3 a2),s4:=(Bx.s4 a2)}≥sHi m (Qy.c a1) a2))),[]))) none) (cond (decide (Qy.ft a1=ic 2)) (cond (Bx.emp {s0:=(Bx.s0 a2),s1:=(Bx.s1 a2),s2:=(Bx.s4 a2),s3:=(Bx.s3 a2),s4:=(Bx.s4 a2)}||z5k {s0:=(Bx.s0 a2),s1:=(Bx.s1 a2),s2:=(Bx.s4 a2),s3:=(Bx.s3 a2),s4:=(Bx.s4 a2)}) (cond (Qy.fl a1) (some ((.bool (decide (sHi m (Qy.c a1) {s0:=(Bx.s0 a2),s1:=(Bx.s1 a2),s2:=(Bx.s4 a2),s3:=(Bx.s3 a2),s4:=(Bx.s4 a2)}≤sLo m (Qy.c a1) a2))),[])) (some ((.bool (decide (sLo m (Qy.c a1) {s0:=(Bx.s0 a2),s1:=(Bx.s1 a2),s2:=(Bx.s4 a2),s3:=(Bx.s3 a2),s4:=(Bx.s4 a2)}≥sHi m (Qy.c a1) a2))),[]))) none) (cond (decide (Qy.ft a1=ic 3)) (cond (Bx.emp {s0:=(Bx.s0 a2),s1:=(Bx.s1 a2),s2:=(Bx.s2 a2),s3:=(Bx.s4 a2),s4:=(Bx.s4 a2)}||z5k {s0:=(Bx.s0 a2),s1:=(Bx.s1 a2),s2:=(Bx.s2 a2),s3:=(Bx.s4 a2),s4:=(Bx.s4 a2)}) (cond (Qy.fl a1) (some ((.bool (decide (sHi m (Qy.c a1) {s0:=(Bx.s0 a2),s1:=(Bx.s1 a2),s2:=(Bx.s2 a2),s3:=(Bx.s4 a2),s4:=(Bx.s4 a2)}≤sLo m (Qy.c a1) a2))),[])) (some ((.bool (decide (sLo m (Qy.c a1) {s0:=(Bx.s0 a2),s1:=(Bx.s1 a2),s2:=(Bx.s2 a2),s3:=(Bx.s4 a2),s4:=(Bx.s4 a2)}≥sHi m (Qy.c a1) a2))),[]))) none) (cond (decide (Qy.ft a1=ic 4)) (cond (Bx.emp a2||z5k a2) (cond (Qy.fl a1) (some ((.bool (decide (sHi m (Qy.c a1) a2≤sLo m (Qy.c a1) a2))),[])) (some ((.bool (decide (sLo m (Qy.c a1) a2≥sHi m (Qy.c a1) a2))),[]))) none) none)))))) none))))))) none)):=by kernel_rfl
theorem zfo (N:Nat) (m:Md) (a1:Qy) (a2:Bx) (b6:Bool) (x7 x42 x43:Int) (again:St→Res) (k:Out→St→Res):rnd (z1n N) (z0i z2d [1,1,1,0,1,0,1,1,1,0,0,1,0,0]) (z3s m a1 a2 b6 x7 x42 x43) (z3v again ⟨[3,4,5,6,7,42,43],[3,4,5],[]⟩ k)=(cond (decide (x43 < x42)) (cond (Bx.emp a2||z5k a2) (cond (x43 != Qy.c a1) (cond (decide (sHi m x43 a2≥x7)) (k .ret (z3s m a1 a2 false x7 x42 x43)) (again (z3s m a1 a2 b6 x7 x42 (IntKind.wrap IntKind.i64 (x43+1))))) (again (z3s m a1 a2 b6 x7 x42 (IntKind.wrap IntKind.i64 (x43+1))))) none) (k (.exit 1) (z3s m a1 a2 b6 x7 x42 x43))):=by kernel_rfl
theorem zl7 (N:Nat) (m:Md) (a1:Qy) (a2:Bx) (b6:Bool) (x7 x42 x43:Int):(z06 1 (kSq (z1n N) (z0i z2d [1,1,1,0,1,0,1,1,1,0,1]) (z06 0 (kSq (z1n N) (z0i z2d [1,1,1,1]) (z2v (z1n N) none [(ResultVar.tmp 6)] [[.bool]]))))) (.exit 1) (z3s m a1 a2 b6 x7 x42 x43)=(some ((.bool true),[])):=by kernel_rfl
theorem zkn (N:Nat) (m:Md) (a1:Qy) (a2:Bx) (b6:Bool) (x7 x42 x43:Int):(z06 1 (kSq (z1n N) (z0i z2d [1,1,1,0,1,0,1,1,1,0,1]) (z06 0 (kSq (z1n N) (z0i z2d [1,1,1,1]) (z2v (z1n N) none [(ResultVar.tmp 6)] [[.bool]]))))) .ret (z3s m a1 a2 b6 x7 x42 x43)=(some ((.bool b6),[])):=by kernel_rfl
def z0w (N:Nat):Env:=mkE [(69,zg9),(68,z9a),(67,zaw),(70,z5b),(65,z2e),(66,z63)] [(8,⟨[3,4,6,9,29,30,31],[3,4],[]⟩)] 59 N
abbrev z38 (m:Md) (q:Qy) (b6 b9:Bool) (l29:List IV) (x30 x31:Int):St:=⟨[(3,(.ptr 3 0 0)),(4,(.ptr 4 0 0)),(6,(.bool b6)),(9,(.bool b9)),(29,(.list true za2 l29)),(30,(.i x30)),(31,(.i x31))],[(3,(some (.box (Md.cs m)))),(4,(some (.box (Qy.cs q))))]⟩
theorem zru (N:Nat) (m:Md) (q:Qy) (v:Vd):z0y (z0w N) z1e [.tmp 6] [[.bool]] [(Md.V m),(Qy.V q),(Vd.V v)]=(cond (!z3c m q) (some ((.bool false),[])) (cond (Vd.kind v==1) (cond (Option.isSome (psF (z9p q) (Vd.proof v))) (lpE (z0w N) (z0i z1e [1,1,1,0,1,0,1,0,1,0,1,0,0]) ⟨[3,4,6,9,29,30,31],[3,4],[]⟩ N (z38 m q false true (Option.getD (psF (z9p q) (Vd.proof v)) []) (ic (List.length (Option.getD (psF (z9p q) (Vd.proof v)) []))) 0) (z06 1 (kSq (z0w N) (z0i z1e [1,1,1,0,1,0,1,0,1,1]) (z06 0 (kSq (z0w N) (z0i z1e [1,1,1,1]) (z2v (z0w N) none [(ResultVar.tmp 6)] [[.bool]])))))) (lpE (z0w N) (z0i z1e [1,1,1,0,1,0,1,0,1,0,1,0,0]) ⟨[3,4,6,9,29,30,31],[3,4],[]⟩ N (z38 m q false false [] (ic 0) 0) (z06 1 (kSq (z0w N) (z0i z1e [1,1,1,0,1,0,1,0,1,1]) (z06 0 (kSq (z0w N) (z0i z1e [1,1,1,1]) (z2v (z0w N) none [(ResultVar.tmp 6)] [[.bool]]))))))) (cond (Vd.kind v==2) (cond (Bx.has (z9p q) {p0:=Vd.w0 v,p1:=Vd.w1 v,p2:=Vd.w2 v,p3:=Vd.w3 v} (Vd.twin v)) (some ((.bool (z5o m q {p0:=Vd.w0 v,p1:=Vd.w1 v,p2:=Vd.w2 v,p3:=Vd.w3 v} (Vd.twin v))),[])) (some ((.bool false),[]))) (some ((.bool false),[]))))):=by kernel_rfl
theorem zad (N:Nat) (m:Md) (q:Qy) (b6 b9:Bool) (l29:List IV) (x30 x31:Int) (again:St→Res) (k:Out→St→Res):rnd (z0w N) (z0i z1e [1,1,1,0,1,0,1,0,1,0,1,0,0]) (z38 m q b6 b9 l29 x30 x31) (z3v again ⟨[3,4,6,9,29,30,31],[3,4],[]⟩ k)=(cond (decide (x31 < x30)) (cond (decide (0≤x31)&&decide (x31 < ic (List.length l29))) (cond (z3c m q&&(Bx.emp (bxI (List.getD l29 (Int.toNat x31) default))||z5k (bxI (List.getD l29 (Int.toNat x31) default)))) (cond (!z49 m q (bxI (List.getD l29 (Int.toNat x31) default))) (k .ret (z38 m q false b9 l29 x30 x31)) (again (z38 m q b6 b9 l29 x30 (IntKind.wrap IntKind.i64 (x31+1))))) none) none) (k (.exit 1) (z38 m q b6 b9 l29 x30 x31))):=by kernel_rfl
theorem zch (N:Nat) (m:Md) (q:Qy) (b6 b9:Bool) (l29:List IV) (x30 x31:Int):(z06 1 (kSq (z0w N) (z0i z1e [1,1,1,0,1,0,1,0,1,1]) (z06 0 (kSq (z0w N) (z0i z1e [1,1,1,1]) (z2v (z0w N) none [(ResultVar.tmp 6)] [[.bool]]))))) (.exit 1) (z38 m q b6 b9 l29 x30 x31)=(some ((.bool b9),[])):=by kernel_rfl
theorem zjv (N:Nat) (m:Md) (q:Qy) (b6 b9:Bool) (l29:List IV) (x30 x31:Int):(z06 1 (kSq (z0w N) (z0i z1e [1,1,1,0,1,0,1,0,1,1]) (z06 0 (kSq (z0w N) (z0i z1e [1,1,1,1]) (z2v (z0w N) none [(ResultVar.tmp 6)] [[.bool]]))))) .ret (z38 m q b6 b9 l29 x30 x31)=(some ((.bool b6),[])):=by kernel_rfl
open Go Go.Proofs
theorem zra:z2u PR B0 192 z9q:=by
 refine z0f [] [] z9q [[.bool]] Tryz.func192 zxn trivial ?_;intro vs r hwf h;unfold z9q at h
 split at h
 ·rename_i s p a
  rw [R.get_ok] at h;refine ⟨0,(zto 0 s p a).trans ?_⟩;rw [← h];unfold zcs;show _=some (V.bool (cond s (p==0&&a==0) (decide (0≤p)&&decide (p≤4))),[]);cases s with
  | true=>
   simp only [v2f,v1f]
   rfl
  | false=>
   simp only [v1n]
   by_cases hp:0≤p
   ·rw [v01 (show p≥0 from hp)]; rfl
   ·rw [v07 (show ¬ p≥0 from hp)]; rfl
 ·simp [R.get] at h
def yfw (o:Option (Int × Int)):Int:=match o with
 | some st=>cond (!(st.1==0)||decide (st.2 > 200)) 0 st.2
 | none=>0
theorem zwl (N:Nat) (l:List IV) (K:Out→St→Res) (hl:l.length≤65536)
  (hx:∀ x2 x3 x4 x11 x12,K (.exit 0) ⟨[(2,(.int .i64 x2)),(3,(.int .i64 x3)),(4,(.int .i64 x4)),(10,(.list true z2r l)),(11,(.int .i64 x11)),(12,(.int .i64 x12))],[]⟩=cond (x3 != 0) (some ((.int .i64 0),[])) (cond (decide (x4 > 200)) (some ((.int .i64 0),[])) (some ((.int .i64 x4),[]))))
  (hr:∀ x2 x3 x4 x11 x12,K .ret ⟨[(2,(.int .i64 x2)),(3,(.int .i64 x3)),(4,(.int .i64 x4)),(10,(.list true z2r l)),(11,(.int .i64 x11)),(12,(.int .i64 x12))],[]⟩=some (.int .i64 x2,[])) :
  ∀ (d i n:Nat) (left most:Int),i+d=l.length→d < n→0≤left→left≤i+1 →
   lpE (z4d N) (z0i z5w [1,1,1,0,1,0,0]) ⟨[2,3,4,10,11,12],[],[]⟩ n ⟨[(2,(.int .i64 0)),(3,(.int .i64 left)),(4,(.int .i64 most)),(10,(.list true z2r l)),(11,(.int .i64 (ic l.length))),(12,(.int .i64 (i:Int)))],[]⟩ K=some (.int .i64 (yfw (yd9 (l.drop i) (left,most))),[])
 | d,i,0,_,_,_,h,_,_=>absurd h (by omega)
 | 0,i,n+1,left,most,hd,_,_,_=>by
  rw [z05,zgz,zau (by omega),z02,hx,v1b (by omega)]
  show _=some (V.int .i64 (cond (!(left==0)||decide (most > 200)) 0 most),[])
  have:(left != 0)=!(left==0):=rfl
  rw [this];cases left==0 <;> cases decide (most > 200) <;> rfl
 | d+1,i,n+1,left,most,hd,hn,h0,h1=>by
  have hi:i < l.length:=by omega
  rw [z05,zgz,z9z hi,z00,zg5,v0u,z00,z7z (by omega),zbl hi,v0j hi,yd9]
  unfold zqt;have er:zcs (stI (IV.toBool (IV.cell l[i] 0)) (IV.toInt (IV.cell l[i] 1)) (IV.toInt (IV.cell l[i] 2)))=zcs l[i]:=rfl;have es:IV.toBool (IV.cell l[i] 0)=zc1 l[i]:=rfl;rw [er,es];generalize l[i]=x;cases hz:(left==0) with
  | true=>rw [z00,hr]; rfl
  | false=>
   have hne:left≠0:=by simpa using hz
   rw [z02];cases zcs x with
   | false=>rw [v0i,z00,hr]; rfl
   | true=>
    rw [v0c,z02,v3l,z02];cases zc1 x with
    | true=>
     rw [z00,z00,show IntKind.wrap IntKind.i64 (left - 1)=left - 1 from z15 (by omega) (by omega)]
     exact zwl N l K hl hx hr d (i+1) n (left - 1) most (by omega) (by omega) (by omega) (by omega)
    | false=>
     rw [z02,z02,show IntKind.wrap IntKind.i64 (left+1)=left+1 from z15 (by omega) (by omega)]
     exact zwl N l K hl hx hr d (i+1) n (left+1) _ (by omega) (by omega) (by omega) (by omega)
theorem zul:z2u PR B0 156 zb9:=by
 refine z0f [(192,z9q)] [(5,⟨[2,3,4,10,11,12],[],[]⟩)] zb9 [[.int .i64]] Tryz.func156 y3f ⟨zra,trivial⟩ ?_;intro vs r hwf h;unfold zb9 at h
 split at h
 ·rename_i l
  rw [R.get_ok] at h;refine ⟨l.length+1,(zze (l.length+1) l).trans ?_⟩;rw [← h];unfold zmi
  by_cases hl:l.length≤65536
  ·rw [v07 (show ¬ ic l.length > 65536 by simp only [ic]; omega),z02,z02]
   have:=zwl (l.length+1) l _ hl (fun x2 x3 x4 x11 x12=>zn0 (l.length+1) x2 x3 x4 l x11 x12) (fun x2 x3 x4 x11 x12=>zmp (l.length+1) x2 x3 x4 l x11 x12) l.length 0 (l.length+1) 1 1 (by omega) (by omega) (by omega) (by omega)
   rw [v11] at this;exact this
  ·rw [v01 (show ic l.length > 65536 by simp only [ic]; omega)]
   rfl
 ·simp [R.get] at h
theorem zqi:z2u PR B0 110 z9y:=by
 refine z0f [(156,zb9)] [] z9y [[.bool]] Tryz.func110 zxz ⟨zul,trivial⟩ ?_;intro vs r hwf h;unfold z9y at h
 split at h
 ·rename_i l
  rw [R.get_ok] at h;exact ⟨0,(zur 0 l).trans h⟩
 ·simp [R.get] at h
theorem yiq (b:Bx) (p:Pt) (t:Int):z0y (yce 6) y0q [.tmp 6] [[.bool]] [b.V,p.V,.int .i64 t] =
 cond (!b.s0.has p.p0) (some (.bool false,[])) (cond (!b.s1.has p.p1) (some (.bool false,[])) (cond (!b.s2.has p.p2) (some (.bool false,[])) (cond (!b.s3.has p.p3) (some (.bool false,[])) (some (.bool (b.s4.has t),[]))))):=by kernel_rfl
theorem y53:z2u PR B0 69 zg9:=by
 refine z0f [(114,zac)] [(2,⟨[2,3,6,9,10],[3],[]⟩)] zg9 [[.bool]] Tryz.func69 ybx ⟨zop,trivial⟩ ?_;intro vs r hwf h;unfold zg9 at h
 split at h
 ·rename_i b p t
  replace h:=z2l h;obtain ⟨b,rfl,h⟩:=h;replace h:=zcr h;obtain ⟨p,rfl,h⟩:=h;rw [R.get_ok] at h;refine ⟨6,(yiq b p t).trans ?_⟩;rw [← h];unfold Bx.has;cases b.s0.has p.p0 <;> cases b.s1.has p.p1 <;> cases b.s2.has p.p2 <;> cases b.s3.has p.p3 <;> rfl
 ·simp [R.get] at h
open Go
theorem ziq {s:Sp} {n:Int}:s.has n=true↔s.lo≤n∧n≤s.hi:=by
 unfold Sp.has;rw [v02,v06,v06]
theorem yix {s:Sp}:s.emp=false↔s.lo≤s.hi:=by
 unfold Sp.emp;rw [v14];omega
theorem y7o {lo hi n:Int}:(y9a lo hi).has n=true↔lo≤n∧n≤hi:=by
 unfold y9a;cases hd:decide (lo > hi) with
 | true=>
  have:=v0d hd
  rw [z00,ziq];show (1:Int)≤n∧n≤0↔_;omega
 | false=>rw [z02,ziq]
theorem zwy {s:Sp} {a n:Int}:(s.cutL a).has n=true↔s.has n=true∧n≤a:=by
 unfold Sp.cutL;rw [y7o,ziq];omega
theorem zyh {s:Sp} {a n:Int} (ha : -9223372036854775808≤a) (hs:s.hi≤9223372036854775807):(s.cutH a).has n=true↔s.has n=true∧a < n:=by
 unfold Sp.cutH;cases hd:decide (a≥s.hi) with
 | true=>
  have:=v0d hd
  rw [z00,ziq,ziq];show (1:Int)≤n∧n≤0↔_;omega
 | false=>
  have:=v0t hd
  have e:zd2 (a+1)=a+1:=z15 (by omega) (by omega)
  rw [z02,y7o,ziq,e];omega
def co (p:Pt) (t:Int):Nat→Int
 | 0=>p.p0
 | 1=>p.p1
 | 2=>p.p2
 | 3=>p.p3
 | _=>t
theorem zvz {b:Bx} {p:Pt} {t:Int}:b.has p t=true↔∀ i,i < 5→(b.g i).has (co p t i)=true:=by
 unfold Bx.has;simp only [v02];constructor
 ·rintro ⟨h0,h1,h2,h3,h4⟩ i hi
  match i,hi with
  | 0,_=>exact h0
  | 1,_=>exact h1
  | 2,_=>exact h2
  | 3,_=>exact h3
  | 4,_=>exact h4
  | i+5,h=>exact absurd h (by omega)
 ·intro h
  exact ⟨h 0 (by omega),h 1 (by omega),h 2 (by omega),h 3 (by omega),h 4 (by omega)⟩
theorem yb8 {b:Bx}:b.emp=false↔∀ i,i < 5→(b.g i).lo≤(b.g i).hi:=by
 unfold Bx.emp;simp only [v2v,yix];constructor
 ·rintro ⟨h0,h1,h2,h3,h4⟩ i hi
  match i,hi with
  | 0,_=>exact h0
  | 1,_=>exact h1
  | 2,_=>exact h2
  | 3,_=>exact h3
  | 4,_=>exact h4
  | i+5,h=>exact absurd h (by omega)
 ·intro h
  exact ⟨h 0 (by omega),h 1 (by omega),h 2 (by omega),h 3 (by omega),h 4 (by omega)⟩
theorem zo9 (b:Bx) (s:Sp):∀ {i j:Nat},i < 5→j < 5→(b.p s i).g j=if j=i then s else b.g j
 | 0,0,_,_=>rfl
 | 0,1,_,_=>rfl
 | 0,2,_,_=>rfl
 | 0,3,_,_=>rfl
 | 0,4,_,_=>rfl
 | 1,0,_,_=>rfl
 | 1,1,_,_=>rfl
 | 1,2,_,_=>rfl
 | 1,3,_,_=>rfl
 | 1,4,_,_=>rfl
 | 2,0,_,_=>rfl
 | 2,1,_,_=>rfl
 | 2,2,_,_=>rfl
 | 2,3,_,_=>rfl
 | 2,4,_,_=>rfl
 | 3,0,_,_=>rfl
 | 3,1,_,_=>rfl
 | 3,2,_,_=>rfl
 | 3,3,_,_=>rfl
 | 3,4,_,_=>rfl
 | 4,0,_,_=>rfl
 | 4,1,_,_=>rfl
 | 4,2,_,_=>rfl
 | 4,3,_,_=>rfl
 | 4,4,_,_=>rfl
 | i+5,_,h,_=>absurd h (by omega)
 | _,j+5,_,h=>absurd h (by omega)
def Bx.ok (b:Bx):Prop:=∀ i,i < 5→(b.g i).hi≤2147483647
theorem y72 (b:Bx) (h:b.emp=false):b.has b.low b.s4.hi=true:=by
 rw [yb8] at h;rw [zvz];intro i hi;rw [ziq]
 have:=h i hi
 match i,hi with
 | 0,_=>exact ⟨v2s _,this⟩
 | 1,_=>exact ⟨v2s _,this⟩
 | 2,_=>exact ⟨v2s _,this⟩
 | 3,_=>exact ⟨v2s _,this⟩
 | 4,_=>exact ⟨this,v2s _⟩
 | i+5,h=>exact absurd h (by omega)
theorem yan {b:Bx} {p:Pt} {t:Int} (h:b.has p t=true):b.emp=false:=by
 rw [zvz] at h;rw [yb8];intro i hi
 have:=ziq.1 (h i hi)
 omega
theorem ybu {b:Bx} {i:Nat} (hi:i < 5) {a:Int} {p:Pt} {t:Int}:(b.cutL (i:Int) a).has p t=true↔b.has p t=true∧co p t i≤a:=by
 unfold Bx.cutL;rw [v0l,zvz,zvz];constructor
 ·intro h
  refine ⟨fun j hj=>?_,?_⟩
  ·have:=h j hj
   rw [zo9 b _ hi hj] at this
   by_cases e:j=i
   ·rw [v1c e,zwy] at this
    rw [e] at this ⊢
    exact this.1
   ·rw [v0x e] at this
    exact this
  ·have:=h i hi
   rw [zo9 b _ hi hi,v1c rfl,zwy] at this;exact this.2
 ·rintro ⟨h,ha⟩ j hj
  rw [zo9 b _ hi hj]
  by_cases e:j=i
  ·rw [v1c e,zwy,e]
   exact ⟨h i hi,ha⟩
  ·rw [v0x e]
   exact h j hj
theorem yau {b:Bx} (hb:b.ok) {i:Nat} (hi:i < 5) {a:Int} (ha : -2147483648≤a) {p:Pt} {t:Int}:(b.cutH (i:Int) a).has p t=true↔b.has p t=true∧a < co p t i:=by
 have hs:=hb i hi;unfold Bx.cutH;rw [v0l,zvz,zvz];constructor
 ·intro h
  refine ⟨fun j hj=>?_,?_⟩
  ·have:=h j hj
   rw [zo9 b _ hi hj] at this
   by_cases e:j=i
   ·rw [v1c e,zyh (by omega) (by omega)] at this
    rw [e] at this ⊢
    exact this.1
   ·rw [v0x e] at this
    exact this
  ·have:=h i hi
   rw [zo9 b _ hi hi,v1c rfl,zyh (by omega) (by omega)] at this
   exact this.2
 ·rintro ⟨h,ha'⟩ j hj
  rw [zo9 b _ hi hj]
  by_cases e:j=i
  ·rw [v1c e,zyh (by omega) (by omega),e]
   exact ⟨h i hi,ha'⟩
  ·rw [v0x e]
   exact h j hj
theorem yb2 {lo hi:Int} (h:hi≤2147483647):(y9a lo hi).hi≤2147483647:=by
 unfold y9a;cases decide (lo > hi) with
 | true=>rw [z00]; show (0:Int)≤_; omega
 | false=>exact h
theorem yk7 {b:Bx} (hb:b.ok) {s:Sp} (hs:s.hi≤2147483647) {i:Nat} (hi:i < 5):(b.p s i).ok:=by
 intro j hj;rw [zo9 b _ hi hj]
 split
 ·exact hs
 ·exact hb j hj
theorem ych {b:Bx} (hb:b.ok) {i:Nat} (hi:i < 5) (a:Int):(b.cutL (i:Int) a).ok:=by
 unfold Bx.cutL;rw [v0l];refine yk7 hb ?_ hi;unfold Sp.cutL;exact yb2 (by have:=hb i hi; omega)
theorem yb0 {b:Bx} (hb:b.ok) {i:Nat} (hi:i < 5) (a:Int):(b.cutH (i:Int) a).ok:=by
 unfold Bx.cutH;rw [v0l];refine yk7 hb ?_ hi;unfold Sp.cutH;cases decide (a≥(b.g i).hi) with
 | true=>rw [z00]; show (0:Int)≤_; omega
 | false=>exact yb2 (hb i hi)
theorem y90 (b:Bx):bxI b.I=b:=rfl
theorem y5z (p:Pt) (t:Int):∀ {i:Nat},i < 4→co p t i=p.g i
 | 0,_=>rfl
 | 1,_=>rfl
 | 2,_=>rfl
 | 3,_=>rfl
 | i+4,h=>absurd h (by omega)
abbrev nd (l:List IV) (i:Nat):Nd:=z04 (l.getD i default).toInt
def y5w (l:List IV) (k j:Nat):Prop:=(nd l k).lf=false∧((nd l k).l=(j:Int)∨(nd l k).r=(j:Int))
structure TreeOK (l:List IV):Prop where
 len:1≤l.length∧l.length≤31
 node:∀ k,k < l.length→zaf (l.getD k default).toInt=true
 fork:∀ k,k < l.length→(nd l k).lf=false→(0≤(nd l k).f∧(nd l k).f < 4)∧z1r (nd l k).a=true∧((k:Int) < (nd l k).l∧(nd l k).l < ic l.length)∧((k:Int) < (nd l k).r∧(nd l k).r < ic l.length)∧(nd l k).l≠(nd l k).r
 parent:∀ j,1≤j→j < l.length→∃ k,k < l.length∧y5w l k j
 alone:∀ j k k',1≤j→j < l.length→k < l.length→k' < l.length→y5w l k j→y5w l k' j→k=k'
theorem yid {l:List Nat}:∀ {k a:Nat},l[k]?=some a→a≤l.sum:=by
 induction l with
 | nil=>intro k a h; simp at h
 | cons x r ih=>
  intro k a h;cases k with
  | zero=>simp at h; simp; omega
  | succ k=>have:=ih (k:=k) (a:=a) (by simpa using h); simp; omega
theorem ybs {l:List Nat}:∀ {k k' a b:Nat},k < k'→l[k]?=some a→l[k']?=some b→a+b≤l.sum:=by
 induction l with
 | nil=>intro k k' a b _ h; simp at h
 | cons x r ih=>
  intro k k' a b hk h h';cases k with
  | zero=>
   cases k' with
   | zero=>omega
   | succ k'=>
    have:=yid (l:=r) (k:=k') (a:=b) (by simpa using h')
    simp at h;simp;omega
  | succ k=>
   cases k' with
   | zero=>omega
   | succ k'=>
    have:=ih (k:=k) (k':=k') (a:=a) (b:=b) (by omega) (by simpa using h) (by simpa using h')
    simp;omega
theorem yhb {l:List Nat}:0 < l.sum→∃ (k a:Nat),l[k]?=some a∧0 < a:=by
 induction l with
 | nil=>intro h; simp at h
 | cons x r ih=>
  intro h
  by_cases hx:0 < x
  ·exact ⟨0,x,rfl,hx⟩
  ·obtain ⟨k,a,hk,ha⟩:=ih (by simp at h; omega)
   exact ⟨k+1,a,by simpa using hk,ha⟩
theorem znu {x:Nd} {j:Nat}:0 < zdj x j↔x.lf=false∧(x.l=(j:Int)∨x.r=(j:Int)):=by
 unfold zdj;cases x.lf with
 | true=>simp
 | false=>
  rw [z02]
  by_cases h1:x.l=(j:Int) <;> by_cases h2:x.r=(j:Int) <;> simp [h1,h2]
theorem zy0 {l:List IV} {k:Nat} (h:k < l.length):l.getD k default=l[k]:=by simp [h]
theorem zq5 {l:List IV} (h:z8v l 4=true):TreeOK l:=by
 have key:∀ {dim n:Int} {l:List IV} {i k:Nat} (hk:k < l.length),zcl dim n i l=true→zaf (l[k]).toInt=true∧zxf dim n (i+k) (z04 (l[k]).toInt)=true:=by
  intro dim n l
  induction l with
  | nil=>intro i k hk; exact absurd hk (Nat.not_lt_zero k)
  | cons w r ih=>
   intro i k hk h;rw [zcl] at h;simp only [v02] at h;cases k with
   | zero=>exact h.1
   | succ k=>
    have:=ih (k:=k) (by simpa using hk) h.2
    rw [show i+1+k=i+(k+1) by omega] at this
    exact this
 unfold z8v at h;simp only [v02] at h;obtain ⟨⟨h1,h31⟩,hn,ho⟩:=h;have hlen:=v03 h1;have once:∀ j,1≤j→j < l.length→z5a l j=1:=fun j hj hjl=>by
  unfold yao at ho;rw [v30] at ho
  have:=ho (j - 1) (List.mem_range.2 (by omega))
  rw [show j - 1+1=j by omega] at this
  simpa using this
 have at_:∀ k (hk:k < l.length) j,(l.map fun w=>zdj (z04 w.toInt) j)[k]?=some (zdj (nd l k) j):=fun k hk j=>by
  rw [v19,v0g hk];unfold nd;rw [zy0 hk]
  rfl
 refine ⟨⟨hlen,v03 h31⟩,fun k hk=>by rw [zy0 hk]; exact (key hk hn).1,fun k hk hl=>?_,fun j hj hjl=>?_,fun j k k' hj hjl hk hk' hn1 hn2=>?_⟩
 ·have h2:=(key hk hn).2
  have h3:=(key hk hn).1;rw [v0n] at h2;unfold nd at hl ⊢
  rw [zy0 hk] at hl ⊢
  unfold zxf at h2;rw [hl,z02] at h2;simp only [v02,v12,v14,v1i] at h2;obtain ⟨q1,q2,q3,q4⟩:=h2;have hr:=(zqc h3).2;unfold zam zlb at hr;rw [hl,z02] at hr;simp only [v02,v06] at hr;exact ⟨⟨hr.2.1,hr.2.2.1⟩,hr.2.2.2.1,⟨by omega,by simp only [ic] at q4 ⊢; omega⟩,⟨by omega,by simp only [ic] at q4 ⊢; omega⟩,q2⟩
 ·have h2:=once j hj hjl
  unfold z5a at h2;obtain ⟨k,a,hk,ha⟩:=yhb (l:=l.map fun w=>zdj (z04 w.toInt) j) (by omega)
  have hkl:k < l.length:=by
   have:=(List.getElem?_eq_some_iff.1 hk).1
   simpa using this
  rw [at_ k hkl j] at hk;simp only [v00] at hk;subst hk;exact ⟨k,hkl,znu.1 ha⟩
 ·have h2:=once j hj hjl
  unfold z5a at h2;have p1:0 < zdj (nd l k) j:=znu.2 hn1;have p2:0 < zdj (nd l k') j:=znu.2 hn2;rcases Nat.lt_trichotomy k k' with hlt | heq | hlt
  ·have:=ybs hlt (at_ k hk j) (at_ k' hk' j)
   omega
  ·exact heq
  ·have:=ybs hlt (at_ k' hk' j) (at_ k hk j)
   omega
def ybb (l:List IV) (p:Pt) (i:Nat):Int:=(zvt l p 31 (i:Int)).2.v
theorem zwx {l:List IV} (h:TreeOK l) (p:Pt) {i:Nat} (hi:i < l.length) (n:Nat):zvt l p (n+1) (i:Int) =
  cond (nd l i).lf ((i:Int),nd l i) (cond (decide (p.g (nd l i).f.toNat≤(nd l i).a)) (zvt l p n (nd l i).l) (zvt l p n (nd l i).r)):=by
 rw [zvt,v07 (show ¬ (i:Int)≥ic l.length by simp only [ic]; omega),z02,v0l,h.node i hi,v0c,z02]
theorem zl0 {l:List IV} (h:TreeOK l) (p:Pt):∀ (n n' i:Nat),i < l.length→l.length - i≤n→l.length - i≤n'→zvt l p n (i:Int)=zvt l p n' (i:Int)
 | 0,_,i,hi,h1,_=>absurd h1 (by omega)
 | _+1,0,i,hi,_,h2=>absurd h2 (by omega)
 | n+1,n'+1,i,hi,h1,h2=>by
  rw [zwx h p hi,zwx h p hi];cases hl:(nd l i).lf with
  | true=>rfl
  | false=>
   obtain ⟨_,_,⟨a1,a2⟩,⟨b1,b2⟩,_⟩:=h.fork i hi hl;simp only [ic] at a2 b2;rw [z02,z02];cases decide (p.g (nd l i).f.toNat≤(nd l i).a) with
   | true=>
    have e:(nd l i).l=(((nd l i).l.toNat:Nat):Int):=by omega
    rw [z00,z00,e];exact zl0 h p n n' _ (by omega) (by omega) (by omega)
   | false=>
    have e:(nd l i).r=(((nd l i).r.toNat:Nat):Int):=by omega
    rw [z02,z02,e];exact zl0 h p n n' _ (by omega) (by omega) (by omega)
theorem y7w {l:List IV} (h:TreeOK l) (p:Pt) {i:Nat} (hi:i < l.length) (hl:(nd l i).lf=true):ybb l p i=(nd l i).v:=by
 unfold ybb;rw [zwx h p hi,hl,z00]
theorem y6c {l:List IV} (h:TreeOK l) (p:Pt) {i:Nat} (hi:i < l.length) (hl:(nd l i).lf=false):ybb l p i=ybb l p (cond (decide (p.g (nd l i).f.toNat≤(nd l i).a)) (nd l i).l.toNat (nd l i).r.toNat):=by
 obtain ⟨_,_,⟨a1,a2⟩,⟨b1,b2⟩,_⟩:=h.fork i hi hl;have h31:=h.len.2;simp only [ic] at a2 b2;unfold ybb;rw [zwx h p hi,hl,z02];cases decide (p.g (nd l i).f.toNat≤(nd l i).a) with
 | true=>
  rw [z00,z00];have e:(nd l i).l=(((nd l i).l.toNat:Nat):Int):=by omega
  rw [e,v0l];rw [zl0 h p 30 31 _ (by omega) (by omega) (by omega)]
 | false=>
  rw [z02,z02];have e:(nd l i).r=(((nd l i).r.toNat:Nat):Int):=by omega
  rw [e,v0l];rw [zl0 h p 30 31 _ (by omega) (by omega) (by omega)]
theorem yi5 (l:List IV) (p:Pt):zpg l p=ybb l p 0:=rfl
abbrev zsy (own:List IV) (j:Nat):Bx:=bxI (own.getD j default)
def fr (l:List IV) (i j:Nat):Prop:=i≤j∧j < l.length∧(j=0∨∃ k,k < i∧y5w l k j)
structure PInv (l:List IV) (b:Bx) (i:Nat) (own out:List IV):Prop where
 len:own.length=l.length
 val:∀ j,fr l i j→∀ p t,(zsy own j).has p t=true→b.has p t=true∧ybb l p 0=ybb l p j
 ok:∀ j,fr l i j→(zsy own j).ok
 all:∀ p t,b.has p t=true→(∃ x∈out,(bxI x).has p t=true)∨∃ j,fr l i j∧(zsy own j).has p t=true
 out:∀ x∈out,(bxI x).emp=false∧(bxI x).ok∧∀ p t,(bxI x).has p t=true→b.has p t=true∧zpg l p=pcV x
theorem yct {l:List IV} (h:TreeOK l) {i:Nat} (hi:i < l.length):fr l i i:=by
 refine ⟨v08 _,hi,?_⟩
 by_cases h0:i=0
 ·exact .inl h0
 ·obtain ⟨k,hk,hn⟩:=h.parent i (by omega) hi
  refine .inr ⟨k,?_,hn⟩;obtain ⟨_,_,a,b,_⟩:=h.fork k hk hn.1;rcases hn.2 with e | e <;> omega
theorem yc7 {own:List IV} {a j:Nat} {x:IV} (ha:a < own.length):(own.set a x).getD j default=if j=a then x else own.getD j default:=by
 rw [v0m,List.getElem?_set]
 by_cases e:a=j
 ·subst e
  rw [v1c rfl,v1c ha,v1c rfl]
  rfl
 ·rw [v0x e,v0x (fun h=>e h.symm),← v0m]
theorem yc0 {l:List IV} (h:TreeOK l) {b:Bx} {i:Nat} (hi:i < l.length) {own out:List IV} (hp:PInv l b i own out) :
  PInv l b (i+1) (zfn (nd l i) i own) (cond ((nd l i).lf&&!(zsy own i).emp) (out++[pcI (zsy own i) (nd l i).v]) out):=by
 have hfi:=yct h hi;cases hl:(nd l i).lf with
 | true=>
  have e1:zfn (nd l i) i own=own:=by unfold zfn; rw [hl,z00]
  have hfr:∀ j,fr l (i+1) j→fr l i j:=fun j hj=>by
   refine ⟨by have:=hj.1; omega,hj.2.1,hj.2.2.imp_right ?_⟩
   rintro ⟨k,hk,hn⟩
   refine ⟨k,?_,hn⟩;rcases Nat.lt_succ_iff_lt_or_eq.1 hk with h1 | h1
   ·exact h1
   ·subst h1
    rw [hn.1] at hl;cases hl
  have hrf:∀ j,fr l i j→j=i∨fr l (i+1) j:=fun j hj=>by
   by_cases e:j=i
   ·exact .inl e
   ·refine .inr ⟨by have:=hj.1; omega,hj.2.1,hj.2.2.imp_right ?_⟩
    rintro ⟨k,hk,hn⟩
    exact ⟨k,by omega,hn⟩
  rw [e1,v0r];have hv:=fun p=>y7w h p hi hl
  cases he:(zsy own i).emp with
  | true=>
   rw [v0c,z02];refine ⟨hp.len,fun j hj=>hp.val j (hfr j hj),fun j hj=>hp.ok j (hfr j hj),fun p t hb=>?_,hp.out⟩
   rcases hp.all p t hb with h1 | ⟨j,hj,hh⟩
   ·exact .inl h1
   ·rcases hrf j hj with rfl | hj'
    ·rw [yan hh] at he
     cases he
    ·exact .inr ⟨j,hj',hh⟩
  | false=>
   rw [v0i,z00];refine ⟨hp.len,fun j hj=>hp.val j (hfr j hj),fun j hj=>hp.ok j (hfr j hj),fun p t hb=>?_,fun x hx=>?_⟩
   ·rcases hp.all p t hb with ⟨x,hx,hh⟩ | ⟨j,hj,hh⟩
    ·exact .inl ⟨x,v0k.2 (.inl hx),hh⟩
    ·rcases hrf j hj with rfl | hj'
     ·exact .inl ⟨_,v0k.2 (.inr (v28.2 rfl)),hh⟩
     ·exact .inr ⟨j,hj',hh⟩
   ·rcases v0k.1 hx with hx | hx
    ·exact hp.out x hx
    ·obtain rfl:=v28.1 hx
     refine ⟨he,hp.ok i hfi,fun p t hh=>?_⟩
     obtain ⟨q1,q2⟩:=hp.val i hfi p t hh;refine ⟨q1,?_⟩;rw [yi5,q2,hv p]
     rfl
 | false=>
  obtain ⟨⟨f0,f4⟩,ha,⟨a1,a2⟩,⟨b1,b2⟩,hne⟩:=h.fork i hi hl;simp only [ic] at a2 b2;have ef:(nd l i).f=(((nd l i).f.toNat:Nat):Int):=by omega
  have hf5:(nd l i).f.toNat < 5:=by omega
  have e1:zfn (nd l i) i own=(own.set (nd l i).l.toNat ((zsy own i).cutL (nd l i).f (nd l i).a).I).set (nd l i).r.toNat ((zsy own i).cutH (nd l i).f (nd l i).a).I:=by unfold zfn; rw [hl,z02]
  have hlen:=hp.len;have at_:∀ j,(zfn (nd l i) i own).getD j default=if j=(nd l i).r.toNat then ((zsy own i).cutH (nd l i).f (nd l i).a).I else if j=(nd l i).l.toNat then ((zsy own i).cutL (nd l i).f (nd l i).a).I else own.getD j default:=fun j=>by
   rw [e1,yc7 (by rw [v2e]; omega)]
   congr 1
   rw [yc7 (by omega)]
  have fits : -2147483648≤(nd l i).a∧(nd l i).a≤2147483647:=by
   unfold z1r at ha
   simpa only [v02,v06] using ha
  have hok:=hp.ok i hfi;have cl:∀ p t,((zsy own i).cutL (nd l i).f (nd l i).a).has p t=true↔(zsy own i).has p t=true∧p.g (nd l i).f.toNat≤(nd l i).a:=fun p t=>by
   have:=ybu (b:=zsy own i) hf5 (a:=(nd l i).a) (p:=p) (t:=t)
   rw [← ef,y5z p t (by omega)] at this
   exact this
  have ch:∀ p t,((zsy own i).cutH (nd l i).f (nd l i).a).has p t=true↔(zsy own i).has p t=true∧(nd l i).a < p.g (nd l i).f.toNat:=fun p t=>by
   have:=yau hok hf5 (a:=(nd l i).a) fits.1 (p:=p) (t:=t)
   rw [← ef,y5z p t (by omega)] at this
   exact this
  have nl:y5w l i (nd l i).l.toNat:=⟨hl,.inl (by omega)⟩
  have nr:y5w l i (nd l i).r.toNat:=⟨hl,.inr (by omega)⟩
  have hfr:∀ j,fr l (i+1) j→j≠(nd l i).l.toNat→j≠(nd l i).r.toNat→fr l i j:=fun j hj h1 h2=>by
   refine ⟨by have:=hj.1; omega,hj.2.1,hj.2.2.imp_right ?_⟩
   rintro ⟨k,hk,hn⟩
   refine ⟨k,?_,hn⟩;rcases Nat.lt_succ_iff_lt_or_eq.1 hk with h3 | h3
   ·exact h3
   ·subst h3
    rcases hn.2 with e | e
    ·exact absurd (by omega) h1
    ·exact absurd (by omega) h2
  have hnot:∀ j,y5w l i j→¬ fr l i j:=fun j hn hj=>by
   obtain ⟨h1,h2,h3⟩:=hj;have hj0:1≤j:=by rcases hn.2 with e | e <;> omega
   rcases h3 with h3 | ⟨k,hk,hk2⟩
   ·omega
   ·have:=h.alone j k i hj0 h2 (by omega) hi hk2 hn
    omega
  have fl:fr l (i+1) (nd l i).l.toNat:=⟨by omega,by omega,.inr ⟨i,by omega,nl⟩⟩
  have frr:fr l (i+1) (nd l i).r.toNat:=⟨by omega,by omega,.inr ⟨i,by omega,nr⟩⟩
  have hup:∀ j,fr l i j→j≠i→fr l (i+1) j:=fun j hj e=>by
   refine ⟨by have:=hj.1; omega,hj.2.1,hj.2.2.imp_right ?_⟩
   rintro ⟨k,hk,hn⟩
   exact ⟨k,by omega,hn⟩
  have hvf:=fun p=>y6c h p hi hl
  rw [v0v,z02];refine ⟨by rw [e1,v2e,v2e]; exact hp.len,fun j hj p t hh=>?_,fun j hj=>?_,fun p t hb=>?_,hp.out⟩
  ·unfold zsy at hh
   rw [at_] at hh
   by_cases hr:j=(nd l i).r.toNat
   ·rw [v1c hr,y90,ch] at hh
    obtain ⟨q1,q2⟩:=hp.val i hfi p t hh.1;refine ⟨q1,?_⟩;rw [q2,hvf p,v07 (by omega),z02,hr]
   ·rw [v0x hr] at hh
    by_cases hlj:j=(nd l i).l.toNat
    ·rw [v1c hlj,y90,cl] at hh
     obtain ⟨q1,q2⟩:=hp.val i hfi p t hh.1;refine ⟨q1,?_⟩;rw [q2,hvf p,v01 hh.2,z00,hlj]
    ·rw [v0x hlj] at hh
     exact hp.val j (hfr j hj hlj hr) p t hh
  ·unfold zsy
   rw [at_]
   by_cases hr:j=(nd l i).r.toNat
   ·rw [v1c hr,y90,ef]
    exact yb0 hok hf5 _
   ·rw [v0x hr]
    by_cases hlj:j=(nd l i).l.toNat
    ·rw [v1c hlj,y90,ef]
     exact ych hok hf5 _
    ·rw [v0x hlj]
     exact hp.ok j (hfr j hj hlj hr)
  ·rcases hp.all p t hb with h1 | ⟨j,hj,hh⟩
   ·exact .inl h1
   ·refine .inr ?_
    by_cases e:j=i
    ·subst e
     by_cases hd:p.g (nd l j).f.toNat≤(nd l j).a
     ·refine ⟨_,fl,?_⟩
      unfold zsy;rw [at_,v0x (by omega),v1c rfl,y90,cl]
      exact ⟨hh,hd⟩
     ·refine ⟨_,frr,?_⟩
      unfold zsy;rw [at_,v1c rfl,y90,ch];exact ⟨hh,by omega⟩
    ·refine ⟨j,hup j hj e,?_⟩
     unfold zsy;rw [at_,v0x (fun (er:j=(nd l i).r.toNat)=>hnot j (er ▸ nr) hj),v0x (fun (er:j=(nd l i).l.toNat)=>hnot j (er ▸ nl) hj)]
     exact hh
theorem y7u {l:List IV} (h:TreeOK l) {b:Bx}:∀ (m i:Nat) (own out:List IV),i+m=l.length→PInv l b i own out→∃ own',PInv l b l.length own' (zmj (l.drop i) i own out)
 | 0,i,own,out,hd,hp=>by
  have hi:i=l.length:=by omega
  subst hi;rw [v1z,zmj];exact ⟨own,hp⟩
 | m+1,i,own,out,hd,hp=>by
  have hi:i < l.length:=by omega
  rw [v0j hi,zmj];have hs:=yc0 h hi hp;have e:nd l i=z04 (l[i]).toInt:=by unfold nd; rw [zy0 hi]
  rw [e] at hs;exact y7u h m (i+1) _ _ (by omega) hs
theorem y83 {l:List IV} (ht:z8v l 4=true) {b:Bx} (hb:b.emp=false) (hok:b.ok) :
  (∀ x∈z45 l b,(bxI x).emp=false∧(bxI x).ok∧∀ p t,(bxI x).has p t=true→b.has p t=true∧zpg l p=pcV x) ∧
   ∀ p t,b.has p t=true→∃ x∈z45 l b,(bxI x).has p t=true:=by
 have h:=zq5 ht;have h1:=h.len.1;have hz:((List.replicate l.length bx0.I).set 0 b.I).getD 0 default=b.I:=by rw [yc7 (by simp; omega),v1c rfl]
 have f0:∀ j,fr l 0 j→j=0:=fun j hj=>by
  rcases hj.2.2 with e | ⟨k,hk,_⟩
  ·exact e
  ·omega
 have h0:PInv l b 0 ((List.replicate l.length bx0.I).set 0 b.I) []:=by
  refine ⟨by simp,fun j hj p t hh=>?_,fun j hj=>?_,fun p t hh=>.inr ⟨0,yct h (by omega),?_⟩,fun x hx=>by cases hx⟩
  ·obtain rfl:=f0 j hj
   unfold zsy at hh;rw [hz,y90] at hh;exact ⟨hh,rfl⟩
  ·obtain rfl:=f0 j hj
   unfold zsy;rw [hz,y90];exact hok
  ·unfold zsy
   rw [hz,y90];exact hh
 obtain ⟨own',hp⟩:=y7u h l.length 0 _ _ (by omega) h0
 have e:z45 l b=zmj (l.drop 0) 0 ((List.replicate l.length bx0.I).set 0 b.I) []:=by unfold z45; rw [ht,hb]; rfl
 rw [e];refine ⟨hp.out,fun p t hh=>?_⟩
 rcases hp.all p t hh with h1 | ⟨j,hj,_⟩
 ·exact h1
 ·have:=hj.1
  have:=hj.2.1
  omega
theorem yd2:∀ {l:List IV} {a:Int},y9w l a≤a∧∀ x∈l,y9w l a≤pcV x
 | [],a=>⟨v2s _,fun x hx=>by cases hx⟩
 | y :: r,a=>by
  rw [y9w];obtain ⟨h1,h2⟩:=yd2 (l:=r) (a:=min a (pcV y));refine ⟨by omega,fun x hx=>?_⟩
  rcases v13.1 hx with rfl | hx
  ·omega
  ·exact h2 x hx
theorem yc9:∀ {l:List IV} {a:Int},a≤y9u l a∧∀ x∈l,pcV x≤y9u l a
 | [],a=>⟨v2s _,fun x hx=>by cases hx⟩
 | y :: r,a=>by
  rw [y9u];obtain ⟨h1,h2⟩:=yc9 (l:=r) (a:=max a (pcV y));refine ⟨by omega,fun x hx=>?_⟩
  rcases v13.1 hx with rfl | hx
  ·omega
  ·exact h2 x hx
theorem yam:∀ {l:List IV} {a:Int},y9w l a=a∨∃ x∈l,y9w l a=pcV x
 | [],a=>.inl rfl
 | y :: r,a=>by
  rw [y9w];rcases yam (l:=r) (a:=min a (pcV y)) with h | ⟨x,hx,h⟩
  ·rw [h]
   by_cases hd:a≤pcV y
   ·exact .inl (by omega)
   ·exact .inr ⟨y,v09 ..,by omega⟩
  ·exact .inr ⟨x,v0b _ hx,h⟩
theorem ycg:∀ {l:List IV} {a:Int},y9u l a=a∨∃ x∈l,y9u l a=pcV x
 | [],a=>.inl rfl
 | y :: r,a=>by
  rw [y9u];rcases ycg (l:=r) (a:=max a (pcV y)) with h | ⟨x,hx,h⟩
  ·rw [h]
   by_cases hd:pcV y≤a
   ·exact .inl (by omega)
   ·exact .inr ⟨y,v09 ..,by omega⟩
  ·exact .inr ⟨x,v0b _ hx,h⟩
theorem yir {ps:List IV} (hp:ps≠[]):(∀ x∈ps,yim ps≤pcV x∧pcV x≤yij ps)∧(∃ x∈ps,pcV x=yim ps)∧∃ x∈ps,pcV x=yij ps:=by
 unfold yim yij;cases ps with
 | nil=>exact absurd rfl hp
 | cons y r=>
  have e:(y :: r).getD 0 default=y:=rfl;rw [e];refine ⟨fun x hx=>⟨yd2.2 x hx,yc9.2 x hx⟩,?_,?_⟩
  ·rcases yam (l:=y :: r) (a:=pcV y) with h | ⟨x,hx,h⟩
   ·exact ⟨y,v09 ..,h.symm⟩
   ·exact ⟨x,hx,h.symm⟩
  ·rcases ycg (l:=y :: r) (a:=pcV y) with h | ⟨x,hx,h⟩
   ·exact ⟨y,v09 ..,h.symm⟩
   ·exact ⟨x,hx,h.symm⟩
theorem yg1 {l:List IV} (ht:z8v l 4=true) {b:Bx} (hb:b.emp=false) (hok:b.ok) :
  (∀ p t,b.has p t=true→tLo l b≤zpg l p∧zpg l p≤tHi l b)∧(∃ p t,b.has p t=true∧zpg l p=tLo l b)∧∃ p t,b.has p t=true∧zpg l p=tHi l b:=by
 obtain ⟨h1,h2⟩:=y83 ht hb hok;have hne:z45 l b≠[]:=fun e=>by
  obtain ⟨x,hx,_⟩:=h2 b.low b.s4.hi (y72 b hb);rw [e] at hx;cases hx
 obtain ⟨q1,⟨x,hx,q2⟩,⟨y,hy,q3⟩⟩:=yir hne;have hT:tOK l b=true:=by
  unfold tOK;cases he:z45 l b with
  | nil=>exact absurd he hne
  | cons _ _=>rfl
 unfold tLo tHi;rw [hT,z00,z00];refine ⟨fun p t hh=>?_,⟨(bxI x).low,(bxI x).s4.hi,?_⟩,⟨(bxI y).low,(bxI y).s4.hi,?_⟩⟩
 ·obtain ⟨z,hz,hzh⟩:=h2 p t hh
  rw [((h1 z hz).2.2 p t hzh).2];exact q1 z hz
 ·obtain ⟨r1,r2⟩:=(h1 x hx).2.2 _ _ (y72 _ (h1 x hx).1)
  exact ⟨r1,r2.trans q2⟩
 ·obtain ⟨r1,r2⟩:=(h1 y hy).2.2 _ _ (y72 _ (h1 y hy).1)
  exact ⟨r1,r2.trans q3⟩
open Go
theorem yd3 {m:Md} (hm:z26 m=true) {t:IV} (ht:t∈m.ts):z8v (zdp t) 4=true:=by
 have h:=z1x hm;exact y86 (zor (v30.1 h.2.2.2.2 t ht)).2 h.1.2
theorem yck {m:Md} {k:Int} {b:Bx} (h:sOK m k b=true):z26 m=true∧zbu m k=true∧b.emp=false:=by
 unfold sOK at h;simp only [v02,v12] at h;exact h
theorem zq3 {m:Md} {c lo:Int} {b:Bx}:∀ (d:Nat) (i a:Int) (z:Bool),(0 < ztw m c lo b d i a z↔(z=true∨∃ j:Nat,j < d∧i+j≠c)∧(z=true→0 < a)∧∀ j:Nat,j < d→i+j≠c→sHi m (i+j) b < lo)∨(z=false∧∀ j:Nat,j < d→i+j=c)
 | 0,i,a,z=>by
  cases z with
  | false=>exact .inr ⟨rfl,fun j hj=>absurd hj (Nat.not_lt_zero j)⟩
  | true=>
   refine .inl ?_;rw [ztw];exact ⟨fun h=>⟨.inl rfl,fun _=>h,fun j hj=>absurd hj (Nat.not_lt_zero j)⟩,fun h=>h.2.1 rfl⟩
 | d+1,i,a,z=>by
  rw [ztw];have sh:∀ j:Nat,i+1+(j:Int)=i+((j+1:Nat):Int):=fun j=>by omega
  cases hc:(i==c) with
  | true=>
   have hc:=v1d.1 hc;rw [z00];rcases zq3 (m:=m) (c:=c) (lo:=lo) (b:=b) d (i+1) a z with h | ⟨h1,h2⟩
   ·refine .inl (h.trans ?_)
    constructor
    ·rintro ⟨q1,q2,q3⟩
     refine ⟨q1.imp_right ?_,q2,fun j hj hne=>?_⟩
     ·rintro ⟨j,hj,hne⟩; exact ⟨j+1,by omega,by rw [← sh j]; exact hne⟩
     ·cases j with
      | zero=>exact absurd (by simpa using hc) hne
      | succ j=>rw [← sh j] at hne ⊢; exact q3 j (by omega) hne
    ·rintro ⟨q1,q2,q3⟩
     refine ⟨q1.imp_right ?_,q2,fun j hj hne=>?_⟩
     ·rintro ⟨j,hj,hne⟩
      cases j with
      | zero=>exact absurd (by simpa using hc) hne
      | succ j=>exact ⟨j,by omega,by rw [sh j]; exact hne⟩
     ·rw [sh j] at hne ⊢; exact q3 (j+1) (by omega) hne
   ·refine .inr ⟨h1,fun j hj=>?_⟩
    cases j with
    | zero=>simpa using hc
    | succ j=>rw [← sh j]; exact h2 j (by omega)
  | false=>
   have hc:i≠c:=fun e=>by rw [e,beq_self_eq_true] at hc; cases hc
   rw [z02];refine .inl ?_;have key:∀ (a':Int),(0 < a'↔(z=true→0 < a)∧sHi m i b < lo)→(0 < ztw m c lo b d (i+1) a' true↔(z=true∨∃ j:Nat,j < d+1∧i+(j:Int)≠c)∧(z=true→0 < a)∧∀ j:Nat,j < d+1→i+(j:Int)≠c→sHi m (i+j) b < lo):=fun a' ha'=>by
    rcases zq3 (m:=m) (c:=c) (lo:=lo) (b:=b) d (i+1) a' true with h | ⟨h1,_⟩
    ·rw [h]
     constructor
     ·rintro ⟨_,q2,q3⟩
      obtain ⟨r1,r2⟩:=ha'.1 (q2 rfl);refine ⟨.inr ⟨0,by omega,by simpa using hc⟩,r1,fun j hj hne=>?_⟩
      cases j with
      | zero=>simpa using r2
      | succ j=>rw [← sh j] at hne ⊢; exact q3 j (by omega) hne
     ·rintro ⟨_,q2,q3⟩
      have r2:=q3 0 (by omega) (by simpa using hc)
      refine ⟨.inl rfl,fun _=>ha'.2 ⟨q2,by simpa using r2⟩,fun j hj hne=>?_⟩
      rw [sh j] at hne ⊢
      exact q3 (j+1) (by omega) hne
    ·cases h1
   cases z with
   | false=>
    rw [v0i,v3x,z00];exact key _ ⟨fun h=>⟨fun h=>(by cases h),by omega⟩,fun h=>by have:=h.2; omega⟩
   | true=>
    rw [v0c,v2g];cases hd:decide (lo - sHi m i b < a) with
    | true=>
     have hd:=v0d hd;rw [z00];exact key _ ⟨fun h=>⟨fun _=>by omega,by omega⟩,fun h=>by have:=h.2; omega⟩
    | false=>
     have hd:=v0t hd;rw [z02];exact key _ ⟨fun h=>⟨fun _=>h,by omega⟩,fun h=>h.1 rfl⟩
theorem yep {m:Md} {c:Int} {b:Bx} (h:yby m c b=true):0 < ygv m c b↔∀ j:Nat,(j:Int) < m.c→(j:Int)≠c→sHi m (j:Int) b < sLo m c b:=by
 have h0:=h;unfold yby at h0;rw [v02,v06] at h0;obtain ⟨hs,h2⟩:=h0;have hc:=y7r (yck hs).2.1;unfold ygv;rw [h,z00];rcases zq3 (m:=m) (c:=c) (lo:=sLo m c b) (b:=b) m.c.toNat 0 0 false with h1 | ⟨_,h1⟩
 ·rw [h1]
  simp only [Int.zero_add];constructor
  ·rintro ⟨_,_,q⟩ j hj hne
   exact q j (by omega) hne
  ·intro q
   refine ⟨.inr ?_,fun h=>(by cases h),fun j hj hne=>q j (by omega) hne⟩
   by_cases e:c=0
   ·exact ⟨1,by omega,by omega⟩
   ·exact ⟨0,by omega,by omega⟩
 ·have q0:=h1 0 (by omega)
  have q1:=h1 1 (by omega)
  omega
theorem ye3 {m:Md} {k:Int} (h0:0≤k) (h1:k < m.c):zbu m k=true:=by
 unfold zbu;rw [v01 h0,v01 h1]
 rfl
theorem yd6 {m:Md} {k:Int} {b:Bx} (hm:z26 m=true) (hk:zbu m k=true) (hb:b.emp=false):sOK m k b=true:=by
 unfold sOK;rw [hm,hk,hb]
 rfl
theorem y39 {m:Md} {q:Qy} (hm:z26 m=true) (hk:q.k=3) (hf:0≤q.ft∧q.ft < m.d):z5j q=true:=by
 have:=(z1x hm).1
 unfold z5j;rw [hk,v01 (show q.ft≥0 by omega),v01 (show q.ft < 4 by omega)]
 rfl
open Go
abbrev kFt:List Kd:=[.int .i64,.list false [.int .i64],.list false [.int .i64],.list false [.int .i64],.list false [.int .i64]]
structure Ft where
 d:Int
 c:Int
 bias:List IV
 ts:List IV
def Ft.cs (f:Ft):List FM.V:=[.int .i64 f.d,.int .i64 f.c,.list false [.int .i64] f.bias,.list true kFt f.ts]
def Ft.V (f:Ft):FM.V:=.agg f.cs
def Ft.M (f:Ft):Md:=yi8 f.d f.c f.bias f.ts
open Go
def Bx.good (b:Bx):Prop:=∀ i,i < 5 → -2147483648≤(b.g i).lo∧(b.g i).lo≤(b.g i).hi∧(b.g i).hi≤2147483647
theorem Bx.good.emp {b:Bx} (h:b.good):b.emp=false:=yb8.2 fun i hi=>(h i hi).2.1
theorem Bx.good.ok {b:Bx} (h:b.good):b.ok:=fun i hi=>(h i hi).2.2
def Sp.good (s:Sp):Prop := -2147483648≤s.lo∧s.lo≤s.hi∧s.hi≤2147483647
theorem zo0 {b:Bx} (hb:b.good) {s:Sp} (hs:s.good) {i:Nat} (hi:i < 5):(b.p s i).good:=by
 intro j hj;rw [zo9 b s hi hj]
 by_cases h:j=i
 ·rw [v1c h]; exact hs
 ·rw [v0x h]; exact hb j hj
theorem y1l {lo hi:Int} (h0 : -2147483648≤lo) (h1:lo≤hi) (h2:hi≤2147483647):(y9a lo hi).good:=by
 unfold y9a;rw [v07 (by omega),z02]
 exact ⟨h0,h1,h2⟩
theorem yaz {b:Bx} (hb:b.good) {i:Nat} (hi:i < 5) {a:Int} (h1:(b.g i).lo≤a) (h2:a < (b.g i).hi):(b.cutL (i:Int) a).good:=by
 unfold Bx.cutL;rw [v0l];have h:=hb i hi;refine zo0 hb (y1l h.1 ?_ ?_) hi <;> omega
theorem yc4 {b:Bx} (hb:b.good) {i:Nat} (hi:i < 5) {a:Int} (h1:(b.g i).lo≤a) (h2:a < (b.g i).hi):(b.cutH (i:Int) a).good:=by
 unfold Bx.cutH;rw [v0l];have h:=hb i hi;have e:zd2 (a+1)=a+1:=z15 (by omega) (by omega)
 refine zo0 hb ?_ hi;unfold Sp.cutH;rw [v07 (by omega),z02,e]
 exact y1l (by omega) (by omega) h.2.2
theorem zh9 {d i:Int} {s:Sp} (h:y6i d i s=true):s.good:=by
 unfold y6i at h;simp only [v02,v12,z1r,Sp.emp,v06,v14] at h;obtain ⟨_,h1,h2,h3⟩:=h;exact ⟨h2.1,by omega,h3.2⟩
theorem zhr {m:Md} {q:Qy} (h:z3c m q=true):z26 m=true∧(0≤q.c∧q.c < m.c)∧(0≤q.bu∧q.bu≤65536)∧zx7 q.bx m.d=true∧y20 m q=true:=by
 unfold z3c at h;simp only [v02,v06] at h;exact ⟨h.1,⟨h.2.1,h.2.2.1⟩,⟨h.2.2.2.1,h.2.2.2.2.1⟩,h.2.2.2.2.2.1,h.2.2.2.2.2.2⟩
theorem ye9 {b:Bx} {d:Int} (h:zx7 b d=true):b.good:=by
 unfold zx7 at h;simp only [v02] at h;intro i hi
 match i,hi with
 | 0,_=>exact zh9 h.1
 | 1,_=>exact zh9 h.2.1
 | 2,_=>exact zh9 h.2.2.1
 | 3,_=>exact zh9 h.2.2.2.1
 | 4,_=>exact zh9 h.2.2.2.2
 | n+5,hi=>omega
theorem y8g {m:Md} {q:Qy} (h:z3c m q=true):(z9p q).good:=by
 have hb:=ye9 (zhr h).2.2.2.1;unfold z9p;refine zo0 hb ?_ (by omega)
 cases hp:z5j q with
 | false=>rw [z02]; exact ⟨by decide,by decide,by decide⟩
 | true=>
  rw [z00];unfold z5j at hp;simp only [v02,v06] at hp;exact hb q.ft.toNat (by omega)
theorem y4d {l:List IV} {x:IV} (h:x∈zhz l):x∈l:=v2m h
open Go
abbrev yj5:List Kd:=[.int .i64,.int .i64,.int .i64,.int .i64,.int .i64,.int .i64,.int .i64,.int .i64,.int .i64,.int .i64,.int .i64]
def yba (a:Int) (b:Bx):IV:=.agg [.int a,.int b.s0.lo,.int b.s0.hi,.int b.s1.lo,.int b.s1.hi,.int b.s2.lo,.int b.s2.hi,.int b.s3.lo,.int b.s3.hi,.int b.s4.lo,.int b.s4.hi]
abbrev zlv (x:IV):Int:=cI x 0
def zuk (x:IV):Bx:=⟨⟨cI x 1,cI x 2⟩,⟨cI x 3,cI x 4⟩,⟨cI x 5,cI x 6⟩,⟨cI x 7,cI x 8⟩,⟨cI x 9,cI x 10⟩⟩
theorem y42 (a:Int) (b:Bx):zlv (yba a b)=a:=rfl
theorem zxw (a:Int) (b:Bx):zuk (yba a b)=b:=rfl
structure En where
 todo:List IV
 lo:Int
 hi:Int
 any:Bool
def z3j (l:List IV):IV:=l.getD (l.length - 1) default
def z9d (l:List IV) (e:En):Nd:=z04 (l.getD (zlv (z3j e.todo)).toNat default).toInt
def y28 (l:List IV) (e:En):En:=
 cond (!(zaf (l.getD (zlv (z3j e.todo)).toNat default).toInt)||(zuk (z3j e.todo)).emp) ⟨zhz e.todo,e.lo,e.hi,e.any⟩
  (cond (!(z9d l e).lf)
   ⟨zhz e.todo++[yba (z9d l e).l ((zuk (z3j e.todo)).cutL (z9d l e).f (z9d l e).a),yba (z9d l e).r ((zuk (z3j e.todo)).cutH (z9d l e).f (z9d l e).a)],e.lo,e.hi,e.any⟩
   ⟨zhz e.todo,min (cond e.any e.lo (z9d l e).v) (z9d l e).v,max (cond e.any e.hi (z9d l e).v) (z9d l e).v,true⟩)
def en0 (b:Bx):En:=⟨[yba 0 b],0,0,false⟩
structure EnI (l:List IV) (b:Bx) (e:En):Prop where
 at_:∀ (j:Nat) (x:IV),e.todo[j]?=some x→(j:Int)≤zlv x∧zlv x < ic l.length
 ok:∀ x∈e.todo,(zuk x).ok
 val:∀ x∈e.todo,∀ p t,(zuk x).has p t=true→b.has p t=true∧zpg l p=ybb l p (zlv x).toNat
 all:∀ p t,b.has p t=true→(∃ x∈e.todo,(zuk x).has p t=true)∨(e.any=true∧e.lo≤zpg l p∧zpg l p≤e.hi)
 lo:e.any=true→∃ p t,b.has p t=true∧zpg l p=e.lo
 hi:e.any=true→∃ p t,b.has p t=true∧zpg l p=e.hi
theorem y4g {l:List IV} {j:Nat} {x:IV} (h:(zhz l)[j]?=some x):l[j]?=some x:=by
 unfold zhz at h;rw [v0z] at h
 split at h
 ·exact h
 ·cases h
theorem znr {l:List IV} {x:IV} (hl:0 < l.length) (h:x∈l):x∈zhz l∨x=z3j l:=by
 obtain ⟨j,hj⟩:=v2t h;have hjl:=(List.getElem?_eq_some_iff.1 hj).1
 by_cases hc:j < l.length - 1
 ·refine .inl (v1o (i:=j) ?_)
  unfold zhz;rw [v0z,v1c hc];exact hj
 ·have:j=l.length - 1:=by omega
  subst this;refine .inr ?_;unfold z3j;rw [v0m,hj]
  rfl
theorem zqg {l:List IV} (hl:0 < l.length):z3j l∈l∧l[l.length - 1]?=some (z3j l):=by
 unfold z3j;rw [v0m,v0g (by omega)]
 exact ⟨v2o _,rfl⟩
theorem zjb (l:List IV):(zhz l).length=l.length - 1:=by
 unfold zhz;rw [v0h]; omega
theorem yg2 {l:List IV} (ht:TreeOK l) {b:Bx} {e:En} (h:EnI l b e) (hl:0 < e.todo.length):EnI l b (y28 l e):=by
 obtain ⟨hm,hg⟩:=zqg hl;have ha:=h.at_ _ _ hg;have h31:=ht.len.2;have hpm:∀ x∈zhz e.todo,x∈e.todo:=fun x hx=>y4d hx
 have e0:((zlv (z3j e.todo)).toNat:Int)=zlv (z3j e.todo):=by omega
 have hlt:(zlv (z3j e.todo)).toNat < l.length:=by have:=ha.2; simp only [ic] at this; omega
 have hn:=ht.node _ hlt;have hv:=h.val _ hm;have hok:=h.ok _ hm;unfold y28;rw [hn,v0c,v2g];cases he:(zuk (z3j e.todo)).emp with
 | true=>
  rw [z00];refine ⟨fun j x hj=>h.at_ j x (y4g hj),fun x hx=>h.ok x (hpm x hx),fun x hx=>h.val x (hpm x hx),fun p t hh=>?_,h.lo,h.hi⟩
  rcases h.all p t hh with ⟨x,hx,hxh⟩ | hr
  ·rcases znr hl hx with hx | rfl
   ·exact .inl ⟨x,hx,hxh⟩
   ·have:=yan hxh
    rw [he] at this; cases this
  ·exact .inr hr
 | false=>
  rw [z02];cases hlf:(z9d l e).lf with
  | true=>
   rw [v0c,z02];have hvl:∀ p t,(zuk (z3j e.todo)).has p t=true→b.has p t=true∧zpg l p=(z9d l e).v:=fun p t hh=>by
    obtain ⟨h1,h2⟩:=hv p t hh;exact ⟨h1,h2.trans (y7w ht p hlt hlf)⟩
   have hlow:=hvl _ _ (y72 _ he);refine ⟨fun j x hj=>h.at_ j x (y4g hj),fun x hx=>h.ok x (hpm x hx),fun x hx=>h.val x (hpm x hx),fun p t hh=>?_,fun _=>?_,fun _=>?_⟩
   ·rcases h.all p t hh with ⟨x,hx,hxh⟩ | ⟨h1,h2,h3⟩
    ·rcases znr hl hx with hx | rfl
     ·exact .inl ⟨x,hx,hxh⟩
     ·refine .inr ⟨rfl,?_,?_⟩
      ·rw [(hvl p t hxh).2]; show min _ _≤_; omega
      ·rw [(hvl p t hxh).2]; show _≤max _ _; omega
    ·refine .inr ⟨rfl,?_,?_⟩
     ·show min (cond e.any e.lo _) _≤_
      rw [h1,z00]; omega
     ·show _≤max (cond e.any e.hi _) _
      rw [h1,z00]; omega
   ·show ∃ p t,b.has p t=true∧zpg l p=min (cond e.any e.lo (z9d l e).v) (z9d l e).v
    cases hany:e.any with
    | false=>exact ⟨_,_,hlow.1,by rw [hlow.2,z02]; omega⟩
    | true=>
     rw [z00]
     by_cases hc:e.lo≤(z9d l e).v
     ·obtain ⟨p,t,h1,h2⟩:=h.lo hany
      exact ⟨p,t,h1,by omega⟩
     ·exact ⟨_,_,hlow.1,by rw [hlow.2]; omega⟩
   ·show ∃ p t,b.has p t=true∧zpg l p=max (cond e.any e.hi (z9d l e).v) (z9d l e).v
    cases hany:e.any with
    | false=>exact ⟨_,_,hlow.1,by rw [hlow.2,z02]; omega⟩
    | true=>
     rw [z00]
     by_cases hc:(z9d l e).v≤e.hi
     ·obtain ⟨p,t,h1,h2⟩:=h.hi hany
      exact ⟨p,t,h1,by omega⟩
     ·exact ⟨_,_,hlow.1,by rw [hlow.2]; omega⟩
  | false=>
   rw [v0i,z00];obtain ⟨⟨f0,f4⟩,fa,⟨l1,l2⟩,⟨r1,r2⟩,_⟩:=ht.fork _ hlt hlf;replace f0:0≤(z9d l e).f:=f0;replace f4:(z9d l e).f < 4:=f4;replace l1:((zlv (z3j e.todo)).toNat:Int) < (z9d l e).l:=l1;replace l2:(z9d l e).l < ic l.length:=l2;replace r1:((zlv (z3j e.todo)).toNat:Int) < (z9d l e).r:=r1;replace r2:(z9d l e).r < ic l.length:=r2;have ef:(z9d l e).f=(((z9d l e).f.toNat:Nat):Int):=by omega
   have hfl:(z9d l e).f.toNat < 5:=by omega
   have fa' : -2147483648≤(z9d l e).a:=by
    have:z1r (z9d l e).a=true:=fa
    unfold z1r at this;simp only [v02,v06] at this;exact this.1
   have vf:∀ p:Pt,ybb l p (zlv (z3j e.todo)).toNat=ybb l p (cond (decide (p.g (z9d l e).f.toNat≤(z9d l e).a)) (z9d l e).l.toNat (z9d l e).r.toNat):=fun p=>y6c ht p hlt hlf
   have hL:∀ p t,((zuk (z3j e.todo)).cutL (z9d l e).f (z9d l e).a).has p t=true↔(zuk (z3j e.todo)).has p t=true∧co p t (z9d l e).f.toNat≤(z9d l e).a:=fun p t=>by
    have:=ybu (b:=zuk (z3j e.todo)) hfl (a:=(z9d l e).a) (p:=p) (t:=t)
    rwa [← ef] at this
   have hH:∀ p t,((zuk (z3j e.todo)).cutH (z9d l e).f (z9d l e).a).has p t=true↔(zuk (z3j e.todo)).has p t=true∧(z9d l e).a < co p t (z9d l e).f.toNat:=fun p t=>by
    have:=yau hok hfl fa' (p:=p) (t:=t)
    rwa [← ef] at this
   have okL:((zuk (z3j e.todo)).cutL (z9d l e).f (z9d l e).a).ok:=by
    have:=ych hok hfl (z9d l e).a
    rwa [← ef] at this
   have okH:((zuk (z3j e.todo)).cutH (z9d l e).f (z9d l e).a).ok:=by
    have:=yb0 hok hfl (z9d l e).a
    rwa [← ef] at this
   have hco:∀ p t,co p t (z9d l e).f.toNat=p.g (z9d l e).f.toNat:=fun p t=>y5z p t (by omega)
   refine ⟨fun j x hj=>?_,fun x hx=>?_,fun x hx=>?_,fun p t hh=>?_,h.lo,h.hi⟩
   ·rw [v1v,zjb] at hj
    split at hj
    ·exact h.at_ j x (y4g hj)
    ·rename_i hc
     have h1:=ha.1;rcases v1u (j - (e.todo.length - 1)) 1 with h0 | h0
     ·have:j - (e.todo.length - 1)=0:=by omega
      rw [this] at hj;simp only [v0q,v00] at hj;subst hj;rw [y42];omega
     ·rcases v1u (j - (e.todo.length - 1)) 2 with h2 | h2
      ·have:j - (e.todo.length - 1)=1:=by omega
       rw [this] at hj;simp only [v1e,v0q,v00] at hj;subst hj;rw [y42];omega
      ·rw [v0p (by simpa using h2)] at hj
       cases hj
   ·rcases v0k.1 hx with hx | hx
    ·exact h.ok x (hpm x hx)
    ·rcases v13.1 hx with rfl | hx
     ·rw [zxw]; exact okL
     ·obtain rfl:=v28.1 hx
      rw [zxw]; exact okH
   ·rcases v0k.1 hx with hx | hx
    ·exact h.val x (hpm x hx)
    ·rcases v13.1 hx with rfl | hx
     ·intro p t hh
      rw [zxw] at hh;obtain ⟨h1,h2⟩:=(hL p t).1 hh;obtain ⟨h3,h4⟩:=hv p t h1;rw [hco] at h2;rw [y42];exact ⟨h3,by rw [h4,vf,v01 h2,z00]⟩
     ·obtain rfl:=v28.1 hx
      intro p t hh;rw [zxw] at hh;obtain ⟨h1,h2⟩:=(hH p t).1 hh;obtain ⟨h3,h4⟩:=hv p t h1;rw [hco] at h2;rw [y42];exact ⟨h3,by rw [h4,vf,v07 (by omega),z02]⟩
   ·rcases h.all p t hh with ⟨x,hx,hxh⟩ | hr
    ·rcases znr hl hx with hx | rfl
     ·exact .inl ⟨x,v0k.2 (.inl hx),hxh⟩
     ·by_cases hc:co p t (z9d l e).f.toNat≤(z9d l e).a
      ·exact .inl ⟨_,v0k.2 (.inr (v09 ..)),by rw [zxw]; exact (hL p t).2 ⟨hxh,hc⟩⟩
      ·exact .inl ⟨_,v0k.2 (.inr (v0b _ (v09 ..))),by rw [zxw]; exact (hH p t).2 ⟨hxh,by omega⟩⟩
    ·exact .inr hr
theorem yhn {l:List IV} (ht:TreeOK l) {b:Bx} (hb:b.ok):EnI l b (en0 b):=by
 have h1:=ht.len.1;refine ⟨fun j x hj=>?_,fun x hx=>?_,fun x hx=>?_,fun p t hh=>.inl ⟨_,v09 ..,by rw [zxw]; exact hh⟩,(fun h=>by cases h),(fun h=>by cases h)⟩
 ·match j,hj with
  | 0,hj=>
   obtain rfl:yba 0 b=x:=by simpa [en0] using hj
   rw [y42];simp only [ic];omega
  | j+1,hj=>simp [en0] at hj
 ·obtain rfl:=v28.1 hx
  rw [zxw]; exact hb
 ·obtain rfl:=v28.1 hx
  intro p t hh;rw [zxw] at hh;exact ⟨hh,rfl⟩
def enW (l:List IV):Nat:=(l.map fun x=>3 ^ (31 - (zlv x).toNat)).sum
theorem EnI.depth {l:List IV} (ht:TreeOK l) {b:Bx} {e:En} (h:EnI l b e):e.todo.length≤31:=by
 by_cases hc:e.todo.length≤31
 ·exact hc
 ·obtain ⟨x,hx⟩:∃ x,e.todo[31]?=some x:=⟨_,v0g (by omega)⟩
  have:=h.at_ 31 x hx
  have h2:=ht.len.2;simp only [ic] at this;omega
theorem ygd {l:List IV} (hl:0 < l.length):enW l=enW (zhz l)+3 ^ (31 - (zlv (z3j l)).toNat):=by
 have e:l=zhz l++[z3j l]:=by
  have h2:=(zqg hl).2;have h3:l[l.length - 1]=z3j l:=v1t ((v0g (by omega)).symm.trans h2)
  unfold zhz;rw [← h3,List.take_append_getElem,v1a (by omega)]
 unfold enW
 conv=>lhs; rw [e]
 rw [v3k,List.sum_append];simp
theorem yaf {a b c:Nat} (h1:a < b) (h2:a < c) (ha:a < 31):3 ^ (31 - b)+3 ^ (31 - c)+1≤3 ^ (31 - a):=by
 have e:3 ^ (31 - a)=3*3 ^ (30 - a):=by
  rw [show 31 - a=(30 - a)+1 by omega,Nat.pow_succ]; omega
 have e1:3 ^ (31 - b)≤3 ^ (30 - a):=Nat.pow_le_pow_right (by omega) (by omega)
 have e2:3 ^ (31 - c)≤3 ^ (30 - a):=Nat.pow_le_pow_right (by omega) (by omega)
 have e3:0 < 3 ^ (30 - a):=Nat.pow_pos (by omega)
 omega
theorem yg0 {l:List IV} (ht:TreeOK l) {b:Bx} {e:En} (h:EnI l b e) (hl:0 < e.todo.length):enW (y28 l e).todo+1≤enW e.todo:=by
 obtain ⟨hm,hg⟩:=zqg hl;have ha:=h.at_ _ _ hg;have h31:=ht.len.2;have hlt:(zlv (z3j e.todo)).toNat < l.length:=by have:=ha.2; simp only [ic] at this; omega
 have hpos:0 < 3 ^ (31 - (zlv (z3j e.todo)).toNat):=Nat.pow_pos (by omega)
 rw [ygd hl];unfold y28;cases !zaf (l.getD (zlv (z3j e.todo)).toNat default).toInt||(zuk (z3j e.todo)).emp with
 | true=>rw [z00]; show enW (zhz e.todo)+1≤_; omega
 | false=>
  rw [z02];cases hlf:(z9d l e).lf with
  | true=>rw [v0c,z02]; show enW (zhz e.todo)+1≤_; omega
  | false=>
   rw [v0i,z00];obtain ⟨_,_,⟨l1,l2⟩,⟨r1,r2⟩,_⟩:=ht.fork _ hlt hlf;replace l1:((zlv (z3j e.todo)).toNat:Int) < (z9d l e).l:=l1;replace r1:((zlv (z3j e.todo)).toNat:Int) < (z9d l e).r:=r1
   have:=yaf (a:=(zlv (z3j e.todo)).toNat) (b:=(z9d l e).l.toNat) (c:=(z9d l e).r.toNat) (by omega) (by omega) (by omega)
   unfold enW at *;rw [v3k,List.sum_append];simp only [v0e,v10,v3z,List.sum_nil,y42];omega
theorem yi0 {l:List IV} (hT:z8v l 4=true) {b:Bx} (hb:b.emp=false) (hok:b.ok) {e:En} (h:EnI l b e) (hl:e.todo=[]):e.lo=tLo l b∧e.hi=tHi l b:=by
 obtain ⟨t1,⟨p1,u1,q1,q2⟩,⟨p2,u2,q3,q4⟩⟩:=yg1 hT hb hok;have hall:∀ p t,b.has p t=true→e.any=true∧e.lo≤zpg l p∧zpg l p≤e.hi:=fun p t hh=>by
  rcases h.all p t hh with ⟨x,hx,_⟩ | hr
  ·rw [hl] at hx; cases hx
  ·exact hr
 have hany:=(hall _ _ q1).1;obtain ⟨p3,u3,q5,q6⟩:=h.lo hany;obtain ⟨p4,u4,q7,q8⟩:=h.hi hany;have a1:=hall _ _ q1;have a2:=hall _ _ q3;have a3:=t1 _ _ q5;have a4:=t1 _ _ q7;omega
theorem yis {l:List IV} (hT:z8v l 4=true) {b c:Bx} (hb:b.emp=false) (hok:b.ok) (hc:c.emp=false) (hokc:c.ok) (h:∀ p,(∃ t,b.has p t=true)↔∃ t,c.has p t=true):tLo l b=tLo l c∧tHi l b=tHi l c:=by
 obtain ⟨t1,⟨p1,u1,q1,q2⟩,⟨p2,u2,q3,q4⟩⟩:=yg1 hT hb hok;obtain ⟨s1,⟨p3,u3,q5,q6⟩,⟨p4,u4,q7,q8⟩⟩:=yg1 hT hc hokc;obtain ⟨v1,w1⟩:=(h p1).1 ⟨u1,q1⟩;obtain ⟨v2,w2⟩:=(h p2).1 ⟨u2,q3⟩;obtain ⟨v3,w3⟩:=(h p3).2 ⟨u3,q5⟩;obtain ⟨v4,w4⟩:=(h p4).2 ⟨u4,q7⟩;have a1:=s1 _ _ w1;have a2:=s1 _ _ w2;have a3:=t1 _ _ w3;have a4:=t1 _ _ w4;omega
open Go
open Go
open Go
open Go
theorem y89 {s:Sp}:zr5 s=true↔s.good:=by
 unfold zr5 Sp.good;simp only [v02,v06]
theorem zdv {b:Bx}:z5k b=true↔b.good:=by
 unfold z5k;simp only [v02,y89];constructor
 ·rintro ⟨h0,h1,h2,h3,h4⟩ i hi
  match i,hi with
  | 0,_=>exact h0
  | 1,_=>exact h1
  | 2,_=>exact h2
  | 3,_=>exact h3
  | 4,_=>exact h4
  | n+5,hi=>omega
 ·intro h
  exact ⟨h 0 (by omega),h 1 (by omega),h 2 (by omega),h 3 (by omega),h 4 (by omega)⟩
theorem yeh {b:Bx} (h4:b.s4.lo≤b.s4.hi) (p:Pt):(∃ t,(b.p ⟨0,0⟩ 4).has p t=true)↔∃ t,b.has p t=true:=by
 constructor
 ·rintro ⟨t,h⟩
  refine ⟨b.s4.lo,?_⟩;unfold Bx.has at h ⊢
  simp only [v02] at h ⊢
  exact ⟨h.1,h.2.1,h.2.2.1,h.2.2.2.1,ziq.2 ⟨v2s _,h4⟩⟩
 ·rintro ⟨t,h⟩
  refine ⟨0,?_⟩;unfold Bx.has at h ⊢
  simp only [v02] at h ⊢
  exact ⟨h.1,h.2.1,h.2.2.1,h.2.2.2.1,ziq.2 ⟨v2s _,v2s _⟩⟩
theorem y41 {g g':List IV→Int} (k:Int):∀ (ts:List IV) (s:Int),(∀ t∈ts,g (zdp t)=g' (zdp t))→zwz g k ts s=zwz g' k ts s
 | [],_,_=>rfl
 | t :: ts,s,h=>by
  rw [zwz,zwz,h t (v09 ..)];exact y41 k ts _ fun u hu=>h u (v0b _ hu)
theorem yfb {m:Md} (hm:z26 m=true) (k:Int) {b:Bx} (hb:b.good):sLo m k (b.p ⟨0,0⟩ 4)=sLo m k b∧sHi m k (b.p ⟨0,0⟩ 4)=sHi m k b:=by
 have hg:(b.p ⟨0,0⟩ 4).good:=zo0 hb ⟨by decide,by decide,by decide⟩ (by omega)
 have ht:∀ t∈m.ts,tLo (zdp t) (b.p ⟨0,0⟩ 4)=tLo (zdp t) b∧tHi (zdp t) (b.p ⟨0,0⟩ 4)=tHi (zdp t) b:=fun t ht=>
  yis (yd3 hm ht) hg.emp hg.ok hb.emp hb.ok (yeh (hb 4 (by omega)).2.1)
 have es:sOK m k (b.p ⟨0,0⟩ 4)=sOK m k b:=by unfold sOK; rw [hg.emp,hb.emp]
 unfold sLo sHi;rw [es];cases sOK m k b with
 | false=>exact ⟨rfl,rfl⟩
 | true=>
  rw [z00,z00,z00,z00];exact ⟨y41 k m.ts _ fun t h=>(ht t h).1,y41 k m.ts _ fun t h=>(ht t h).2⟩
def y5n (m:Md) (q:Qy) (b:Bx):Nat→Nat→Bool
 | 0,_=>true
 | d+1,i=>cond (!((i:Int)==q.c)&&decide (sHi m (i:Int) b≥sLo m q.c b)) false (y5n m q b d (i+1))
def zzh (q:Qy) (b:Bx):Bx:=b.p b.s4 q.ft.toNat
def ycb (m:Md) (q:Qy) (b:Bx):Bool:=
 cond b.emp true
  (cond (q.k==1) (decide (q.lo≤sLo m q.c b)&&decide (sHi m q.c b≤q.hi))
   (cond (q.k==2) (y5n m q b m.c.toNat 0)
    (cond (decide ((b.g q.ft.toNat).lo≥b.s4.hi)) true
     (cond q.fl (decide (sHi m q.c (zzh q b)≤sLo m q.c b)) (decide (sLo m q.c (zzh q b)≥sHi m q.c b))))))
theorem y32 {m:Md} {q:Qy} {b:Bx}:∀ (d i:Nat),y5n m q b d i=true↔∀ j:Nat,i≤j→j < i+d→(j:Int)≠q.c→sHi m (j:Int) b < sLo m q.c b
 | 0,i=>⟨fun _ j h1 h2=>by omega,fun _=>rfl⟩
 | d+1,i=>by
  rw [y5n];cases hc:(!((i:Int)==q.c)&&decide (sHi m (i:Int) b≥sLo m q.c b)) with
  | true=>
   rw [z00];simp only [v02,v12,v1i,v06] at hc;refine ⟨(fun h=>by cases h),fun h=>?_⟩
   have:=h i (v08 _) (by omega) hc.1
   omega
  | false=>
   rw [z02,y32 d (i+1)];rw [Bool.and_eq_false_iff,Bool.not_eq_false',v1d,v14] at hc;constructor
   ·intro h j h1 h2 hn
    rcases v1u i j with h3 | h3
    ·exact h j h3 (by omega) hn
    ·have:j=i:=by omega
     subst this;rcases hc with hc | hc
     ·exact absurd hc hn
     ·omega
   ·intro h j h1 h2 hn
    exact h j (by omega) (by omega) hn
theorem y2t {m:Md} {q:Qy} {b:Bx} (hr:z3c m q=true) (hb:b.emp=true∨b.good):ycb m q b=z49 m q b:=by
 unfold ycb z49;rw [hr,v0r];cases he:b.emp with
 | true=>rfl
 | false=>
  rw [z02,z02];have hg:b.good:=by
   rcases hb with h | h
   ·rw [he] at h; cases h
   ·exact h
  obtain ⟨hm,⟨c0,c1⟩,_,_,hk⟩:=zhr hr;have hcl:=ye3 c0 c1;have hs:=yd6 hm hcl he;rcases zmz hk with ⟨e,_⟩ | ⟨e,h2,_⟩ | ⟨e,hf,_⟩
  ·rw [e]
   show (decide (q.lo≤sLo m q.c b)&&decide (sHi m q.c b≤q.hi))=(sOK m q.c b&&(decide (q.lo≤sLo m q.c b)&&decide (sHi m q.c b≤q.hi)));rw [hs,v0r]
  ·rw [e]
   show y5n m q b m.c.toNat 0=(yby m q.c b&&decide (ygv m q.c b > 0));have hmg:yby m q.c b=true:=by unfold yby; rw [hs,v01 (by omega)]; rfl
   rw [hmg,v0r,v2r,y32,v06]
   have:=yep hmg
   constructor
   ·intro h
    exact this.2 fun j hj hn=>h j (v0y _) (by omega) hn
   ·intro h j _ h2 hn
    exact this.1 h j (by omega) hn
  ·rw [e]
   have hp:=y39 hm e hf;have h44:=hg 4 (by omega)
   have hg2:(zzh q b).good:=zo0 hg h44 (by have:=hf; have:=(zhr hr).1; rcases zce hp with e | e | e | e <;> rw [e] <;> decide)
   have s1:=yfb hm q.c hg;have s2:=yfb hm q.c hg2;have f1:zdb q b=b.p ⟨0,0⟩ 4:=by unfold zdb; rw [hp,z00]
   have f2:z9g q b=(zzh q b).p ⟨0,0⟩ 4:=by unfold z9g; rw [hp,z00]; rfl
   have hch:y9m m q b=true:=by
    unfold y9m;rw [hp,f1,f2,yd6 hm hcl (zo0 hg ⟨by decide,by decide,by decide⟩ (by omega)).emp,yd6 hm hcl (zo0 hg2 ⟨by decide,by decide,by decide⟩ (by omega)).emp]
    rfl
   have e1:ygs m q b=sHi m q.c (zzh q b) - sLo m q.c b:=by unfold ygs; rw [hch,z00,f1,f2,s1.1,s2.2]
   have e2:yh4 m q b=sLo m q.c (zzh q b) - sHi m q.c b:=by unfold yh4; rw [hch,z00,f1,f2,s1.2,s2.1]
   have eo:zh6 q b=!decide ((b.g q.ft.toNat).lo≥b.s4.hi):=by
    unfold zh6;rw [hp,he]
    by_cases h:(b.g q.ft.toNat).lo < b.s4.hi
    ·rw [v01 h,v07 (by omega)]; rfl
    ·rw [v07 h,v01 (by omega)]; rfl
   show cond (decide ((b.g q.ft.toNat).lo≥b.s4.hi)) true _=cond (!(zh6 q b)) true (cond q.fl (y9m m q b&&decide (ygs m q b≤0)) (y9m m q b&&decide (yh4 m q b≥0)));rw [eo,Bool.not_not,hch,v0r,v0r,e1,e2];have d1:decide (sHi m q.c (zzh q b) - sLo m q.c b≤0)=decide (sHi m q.c (zzh q b)≤sLo m q.c b):=by
    rw [v2r,v06,v06]; omega
   have d2:decide (sLo m q.c (zzh q b) - sHi m q.c b≥0)=decide (sLo m q.c (zzh q b)≥sHi m q.c b):=by
    rw [v2r,v06,v06]; omega
   rw [d1,d2]
end Go.FM
