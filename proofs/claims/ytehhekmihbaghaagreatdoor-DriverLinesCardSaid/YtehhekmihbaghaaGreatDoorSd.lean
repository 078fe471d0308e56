/-
  A small machine that reads a function of the program and reckons what a call of it comes to; what Go's library on the road comes to; the functions of the program, one by one. No conditions beyond each specification's own. (NORMAL FORMS: what the functions' runs come to (written by a, ask's FUNCTIONS COME TO WHAT IS SAID (3): Parse., THE NODES THAT copsekeep MAKES OF NUMBERS ARE A TREE'S: plai, and so on.)
-/
import Derived.Test.YtehhekmihbaghaaGreatDoorSb
import Derived.Test.YtehhekmihbaghaaGreatDoorSc
import Derived.Lib.AppendIntMem
import Derived.Deep.LoopGhost
import Derived.Lib.Walk
import Derived.Lib.SliceRun
set_option linter.all false
set_option maxRecDepth 100000
namespace Go.FM
open Go Go.Proofs
def z4x (N:Nat):Env:=mkE [(18,zd6),(121,z8z),(119,ze7),(120,zap),(118,z2d),(104,z7v),(46,z2p)] [(9,⟨[0,2,3,4,5,7,8,9,45,46,47],[2,9],[]⟩)] 82 N
abbrev z4f (s0:ByteArray) (x3:Int) (b4:Bool) (l5:List IV) (x7 x8:Int) (l45:List IV) (x46 x47 u02 u03 u0a u0b u0c u0d u0e u0f u0g u0h u04 u05 u06 u07 u08:Int) (u00:Bool) (u09 u0i u0j u0q u0r u0s u0t u0u u0v u0w u0x u0k u0l u0m u0n u0o:Int) (u01:Bool) (u0p:Int):St:=⟨[(0,(.str s0)),(2,(.ptr 2 0 0)),(3,(.i x3)),(4,(.bool b4)),(5,(.list false [.str] l5)),(7,(.i x7)),(8,(.i x8)),(9,(.ptr 9 0 0)),(45,(.list false [.str] l45)),(46,(.i x46)),(47,(.i x47))],[(2,(some (.box [(.i u02),(.i u03),(.i u0a),(.i u0b),(.i u0c),(.i u0d),(.i u0e),(.i u0f),(.i u0g),(.i u0h),(.i u04),(.i u05),(.i u06),(.i u07),(.i u08),(.bool u00),(.i u09)]))),(9,(some (.box [(.i u0i),(.i u0j),(.i u0q),(.i u0r),(.i u0s),(.i u0t),(.i u0u),(.i u0v),(.i u0w),(.i u0x),(.i u0k),(.i u0l),(.i u0m),(.i u0n),(.i u0o),(.bool u01),(.i u0p)])))]⟩
theorem y13 (N:Nat) (s:ByteArray):z11 (z4x N) z6j [.cell 2 38,.tmp 3,.tmp 4] [[.int .i64,.int .i64,.int .i64,.int .i64,.int .i64,.int .i64,.int .i64,.int .i64,.int .i64,.int .i64,.int .i64,.int .i64,.int .i64,.int .i64,.int .i64,.bool,.int .i64],[.int .i64],[.bool]] [(.str s)]=(cond (decide (ByteArray.size s < 4294967281)&&decide (1≤ByteArray.size {data:=#[32]})) (cond (decide (zfd (List.map IV.str (z0s s {data:=#[32]})) {data:=#[105,110]} 0 < 0)) (some ((.tup [(.agg [(.i 0),(.i 0),(.i 0),(.i 0),(.i 0),(.i 0),(.i 0),(.i 0),(.i 0),(.i 0),(.i 0),(.i 0),(.i 0),(.i 0),(.i 0),(.bool false),(.i 0)]),(.i 0),(.bool false)]),[])) (cond (decide (IntKind.wrap IntKind.i64 (IntKind.wrap IntKind.i64 (IntKind.wrap IntKind.i64 (ic (List.length (List.map IV.str (z0s s {data:=#[32]}))) - 2) - zfd (List.map IV.str (z0s s {data:=#[32]})) {data:=#[105,110]} 0) - 1) < 1)) (some ((.tup [(.agg [(.i 0),(.i 0),(.i 0),(.i 0),(.i 0),(.i 0),(.i 0),(.i 0),(.i 0),(.i 0),(.i 0),(.i 0),(.i 0),(.i 0),(.i 0),(.bool false),(.i 0)]),(.i 0),(.bool false)]),[])) (cond (decide (IntKind.wrap IntKind.i64 (IntKind.wrap IntKind.i64 (IntKind.wrap IntKind.i64 (ic (List.length (List.map IV.str (z0s s {data:=#[32]}))) - 2) - zfd (List.map IV.str (z0s s {data:=#[32]})) {data:=#[105,110]} 0) - 1) > 4)) (some ((.tup [(.agg [(.i 0),(.i 0),(.i 0),(.i 0),(.i 0),(.i 0),(.i 0),(.i 0),(.i 0),(.i 0),(.i 0),(.i 0),(.i 0),(.i 0),(.i 0),(.bool false),(.i 0)]),(.i 0),(.bool false)]),[])) (cond (decide (0≤zfd (List.map IV.str (z0s s {data:=#[32]})) {data:=#[105,110]} 0)&&decide (zfd (List.map IV.str (z0s s {data:=#[32]})) {data:=#[105,110]} 0≤ic (List.length (List.map IV.str (z0s s {data:=#[32]}))))) (cond (decide (List.length (List.drop 0 (List.take (Int.toNat (zfd (List.map IV.str (z0s s {data:=#[32]})) {data:=#[105,110]} 0)) (List.map IV.str (z0s s {data:=#[32]}))))≤4294967290)&&List.all (List.drop 0 (List.take (Int.toNat (zfd (List.map IV.str (z0s s {data:=#[32]})) {data:=#[105,110]} 0)) (List.map IV.str (z0s s {data:=#[32]})))) fun x=>decide (ByteArray.size (IV.toStr x) < 4294967281)) (cond (decide (0≤IntKind.wrap IntKind.i64 (zfd (List.map IV.str (z0s s {data:=#[32]})) {data:=#[105,110]} 0+1))&&(decide (IntKind.wrap IntKind.i64 (zfd (List.map IV.str (z0s s {data:=#[32]})) {data:=#[105,110]} 0+1)≤IntKind.wrap IntKind.i64 (ic (List.length (List.map IV.str (z0s s {data:=#[32]}))) - 2))&&decide (IntKind.wrap IntKind.i64 (ic (List.length (List.map IV.str (z0s s {data:=#[32]}))) - 2)≤ic (List.length (List.map IV.str (z0s s {data:=#[32]})))))) (lpE (z4x N) (z0j z6j [1,1,1,1,1,1,1,0,1,0,0]) ⟨[0,2,3,4,5,7,8,9,45,46,47],[2,9],[]⟩ N (z4f s 0 false (List.map IV.str (z0s s {data:=#[32]})) (IntKind.wrap IntKind.i64 (ic (List.length (List.map IV.str (z0s s {data:=#[32]}))) - 2)) (IntKind.wrap IntKind.i64 (IntKind.wrap IntKind.i64 (IntKind.wrap IntKind.i64 (ic (List.length (List.map IV.str (z0s s {data:=#[32]}))) - 2) - zfd (List.map IV.str (z0s s {data:=#[32]})) {data:=#[105,110]} 0) - 1)) (List.drop (Int.toNat (IntKind.wrap IntKind.i64 (zfd (List.map IV.str (z0s s {data:=#[32]})) {data:=#[105,110]} 0+1))) (List.take (Int.toNat (IntKind.wrap IntKind.i64 (ic (List.length (List.map IV.str (z0s s {data:=#[32]}))) - 2))) (List.map IV.str (z0s s {data:=#[32]})))) (ic (List.length (List.drop (Int.toNat (IntKind.wrap IntKind.i64 (zfd (List.map IV.str (z0s s {data:=#[32]})) {data:=#[105,110]} 0+1))) (List.take (Int.toNat (IntKind.wrap IntKind.i64 (ic (List.length (List.map IV.str (z0s s {data:=#[32]}))) - 2))) (List.map IV.str (z0s s {data:=#[32]})))))) 0 0 0 0 0 0 0 0 0 0 0 0 0 0 0 0 false 0 (Qy.k (z2z (List.drop 0 (List.take (Int.toNat (zfd (List.map IV.str (z0s s {data:=#[32]})) {data:=#[105,110]} 0)) (List.map IV.str (z0s s {data:=#[32]})))))) (Qy.c (z2z (List.drop 0 (List.take (Int.toNat (zfd (List.map IV.str (z0s s {data:=#[32]})) {data:=#[105,110]} 0)) (List.map IV.str (z0s s {data:=#[32]})))))) (Qy.a0 (z2z (List.drop 0 (List.take (Int.toNat (zfd (List.map IV.str (z0s s {data:=#[32]})) {data:=#[105,110]} 0)) (List.map IV.str (z0s s {data:=#[32]})))))) (Qy.b0 (z2z (List.drop 0 (List.take (Int.toNat (zfd (List.map IV.str (z0s s {data:=#[32]})) {data:=#[105,110]} 0)) (List.map IV.str (z0s s {data:=#[32]})))))) (Qy.a1 (z2z (List.drop 0 (List.take (Int.toNat (zfd (List.map IV.str (z0s s {data:=#[32]})) {data:=#[105,110]} 0)) (List.map IV.str (z0s s {data:=#[32]})))))) (Qy.b1 (z2z (List.drop 0 (List.take (Int.toNat (zfd (List.map IV.str (z0s s {data:=#[32]})) {data:=#[105,110]} 0)) (List.map IV.str (z0s s {data:=#[32]})))))) (Qy.a2 (z2z (List.drop 0 (List.take (Int.toNat (zfd (List.map IV.str (z0s s {data:=#[32]})) {data:=#[105,110]} 0)) (List.map IV.str (z0s s {data:=#[32]})))))) (Qy.b2 (z2z (List.drop 0 (List.take (Int.toNat (zfd (List.map IV.str (z0s s {data:=#[32]})) {data:=#[105,110]} 0)) (List.map IV.str (z0s s {data:=#[32]})))))) (Qy.a3 (z2z (List.drop 0 (List.take (Int.toNat (zfd (List.map IV.str (z0s s {data:=#[32]})) {data:=#[105,110]} 0)) (List.map IV.str (z0s s {data:=#[32]})))))) (Qy.b3 (z2z (List.drop 0 (List.take (Int.toNat (zfd (List.map IV.str (z0s s {data:=#[32]})) {data:=#[105,110]} 0)) (List.map IV.str (z0s s {data:=#[32]})))))) (Qy.a4 (z2z (List.drop 0 (List.take (Int.toNat (zfd (List.map IV.str (z0s s {data:=#[32]})) {data:=#[105,110]} 0)) (List.map IV.str (z0s s {data:=#[32]})))))) (Qy.b4 (z2z (List.drop 0 (List.take (Int.toNat (zfd (List.map IV.str (z0s s {data:=#[32]})) {data:=#[105,110]} 0)) (List.map IV.str (z0s s {data:=#[32]})))))) (Qy.lo (z2z (List.drop 0 (List.take (Int.toNat (zfd (List.map IV.str (z0s s {data:=#[32]})) {data:=#[105,110]} 0)) (List.map IV.str (z0s s {data:=#[32]})))))) (Qy.hi (z2z (List.drop 0 (List.take (Int.toNat (zfd (List.map IV.str (z0s s {data:=#[32]})) {data:=#[105,110]} 0)) (List.map IV.str (z0s s {data:=#[32]})))))) (Qy.ft (z2z (List.drop 0 (List.take (Int.toNat (zfd (List.map IV.str (z0s s {data:=#[32]})) {data:=#[105,110]} 0)) (List.map IV.str (z0s s {data:=#[32]})))))) (Qy.fl (z2z (List.drop 0 (List.take (Int.toNat (zfd (List.map IV.str (z0s s {data:=#[32]})) {data:=#[105,110]} 0)) (List.map IV.str (z0s s {data:=#[32]})))))) (Qy.bu (z2z (List.drop 0 (List.take (Int.toNat (zfd (List.map IV.str (z0s s {data:=#[32]})) {data:=#[105,110]} 0)) (List.map IV.str (z0s s {data:=#[32]}))))))) (z06 0 (kSq (z4x N) (z0j z6j [1,1,1,1,1,1,1,1]) (z30 (z4x N) none [(ResultVar.cell 2 38),(ResultVar.tmp 3),(ResultVar.tmp 4)] [[(.int .i64),(.int .i64),(.int .i64),(.int .i64),(.int .i64),(.int .i64),(.int .i64),(.int .i64),(.int .i64),(.int .i64),(.int .i64),(.int .i64),(.int .i64),(.int .i64),(.int .i64),.bool,(.int .i64)],[(.int .i64)],[.bool]])))) none) none) none)))) none):=by kernel_rfl
theorem zja (N:Nat) (s0:ByteArray) (x3:Int) (b4:Bool) (l5:List IV) (x7 x8:Int) (l45:List IV) (x46 x47 u02 u03 u0a u0b u0c u0d u0e u0f u0g u0h u04 u05 u06 u07 u08:Int) (u00:Bool) (u09 u0i u0j u0q u0r u0s u0t u0u u0v u0w u0x u0k u0l u0m u0n u0o:Int) (u01:Bool) (u0p:Int) (again:St→Res) (k:Out→St→Res):rnd (z4x N) (z0j z6j [1,1,1,1,1,1,1,0,1,0,0]) (z4f s0 x3 b4 l5 x7 x8 l45 x46 x47 u02 u03 u0a u0b u0c u0d u0e u0f u0g u0h u04 u05 u06 u07 u08 u00 u09 u0i u0j u0q u0r u0s u0t u0u u0v u0w u0x u0k u0l u0m u0n u0o u01 u0p) (z3t again ⟨[0,2,3,4,5,7,8,9,45,46,47],[2,9],[]⟩ k)=(cond (decide (x47 < x46)) (cond (decide (0≤x47)&&decide (x47 < ic (List.length l45))) (cond (decide (ByteArray.size (IV.toStr (List.getD l45 (Int.toNat x47) default)) < 4294967281)) (cond (decide (ByteArray.size (cutL (IV.toStr (List.getD l45 (Int.toNat x47) default)) {data:=#[46,46]}) < 4294967281)) (cond (decide (ByteArray.size (zkf (IV.toStr (List.getD l45 (Int.toNat x47) default)) {data:=#[46,46]}) < 4294967281)) (cond (decide (x47=ic 0)) (again (z4f s0 x3 b4 l5 x7 x8 l45 x46 (IntKind.wrap IntKind.i64 (x47+1)) u02 u03 u0a u0b u0c u0d u0e u0f u0g u0h u04 u05 u06 u07 u08 u00 u09 u0i u0j (ziq (cutL (IV.toStr (List.getD l45 (Int.toNat x47) default)) {data:=#[46,46]})) (ziq (zkf (IV.toStr (List.getD l45 (Int.toNat x47) default)) {data:=#[46,46]})) u0s u0t u0u u0v u0w u0x u0k u0l u0m u0n u0o u01 u0p)) (cond (decide (x47=ic 1)) (again (z4f s0 x3 b4 l5 x7 x8 l45 x46 (IntKind.wrap IntKind.i64 (x47+1)) u02 u03 u0a u0b u0c u0d u0e u0f u0g u0h u04 u05 u06 u07 u08 u00 u09 u0i u0j u0q u0r (ziq (cutL (IV.toStr (List.getD l45 (Int.toNat x47) default)) {data:=#[46,46]})) (ziq (zkf (IV.toStr (List.getD l45 (Int.toNat x47) default)) {data:=#[46,46]})) u0u u0v u0w u0x u0k u0l u0m u0n u0o u01 u0p)) (cond (decide (x47=ic 2)) (again (z4f s0 x3 b4 l5 x7 x8 l45 x46 (IntKind.wrap IntKind.i64 (x47+1)) u02 u03 u0a u0b u0c u0d u0e u0f u0g u0h u04 u05 u06 u07 u08 u00 u09 u0i u0j u0q u0r u0s u0t (ziq (cutL (IV.toStr (List.getD l45 (Int.toNat x47) default)) {data:=#[46,46]})) (ziq (zkf (IV.toStr (List.getD l45 (Int.toNat x47) default)) {data:=#[46,46]})) u0w u0x u0k u0l u0m u0n u0o u01 u0p)) (cond (decide (x47=ic 3)) (again (z4f s0 x3 b4 l5 x7 x8 l45 x46 (IntKind.wrap IntKind.i64 (x47+1)) u02 u03 u0a u0b u0c u0d u0e u0f u0g u0h u04 u05 u06 u07 u08 u00 u09 u0i u0j u0q u0r u0s u0t u0u u0v (ziq (cutL (IV.toStr (List.getD l45 (Int.toNat x47) default)) {data:=#[46,46]})) (ziq (zkf (IV.toStr (List.getD l45 (Int.toNat x47) default)) {data:=#[46,46]})) u0k u0l u0m u0n u0o u01 u0p)) (cond (decide (x47=ic 4)) (again (z4f s0 x3 b4 l5 x7 x8 l45 x46 (IntKind.wrap IntKind.i64 (x47+1)) u02 u03 u0a u0b u0c u0d u0e u0f u0g u0h u04 u05 u06 u07 u08 u00 u09 u0i u0j u0q u0r u0s u0t u0u u0v u0w u0x (ziq (cutL (IV.toStr (List.getD l45 (Int.toNat x47) default)) {data:=#[46,46]})) (ziq (zkf (IV.toStr (List.getD l45 (Int.toNat x47) default)) {data:=#[46,46]})) u0m u0n u0o u01 u0p)) none))))) none) none) none) none) (k (.exit 0) (z4f s0 x3 b4 l5 x7 x8 l45 x46 x47 u02 u03 u0a u0b u0c u0d u0e u0f u0g u0h u04 u05 u06 u07 u08 u00 u09 u0i u0j u0q u0r u0s u0t u0u u0v u0w u0x u0k u0l u0m u0n u0o u01 u0p))):=by kernel_rfl
theorem zq0 (N:Nat) (s0:ByteArray) (x3:Int) (b4:Bool) (l5:List IV) (x7 x8:Int) (l45:List IV) (x46 x47 u02 u03 u0a u0b u0c u0d u0e u0f u0g u0h u04 u05 u06 u07 u08:Int) (u00:Bool) (u09 u0i u0j u0q u0r u0s u0t u0u u0v u0w u0x u0k u0l u0m u0n u0o:Int) (u01:Bool) (u0p:Int):(z06 0 (kSq (z4x N) (z0j z6j [1,1,1,1,1,1,1,1]) (z30 (z4x N) none [(ResultVar.cell 2 38),(ResultVar.tmp 3),(ResultVar.tmp 4)] [[(.int .i64),(.int .i64),(.int .i64),(.int .i64),(.int .i64),(.int .i64),(.int .i64),(.int .i64),(.int .i64),(.int .i64),(.int .i64),(.int .i64),(.int .i64),(.int .i64),(.int .i64),.bool,(.int .i64)],[(.int .i64)],[.bool]]))) (.exit 0) (z4f s0 x3 b4 l5 x7 x8 l45 x46 x47 u02 u03 u0a u0b u0c u0d u0e u0f u0g u0h u04 u05 u06 u07 u08 u00 u09 u0i u0j u0q u0r u0s u0t u0u u0v u0w u0x u0k u0l u0m u0n u0o u01 u0p)=(cond (decide (0≤IntKind.wrap IntKind.i64 (x7+1))&&decide (IntKind.wrap IntKind.i64 (x7+1) < ic (List.length l5))) (cond (!ByteArray.toList (y0e {k:=u0i,c:=u0j,a0:=u0q,b0:=u0r,a1:=u0s,b1:=u0t,a2:=u0u,b2:=u0v,a3:=u0w,b3:=u0x,a4:=u0k,b4:=u0l,lo:=u0m,hi:=u0n,ft:=u0o,fl:=u01,bu:=z6t (IV.toStr (List.getD l5 (Int.toNat (IntKind.wrap IntKind.i64 (x7+1))) default))} x8)==ByteArray.toList s0) (some ((.tup [(.agg [(.i 0),(.i 0),(.i 0),(.i 0),(.i 0),(.i 0),(.i 0),(.i 0),(.i 0),(.i 0),(.i 0),(.i 0),(.i 0),(.i 0),(.i 0),(.bool false),(.i 0)]),(.i 0),(.bool false)]),[])) (some ((.tup [(.agg [(.i u0i),(.i u0j),(.i u0q),(.i u0r),(.i u0s),(.i u0t),(.i u0u),(.i u0v),(.i u0w),(.i u0x),(.i u0k),(.i u0l),(.i u0m),(.i u0n),(.i u0o),(.bool u01),(.i (z6t (IV.toStr (List.getD l5 (Int.toNat (IntKind.wrap IntKind.i64 (x7+1))) default))))]),(.i x8),(.bool true)]),[]))) none):=by kernel_rfl
open Go Go.Proofs
theorem yhs (l:List IV):(z2z l).a0=0∧(z2z l).b0=0∧(z2z l).a1=0∧(z2z l).b1=0∧(z2z l).a2=0∧(z2z l).b2=0∧(z2z l).a3=0∧(z2z l).b3=0∧(z2z l).a4=0∧(z2z l).b4=0∧(z2z l).bu=0:=by
 unfold z2z;cases ((wAt l 0).toList==znu.toList) <;> cases ((wAt l 0).toList==zvs.toList) <;> cases ((wAt l 0).toList==zmt.toList||(wAt l 0).toList==zkc.toList) <;> exact ⟨rfl,rfl,rfl,rfl,rfl,rfl,rfl,rfl,rfl,rfl,rfl⟩
def rq (l:List IV) (i d:Nat):Qy:=
 ⟨(
  z2z (l.take i)).k,(z2z (l.take i)).c,
  cond (Nat.blt 0 d) (spA l (i+1)) 0,cond (Nat.blt 0 d) (spB l (i+1)) 0,cond (Nat.blt 1 d) (spA l (i+2)) 0,cond (Nat.blt 1 d) (spB l (i+2)) 0,cond (Nat.blt 2 d) (spA l (i+3)) 0,cond (Nat.blt 2 d) (spB l (i+3)) 0,cond (Nat.blt 3 d) (spA l (i+4)) 0,cond (Nat.blt 3 d) (spB l (i+4)) 0,0,0,
  (z2z (l.take i)).lo,(z2z (l.take i)).hi,(z2z (l.take i)).ft,(z2z (l.take i)).fl,0⟩
theorem ylv (l:List IV) (i:Nat):z2z (l.take i)=rq l i 0:=by
 obtain ⟨h1,h2,h3,h4,h5,h6,h7,h8,h9,h10,h11⟩:=yhs (l.take i);unfold rq;generalize z2z (l.take i)=q at *;cases q;simp only at *;subst h1 h2 h3 h4 h5 h6 h7 h8 h9 h10 h11
 rfl
abbrev stQ (s:ByteArray) (W:List IV) (x7 x8:Int) (L:List IV) (q:Qy) (i:Int):St:=
 ⟨[(0,(.str s)),(2,(.ptr 2 0 0)),(3,(.int .i64 0)),(4,(.bool false)),(5,(.list false [.str] W)),(7,(.int .i64 x7)),(8,(.int .i64 x8)),(9,(.ptr 9 0 0)),(45,(.list false [.str] L)),(46,(.int .i64 (ic L.length))),(47,(.int .i64 i))],[(2,(some (ykq Qy.none))),(9,(some (ykq q)))]⟩
theorem yj1 (w sep:ByteArray) (h:w.size < 4294967281):decide (ByteArray.size w < 4294967281)=true∧decide (ByteArray.size (cutL w sep) < 4294967281)=true∧decide (ByteArray.size (zkf w sep) < 4294967281)=true:=by
 obtain ⟨h1,h2⟩:=y2e w sep;exact ⟨v01 h,v01 (by omega),v01 (by omega)⟩
theorem y4q (N:Nat) (s:ByteArray) (W:List IV) (x7 x8:Int) (L:List IV) (I i:Nat) (hi:i < L.length) (h4:i < 4) (hL:IV.toStr (L.getD i default)=wAt W (I+1+i)) (hw:(wAt W (I+1+i)).size < 4294967281) (again:St→Res) (k:Out→St→Res) :
  rnd (z4x N) (z0j z6j [1,1,1,1,1,1,1,0,1,0,0]) (stQ s W x7 x8 L (rq W I i) (i:Int)) (z3t again ⟨[0,2,3,4,5,7,8,9,45,46,47],[2,9],[]⟩ k)=again (stQ s W x7 x8 L (rq W I (i+1)) ((i+1:Nat):Int)):=by
 refine (zja N s 0 false W x7 x8 L (ic L.length) i 0 0 0 0 0 0 0 0 0 0 0 0 0 0 0 false 0 (rq W I i).k (rq W I i).c (rq W I i).a0 (rq W I i).b0 (rq W I i).a1 (rq W I i).b1 (rq W I i).a2 (rq W I i).b2 (rq W I i).a3 (rq W I i).b3 (rq W I i).a4 (rq W I i).b4 (rq W I i).lo (rq W I i).hi (rq W I i).ft (rq W I i).fl (rq W I i).bu again k).trans ?_;rw [z9k hi,zep,v1c,z00,z00,v0l,hL];obtain ⟨c1,c2,c3⟩:=yj1 (wAt W (I+1+i)) { data:=#[46,46] } hw;rw [c1,c2,c3,z00,z00,z00];have hi4:i=0∨i=1∨i=2∨i=3:=by omega
 rcases hi4 with rfl | rfl | rfl | rfl
 ·rw [show decide (((0:Nat):Int)=ic 0)=true from rfl,z00]
  rfl
 ·rw [show decide (((1:Nat):Int)=ic 0)=false from rfl,show decide (((1:Nat):Int)=ic 1)=true from rfl,z02,z00]
  rfl
 ·rw [show decide (((2:Nat):Int)=ic 0)=false from rfl,show decide (((2:Nat):Int)=ic 1)=false from rfl,show decide (((2:Nat):Int)=ic 2)=true from rfl,z02,z02,z00]
  rfl
 ·rw [show decide (((3:Nat):Int)=ic 0)=false from rfl,show decide (((3:Nat):Int)=ic 1)=false from rfl,show decide (((3:Nat):Int)=ic 2)=false from rfl,show decide (((3:Nat):Int)=ic 3)=true from rfl,z02,z02,z02,z00]
  rfl
theorem y1k (N:Nat) (s:ByteArray) (W:List IV) (x7 x8:Int) (L:List IV) (I:Nat) (h4:L.length≤4) (hL:∀ i,i < L.length→IV.toStr (L.getD i default)=wAt W (I+1+i)) (hw:∀ i,(wAt W i).size < 4294967281) (K:Out→St→Res) :
  ∀ (d i n:Nat),i+d=L.length→d < n →
   lpE (z4x N) (z0j z6j [1,1,1,1,1,1,1,0,1,0,0]) ⟨[0,2,3,4,5,7,8,9,45,46,47],[2,9],[]⟩ n (stQ s W x7 x8 L (rq W I i) (i:Int)) K=K (.exit 0) (stQ s W x7 x8 L (rq W I L.length) (ic L.length))
 | 0,i,n+1,hd,hn=>by
  have hi:i=L.length:=by omega
  subst hi;rw [z05];refine (zja N s 0 false W x7 x8 L (ic L.length) _ 0 0 0 0 0 0 0 0 0 0 0 0 0 0 0 false 0 (rq W I L.length).k (rq W I L.length).c (rq W I L.length).a0 (rq W I L.length).b0 (rq W I L.length).a1 (rq W I L.length).b1 (rq W I L.length).a2 (rq W I L.length).b2 (rq W I L.length).a3 (rq W I L.length).b3 (rq W I L.length).a4 (rq W I L.length).b4 (rq W I L.length).lo (rq W I L.length).hi (rq W I L.length).ft (rq W I L.length).fl (rq W I L.length).bu _ _).trans ?_;rw [zbh (v09 _),z02]
  rfl
 | d+1,i,n+1,hd,hn=>by
  rw [z05,y4q N s W x7 x8 L I i (by omega) (by omega) (hL i (by omega)) (hw _)]
  exact y1k N s W x7 x8 L I h4 hL hw K d (i+1) n (by omega) (by omega)
 | _,_,0,_,h=>by omega
theorem y7o (w:ByteArray):∀ (l:List IV) (k:Int),0≤k→zfd l w k = -1∨(k≤zfd l w k∧zfd l w k < k+(l.length:Int))
 | [],_,_=>.inl rfl
 | x :: l,k,hk=>by
  unfold zfd;cases (w.toList==x.toStr.toList) with
  | true=>rw [z00]; exact .inr ⟨v2x _,by simp only [v05]; omega⟩
  | false=>
   rw [z02];rcases y7o w l (k+1) (by omega) with h | ⟨h1,h2⟩
   ·exact .inl h
   ·exact .inr ⟨by omega,by simp only [v05]; omega⟩
theorem y9a (s:ByteArray) (hs:s.size < 4294967281):(zad s).length≤4294967282∧∀ i,(wAt (zad s) i).size < 4294967281:=by
 have h1:=Lib.splitB_all z4u (by decide) 0 _ s rfl
 have h2:=Lib.countB_le z4u (by decide) s.size s (v09 _)
 refine ⟨?_,fun i=>?_⟩
 ·have e:(zad s).length=Lib.countB s z4u+1:=by
   unfold zad z0s;rw [v12];exact h1
  omega
 ·unfold wAt
  by_cases hi:i < (zad s).length
  ·have:List.getD (zad s) i default=(zad s)[i]:=by simp [hi]
   rw [this];have hm:=v2j hi;unfold zad at hm;obtain ⟨p,hp,hpe⟩:=List.mem_map.1 hm;have hz:=(z97 z4u _ s).2 p hp
   have:((zad s)[i]).toStr=p:=by
    show (List.map IV.str (z0s s z4u))[i].toStr=p;rw [← hpe]
    rfl
   rw [this];omega
  ·have:List.getD (zad s) i default=default:=by simp [List.getD,hi]
   rw [this]
   decide
theorem zzw:z2y PR B0 73 zda:=by
 refine z0i [(18,zd6),(121,z8z),(119,ze7),(120,zap),(118,z2d),(104,z7v),(46,z2p)] [(9,⟨[0,2,3,4,5,7,8,9,45,46,47],[2,9],[]⟩)] zda
  [[.int .i64,.int .i64,.int .i64,.int .i64,.int .i64,.int .i64,.int .i64,.int .i64,.int .i64,.int .i64,.int .i64,.int .i64,.int .i64,.int .i64,.int .i64,.bool,.int .i64],[.int .i64],[.bool]] Tryz.func73 y5c
  ⟨zyv,zlz,y3f,zpd,zc0,zgn,z7t,trivial⟩ ?_
 intro vs r hwf h;unfold zda at h
 split at h
 ·rename_i s
  refine ⟨20,?_⟩;cases hs:decide (s.size < 4294967281) with
  | false=>rw [hs] at h; simp [R.get] at h
  | true=>
   rw [hs,R.get_br,z00,R.get_ok] at h;rw [← h];refine (y13 20 s).trans ?_;have hs':=v0f hs;rw [hs];obtain ⟨hl,hw⟩:=y9a s hs';have eW:List.map IV.str (z0s s { data:=#[32] })=zad s:=rfl;have eI:zfd (zad s) { data:=#[105,110] } 0=zpn s:=rfl;rw [eW,eI,show decide (1≤ByteArray.size { data:=#[32] })=true from rfl,v1c,z00]
   have hr:=y7o ygp (zad s) 0 (v2x _)
   change zpn s = -1∨(0≤zpn s∧zpn s < 0+((zad s).length:Int)) at hr
   have w2:IntKind.wrap IntKind.i64 (ic (List.length (zad s)) - 2)=ic (List.length (zad s)) - 2:=z19 (by simp only [ic]; omega) (by simp only [ic]; omega)
   rw [w2];have wd:IntKind.wrap IntKind.i64 (IntKind.wrap IntKind.i64 (ic (List.length (zad s)) - 2 - zpn s) - 1)=zqr s:=by
    unfold zqr;rw [z19 (n:=ic (List.length (zad s)) - 2 - zpn s) (by simp only [ic]; omega) (by simp only [ic]; omega),z19 (by simp only [ic]; omega) (by simp only [ic]; omega)]
   rw [wd];unfold zkh yi1 y4v;cases h1:decide (zpn s < 0) with
   | true=>simp only [z00,z02,v0c,v0v]; rfl
   | false=>
    cases h2:decide (zqr s < 1) with
    | true=>simp only [z00,z02,v0c,v0h,v0v,v2c]; rfl
    | false=>
     cases h3:decide (zqr s > 4) with
     | true=>simp only [z00,z02,v0c,v0h,v0v,v2c]; rfl
     | false=>
      simp only [z02,v0h,v0r];have h1:=v0s h1;have h2:=v0s h2;have h3:=v0s h3;obtain ⟨I,hI⟩:∃ I:Nat,zpn s=I:=⟨(zpn s).toNat,by omega⟩
      obtain ⟨D,hD⟩:∃ D:Nat,zqr s=D:=⟨(zqr s).toNat,by omega⟩
      have hD1:1≤D:=by omega
      have hD4:D≤4:=by omega
      unfold yhh;have hDd:(D:Int)=((zad s).length:Int) - 2 - I - 1:=by
       rw [← hD,← hI]
       rfl
      rw [hI,hD] at *;generalize zad s=W at *;have wi:IntKind.wrap IntKind.i64 ((I:Int)+1)=((I+1:Nat):Int):=by rw [z19 (by omega) (by omega)]; rfl
      have eb:ic (List.length W) - 2=((W.length - 2:Nat):Int):=by simp only [ic]; omega
      rw [wi,eb];simp only [v0l,v11];have hall:List.all (List.take I W) (fun x=>decide (ByteArray.size (IV.toStr x) < 4294967281))=true:=by
       rw [v3a];intro x hx;obtain ⟨j,hj,rfl⟩:=List.mem_iff_getElem.1 (v2p hx)
       have:=hw j
       unfold wAt at this;have e:List.getD W j default=W[j]:=by simp [hj]
       rw [e] at this;exact v01 this
      rw [hall,v01 (show (0:Int)≤(I:Int) by omega),v01 (show (I:Int)≤ic (List.length W) by simp only [ic]; omega),v01 (show List.length (List.take I W)≤4294967290 by rw [v0j]; omega),
       v01 (show (0:Int)≤((I+1:Nat):Int) by omega),v01 (show ((I+1:Nat):Int)≤((W.length - 2:Nat):Int) by omega),v01 (show ((W.length - 2:Nat):Int)≤ic (List.length W) by simp only [ic]; omega)]
      simp only [v1c,z00];have hLl:(List.drop (I+1) (List.take (W.length - 2) W)).length=D:=by rw [v1j,v0j]; omega
      have hLg:∀ i,i < (List.drop (I+1) (List.take (W.length - 2) W)).length→IV.toStr ((List.drop (I+1) (List.take (W.length - 2) W)).getD i default)=wAt W (I+1+i):=fun i hi=>by
       rw [hLl] at hi;unfold wAt
       congr 1
       simp only [List.getD,v1u,v13];rw [v1f (by omega)]
      rw [ylv W I];have run:=y1k 20 s W ((W.length - 2:Nat):Int) (D:Int) (List.drop (I+1) (List.take (W.length - 2) W)) I (by rw [hLl]; exact hD4) hLg hw (z06 0 (kSq (z4x 20) (z0j z6j [1,1,1,1,1,1,1,1]) (z30 (z4x 20) none [(ResultVar.cell 2 38),(ResultVar.tmp 3),(ResultVar.tmp 4)] [[(.int .i64),(.int .i64),(.int .i64),(.int .i64),(.int .i64),(.int .i64),(.int .i64),(.int .i64),(.int .i64),(.int .i64),(.int .i64),(.int .i64),(.int .i64),(.int .i64),(.int .i64),.bool,(.int .i64)],[(.int .i64)],[.bool]]))) D 0 20 (by rw [hLl]; omega) (by omega)
      refine run.trans ?_;rw [hLl];refine (zq0 20 s 0 false W ((W.length - 2:Nat):Int) (D:Int) (List.drop (I+1) (List.take (W.length - 2) W)) (ic (List.drop (I+1) (List.take (W.length - 2) W)).length) _ 0 0 0 0 0 0 0 0 0 0 0 0 0 0 0 false 0 (rq W I D).k (rq W I D).c (rq W I D).a0 (rq W I D).b0 (rq W I D).a1 (rq W I D).b1 (rq W I D).a2 (rq W I D).b2 (rq W I D).a3 (rq W I D).b3 (rq W I D).a4 (rq W I D).b4 (rq W I D).lo (rq W I D).hi (rq W I D).ft (rq W I D).fl (rq W I D).bu).trans ?_;have e7:IntKind.wrap IntKind.i64 (((W.length - 2:Nat):Int)+1)=((W.length - 1:Nat):Int):=by rw [z19 (by omega) (by omega)]; omega
      rw [e7,v0l,v01 (show (0:Int)≤((W.length - 1:Nat):Int) by omega),v01 (show ((W.length - 1:Nat):Int) < ic (List.length W) by simp only [ic]; omega),v1c,z00]
      have eq:(⟨(rq W I D).k,(rq W I D).c,(rq W I D).a0,(rq W I D).b0,(rq W I D).a1,(rq W I D).b1,(rq W I D).a2,(rq W I D).b2,(rq W I D).a3,(rq W I D).b3,(rq W I D).a4,(rq W I D).b4,(rq W I D).lo,(rq W I D).hi,(rq W I D).ft,(rq W I D).fl,z6t (IV.toStr (List.getD W (W.length - 1) default))⟩:Qy)=ykv W I D:=rfl;rw [eq];cases ((y0e (ykv W I D) (D:Int)).toList==s.toList) with
      | false=>rfl
      | true=>rfl
 ·simp [R.get] at h
open Go
def nm (x:IV) (j:Nat):Nat:=cond (x.cell 0).toBool 0 ((if (x.cell 4).toInt=(j:Int) then 1 else 0)+(if (x.cell 5).toInt=(j:Int) then 1 else 0))
open Go
theorem ztj {w:Int} (h:zau w=true):z7z (z07 w)=w∧zaq (z07 w)=true:=by
 have hn:z07 w=zrg w:=by unfold z07; rw [h]; rfl
 unfold zau at h;simp only [v02,v17,v1g,v1a] at h;rw [hn];refine ⟨h.2,?_⟩;cases hr:zaq (zrg w) with
 | true=>rfl
 | false=>
  have:=h.2
  unfold z7z at this;rw [hr] at this;exact absurd this.symm h.1
def yj3 (d c:Int) (bias ts:List IV):Md:=⟨ylj d,yl5 c,yhv c bias 0,yhv c bias 1,yhv c bias 2,yj0 d c ts⟩
open Go
abbrev z2x:List Kd:=[.bool,.int .i64,.int .i64]
def zcb (x:IV):Bool:=(x.cell 0).toBool
def z1n (x:IV):Int:=(x.cell 1).toInt
def zi2 (x:IV):Int:=(x.cell 2).toInt
def yl8 (x y:IV):Bool:=zcb x==zcb y&&(z1n x==z1n y&&zi2 x==zi2 y)
def y88 (x:IV):Bool:=!(zcb x&&!(z1n x==0&&zi2 x==0))&&(decide (0≤z1n x)&&decide (z1n x≤4))
def zw7 (l:List IV):Bool:=decide (1≤l.length)&&(decide (l.length≤65536)&&l.all y88)
def zbo:z0q
 | [.list true [.bool,.int .i64,.int .i64] l]=>.ok (.bool (zw7 l)) []
 | _=>.no
def zjf:List IV→List IV→Bool
 | [],[]=>true
 | x :: l,y :: m=>yl8 x y&&zjf l m
 | _,_=>false
structure Vd where
 kind:Int
 proof:List IV
 w0:Int
 w1:Int
 w2:Int
 w3:Int
 twin:Int
 spent:Int
def Vd.none:Vd:=⟨0,[],0,0,0,0,0,0⟩
def Vd.V (v:Vd):V:=.agg [.int .i64 v.kind,.list true z2x v.proof,.int .i64 v.w0,.int .i64 v.w1,.int .i64 v.w2,.int .i64 v.w3,.int .i64 v.twin,.int .i64 v.spent]
def Vd.bare (v:Vd):Bool:=v.w0==0&&(v.w1==0&&(v.w2==0&&(v.w3==0&&v.twin==0)))
def Vd.right (v:Vd):Bool:=
 decide (0≤v.spent)&&(decide (v.spent≤65536) &&
  (v.kind==1&&(v.bare&&zw7 v.proof)||(v.kind==2&&v.proof.isEmpty||(v.kind==3||v.kind==4)&&(v.bare&&v.proof.isEmpty))))
def zbd:z0q
 | [.agg [.int .i64 k,.list true [.bool,.int .i64,.int .i64] p,.int .i64 a,.int .i64 b,.int .i64 c,.int .i64 d,.int .i64 t,.int .i64 s]]=>.ok (.bool (Vd.right ⟨k,p,a,b,c,d,t,s⟩)) []
 | _=>.no
def zuw:ByteArray→List IV→ByteArray
 | s,[]=>s
 | s,x :: l=>zuw (s.push 32++z0p x.toInt) l
def z4s (s w:ByteArray) (l:List IV):ByteArray:=(zuw (s++w) l).push 10
def zcq:z0q
 | [.bor [.bld s],.str w,.list false [.int .i64] l]=>.br (decide ((z4s s w l).size≤strMax)) (.ok (.tup []) [[.bld (z4s s w l)]]) .no
 | _=>.no
abbrev zyg:ByteArray:=⟨#[104,111,108,100,115]⟩
abbrev yic:ByteArray:=⟨#[102,97,105,108,115]⟩
abbrev yco:ByteArray:=⟨#[117,110,107,110,111,119,110]⟩
abbrev ygs:ByteArray:=⟨#[119,114,111,110,103]⟩
abbrev ygw:ByteArray:=⟨#[115,117,109]⟩
abbrev yhi:ByteArray:=⟨#[99,117,116]⟩
abbrev zwh:ByteArray:=⟨#[10]⟩
abbrev z3k:ByteArray:=⟨#[]⟩
def z9a:ByteArray→List IV→ByteArray
 | s,[]=>s
 | s,x :: l=>z9a (cond (zcb x) (z4s s ygw []) (z4s s yhi [.int (z1n x),.int (zi2 x)])) l
def za0 (v:Vd):ByteArray:=
 cond v.right
  (cond (v.kind==1) (z9a (z4s z3k zyg [.int v.spent,.int (ic v.proof.length)]) v.proof)
  (cond (v.kind==2) (z4s z3k yic [.int v.spent,.int v.w0,.int v.w1,.int v.w2,.int v.w3,.int v.twin])
  (cond (v.kind==3) (z4s z3k yco [.int v.spent])
  (z4s z3k ygs [.int v.spent]))))
  z3k
def zb0:z0q
 | [.agg [.int .i64 k,.list true [.bool,.int .i64,.int .i64] p,.int .i64 a,.int .i64 b,.int .i64 c,.int .i64 d,.int .i64 t,.int .i64 s]]=>
  .br (decide ((za0 ⟨k,p,a,b,c,d,t,s⟩).size≤strMax)) (.ok (.str (za0 ⟨k,p,a,b,c,d,t,s⟩)) []) .no
 | _=>.no
open Go
def Nd.cs (x:Nd):List FM.V:=[.bool x.lf,.int .i64 x.v,.int .i64 x.f,.int .i64 x.a,.int .i64 x.l,.int .i64 x.r]
def Nd.V (x:Nd):FM.V:=.agg x.cs
def Md.cs (m:Md):List FM.V:=[.int .i64 m.d,.int .i64 m.c,.int .i64 m.b0,.int .i64 m.b1,.int .i64 m.b2,.list true [.int .i64,.list false [.int .u64]] m.ts]
def Md.V (m:Md):FM.V:=.agg m.cs
def Qy.cs (q:Qy):List FM.V:=[.int .i64 q.k,.int .i64 q.c,.int .i64 q.a0,.int .i64 q.b0,.int .i64 q.a1,.int .i64 q.b1,.int .i64 q.a2,.int .i64 q.b2,.int .i64 q.a3,.int .i64 q.b3,.int .i64 q.a4,.int .i64 q.b4,.int .i64 q.lo,.int .i64 q.hi,.int .i64 q.ft,.bool q.fl,.int .i64 q.bu]
def Vd.cs (v:Vd):List FM.V:=[.int .i64 v.kind,.list true [.bool,.int .i64,.int .i64] v.proof,.int .i64 v.w0,.int .i64 v.w1,.int .i64 v.w2,.int .i64 v.w3,.int .i64 v.twin,.int .i64 v.spent]
def Ak.cs (a:Ak):List FM.V:=[.int .i64 a.k,.int .i64 a.c,.int .i64 a.lo,.int .i64 a.size,.int .i64 a.ft,.int .i64 a.bu,.bool a.fl,.list false [.int .i64] a.sp]
def Ak.V (a:Ak):FM.V:=.agg a.cs
structure Sp where
 lo:Int
 hi:Int
def Sp.cs (s:Sp):List FM.V:=[.int .i64 s.lo,.int .i64 s.hi]
def Sp.V (s:Sp):FM.V:=.agg s.cs
structure Bx where
 s0:Sp
 s1:Sp
 s2:Sp
 s3:Sp
 s4:Sp
def Bx.g (b:Bx):Nat→Sp
 | 0=>b.s0
 | 1=>b.s1
 | 2=>b.s2
 | 3=>b.s3
 | _=>b.s4
def Bx.p (b:Bx) (s:Sp):Nat→Bx
 | 0=>⟨s,b.s1,b.s2,b.s3,b.s4⟩
 | 1=>⟨b.s0,s,b.s2,b.s3,b.s4⟩
 | 2=>⟨b.s0,b.s1,s,b.s3,b.s4⟩
 | 3=>⟨b.s0,b.s1,b.s2,s,b.s4⟩
 | _=>⟨b.s0,b.s1,b.s2,b.s3,s⟩
def Bx.cs (b:Bx):List FM.V:=[.int .i64 b.s0.lo,.int .i64 b.s0.hi,.int .i64 b.s1.lo,.int .i64 b.s1.hi,.int .i64 b.s2.lo,.int .i64 b.s2.hi,.int .i64 b.s3.lo,.int .i64 b.s3.hi,.int .i64 b.s4.lo,.int .i64 b.s4.hi]
def Bx.V (b:Bx):FM.V:=.agg b.cs
structure Pt where
 p0:Int
 p1:Int
 p2:Int
 p3:Int
def Pt.cs (p:Pt):List FM.V:=[.int .i64 p.p0,.int .i64 p.p1,.int .i64 p.p2,.int .i64 p.p3]
def Pt.V (p:Pt):FM.V:=.agg p.cs
def Pt.g (p:Pt):Nat→Int
 | 0=>p.p0
 | 1=>p.p1
 | 2=>p.p2
 | _=>p.p3
def spOf?:List FM.V→Option Sp
 | [.int .i64 a,.int .i64 b]=>some ⟨a,b⟩
 | _=>none
def ptOf?:List FM.V→Option Pt
 | [.int .i64 a,.int .i64 b,.int .i64 c,.int .i64 d]=>some ⟨a,b,c,d⟩
 | _=>none
def bxOf?:List FM.V→Option Bx
 | [.int .i64 a0,.int .i64 b0,.int .i64 a1,.int .i64 b1,.int .i64 a2,.int .i64 b2,.int .i64 a3,.int .i64 b3,.int .i64 a4,.int .i64 b4]=>some ⟨⟨a0,b0⟩,⟨a1,b1⟩,⟨a2,b2⟩,⟨a3,b3⟩,⟨a4,b4⟩⟩
 | _=>none
def mdOf?:List FM.V→Option Md
 | [.int .i64 d,.int .i64 c,.int .i64 b0,.int .i64 b1,.int .i64 b2,.list true [.int .i64,.list false [.int .u64]] ts]=>some ⟨d,c,b0,b1,b2,ts⟩
 | _=>none
def qyOf?:List FM.V→Option Qy
 | [.int .i64 k,.int .i64 c,.int .i64 a0,.int .i64 b0,.int .i64 a1,.int .i64 b1,.int .i64 a2,.int .i64 b2,.int .i64 a3,.int .i64 b3,.int .i64 a4,.int .i64 b4,.int .i64 lo,.int .i64 hi,.int .i64 ft,.bool fl,.int .i64 bu]=>
  some ⟨k,c,a0,b0,a1,b1,a2,b2,a3,b3,a4,b4,lo,hi,ft,fl,bu⟩
 | _=>none
def vdOf?:List FM.V→Option Vd
 | [.int .i64 k,.list true [.bool,.int .i64,.int .i64] p,.int .i64 a,.int .i64 b,.int .i64 c,.int .i64 d,.int .i64 t,.int .i64 s]=>some ⟨k,p,a,b,c,d,t,s⟩
 | _=>none
def y0p {α:Type} (of:List FM.V→Option α) (v:FM.V) (k:α→R):R:=
 match v with
 | .agg l=>match of l with | some x=>k x | none=>.no
 | _=>.no
abbrev yf6 (v:FM.V) (k:Sp→R):R:=y0p spOf? v k
abbrev y32 (v:FM.V) (k:Pt→R):R:=y0p ptOf? v k
abbrev zdh (v:FM.V) (k:Bx→R):R:=y0p bxOf? v k
abbrev zf6 (v:FM.V) (k:Md→R):R:=y0p mdOf? v k
abbrev zen (v:FM.V) (k:Qy→R):R:=y0p qyOf? v k
abbrev yju (v:FM.V) (k:Vd→R):R:=y0p vdOf? v k
theorem zef {α:Type} {of:List FM.V→Option α} {v:FM.V} {k:α→R} {z:FM.V × List (List FM.V)} (h:(y0p of v k).get=some z):∃ l x,v = .agg l∧of l=some x∧(k x).get=some z:=by
 unfold y0p at h
 split at h
 ·rename_i l
  split at h
  ·rename_i x hx
   exact ⟨l,x,rfl,hx,h⟩
  ·simp [R.get] at h
 ·simp [R.get] at h
theorem zql {v:FM.V} {k:Sp→R} {z:FM.V × List (List FM.V)} (h:(yf6 v k).get=some z):∃ x:Sp,v=x.V∧(k x).get=some z:=by
 obtain ⟨l,x,rfl,hx,h⟩:=zef h;unfold spOf? at hx
 split at hx
 ·simp only [v00] at hx
  subst hx;exact ⟨_,rfl,h⟩
 ·cases hx
theorem zd3 {v:FM.V} {k:Pt→R} {z:FM.V × List (List FM.V)} (h:(y32 v k).get=some z):∃ x:Pt,v=x.V∧(k x).get=some z:=by
 obtain ⟨l,x,rfl,hx,h⟩:=zef h;unfold ptOf? at hx
 split at hx
 ·simp only [v00] at hx
  subst hx;exact ⟨_,rfl,h⟩
 ·cases hx
theorem z2r {v:FM.V} {k:Bx→R} {z:FM.V × List (List FM.V)} (h:(zdh v k).get=some z):∃ x:Bx,v=x.V∧(k x).get=some z:=by
 obtain ⟨l,x,rfl,hx,h⟩:=zef h;unfold bxOf? at hx
 split at hx
 ·simp only [v00] at hx
  subst hx;exact ⟨_,rfl,h⟩
 ·cases hx
theorem z3n {v:FM.V} {k:Md→R} {z:FM.V × List (List FM.V)} (h:(zf6 v k).get=some z):∃ x:Md,v=x.V∧(k x).get=some z:=by
 obtain ⟨l,x,rfl,hx,h⟩:=zef h;unfold mdOf? at hx
 split at hx
 ·simp only [v00] at hx
  subst hx;exact ⟨_,rfl,h⟩
 ·cases hx
theorem z38 {v:FM.V} {k:Qy→R} {z:FM.V × List (List FM.V)} (h:(zen v k).get=some z):∃ x:Qy,v=x.V∧(k x).get=some z:=by
 obtain ⟨l,x,rfl,hx,h⟩:=zef h;unfold qyOf? at hx
 split at hx
 ·simp only [v00] at hx
  subst hx;exact ⟨_,rfl,h⟩
 ·cases hx
theorem yb5 {v:FM.V} {k:Vd→R} {z:FM.V × List (List FM.V)} (h:(yju v k).get=some z):∃ x:Vd,v=x.V∧(k x).get=some z:=by
 obtain ⟨l,x,rfl,hx,h⟩:=zef h;unfold vdOf? at hx
 split at hx
 ·simp only [v00] at hx
  subst hx;exact ⟨_,rfl,h⟩
 ·cases hx
def Sp.emp (s:Sp):Bool:=decide (s.lo > s.hi)
def Sp.has (s:Sp) (n:Int):Bool:=decide (s.lo≤n)&&decide (n≤s.hi)
def ya6 (lo hi:Int):Sp:=cond (decide (lo > hi)) ⟨1,0⟩ ⟨lo,hi⟩
def Sp.cutL (s:Sp) (a:Int):Sp:=ya6 s.lo (min s.hi a)
def Sp.cutH (s:Sp) (a:Int):Sp:=cond (decide (a≥s.hi)) ⟨1,0⟩ (ya6 (max s.lo (zdj (a+1))) s.hi)
def z92:z0q
 | []=>.ok (.agg [.int .i64 1,.int .i64 0]) []
 | _=>.no
def zh4:z0q
 | [.int .i64 lo,.int .i64 hi]=>.ok (ya6 lo hi).V []
 | _=>.no
def z7o:z0q
 | [s]=>yf6 s fun s=>.ok (.bool (s.emp)) []
 | _=>.no
def zam:z0q
 | [s,.int .i64 n]=>yf6 s fun s=>.ok (.bool (s.has n)) []
 | _=>.no
def zic:z0q
 | [s,.int .i64 n]=>yf6 s fun s=>.ok (.tup [(s.cutL n).V,(s.cutH n).V]) []
 | _=>.no
def Bx.I (b:Bx):IV:=.agg [.int b.s0.lo,.int b.s0.hi,.int b.s1.lo,.int b.s1.hi,.int b.s2.lo,.int b.s2.hi,.int b.s3.lo,.int b.s3.hi,.int b.s4.lo,.int b.s4.hi]
abbrev cI (x:IV) (j:Nat):Int:=(x.cell j).toInt
def bxI (x:IV):Bx:=⟨⟨cI x 0,cI x 1⟩,⟨cI x 2,cI x 3⟩,⟨cI x 4,cI x 5⟩,⟨cI x 6,cI x 7⟩,⟨cI x 8,cI x 9⟩⟩
abbrev zac:List Kd:=[.int .i64,.int .i64,.int .i64,.int .i64,.int .i64,.int .i64,.int .i64,.int .i64,.int .i64,.int .i64]
def Bx.emp (b:Bx):Bool:=b.s0.emp||(b.s1.emp||(b.s2.emp||(b.s3.emp||b.s4.emp)))
def bx0:Bx:=⟨⟨0,0⟩,⟨0,0⟩,⟨0,0⟩,⟨0,0⟩,⟨0,0⟩⟩
def zmk (i:Int):Bool:=decide (0≤i)&&decide (i < 5)
def Bx.cutL (b:Bx) (i a:Int):Bx:=b.p ((b.g i.toNat).cutL a) i.toNat
def Bx.cutH (b:Bx) (i a:Int):Bx:=b.p ((b.g i.toNat).cutH a) i.toNat
def Pt.p (p:Pt) (x:Int):Nat→Pt
 | 0=>⟨x,p.p1,p.p2,p.p3⟩
 | 1=>⟨p.p0,x,p.p2,p.p3⟩
 | 2=>⟨p.p0,p.p1,x,p.p3⟩
 | _=>⟨p.p0,p.p1,p.p2,x⟩
def Bx.low (b:Bx):Pt:=⟨b.s0.lo,b.s1.lo,b.s2.lo,b.s3.lo⟩
def Bx.has (b:Bx) (p:Pt) (t:Int):Bool:=b.s0.has p.p0&&(b.s1.has p.p1&&(b.s2.has p.p2&&(b.s3.has p.p3&&b.s4.has t)))
def z2e:z0q
 | [b]=>zdh b fun b=>.ok (.bool (b.emp)) []
 | _=>.no
def zhe:z0q
 | [b]=>zdh b fun b=>.ok b.low.V []
 | _=>.no
def zh7:z0q
 | [b,p,.int .i64 t]=>zdh b fun b=>y32 p fun p=>.ok (.bool (b.has p t)) []
 | _=>.no
def z7e:z0q
 | [b,.int .i64 i,.int .i64 a]=>zdh b fun b=>.br (zmk i) (.ok (.tup [(b.cutL i a).V,(b.cutH i a).V]) []) .no
 | _=>.no
def zw4 (l:List IV) (p:Pt):Nat→Int→Int × Nd
 | 0,_=>(-1,Nd.zero)
 | n+1,a=>
  cond (decide (a≥ic l.length)) (-1,Nd.zero)
   (cond (!(zau (l.getD a.toNat default).toInt)) (-1,Nd.zero)
    (cond (z07 (l.getD a.toNat default).toInt).lf (a,z07 (l.getD a.toNat default).toInt)
     (cond (decide (p.g (z07 (l.getD a.toNat default).toInt).f.toNat≤(z07 (l.getD a.toNat default).toInt).a)) (zw4 l p n (z07 (l.getD a.toNat default).toInt).l) (zw4 l p n (z07 (l.getD a.toNat default).toInt).r))))
def yle (l:List IV) (p:Pt):Int:=(zw4 l p 31 0).1
def yhb (l:List IV) (p:Pt):Nd:=(zw4 l p 31 0).2
def ze9:z0q
 | [.list false [.int .u64] l,p]=>y32 p fun p=>.ok (.tup [.int .i64 (yle l p),(yhb l p).V]) []
 | _=>.no
def zq6 (l:List IV) (p:Pt):Int:=(yhb l p).v
def zbc:z0q
 | [.list false [.int .u64] l,p]=>y32 p fun p=>.ok (.int .i64 (zq6 l p)) []
 | _=>.no
def zcn (m:Md) (c:Int):Int:=cond (c==0) m.b0 (cond (c==1) m.b1 m.b2)
abbrev yiv (t:IV):Int:=cI t 0
abbrev zdz (t:IV):List IV:=(t.cell 1).toList
def evF (c:Int) (p:Pt):List IV→Int→Int
 | [],s=>s
 | t :: r,s=>evF c p r (cond (yiv t==c) (s+zq6 (zdz t) p) s)
def zc3 (m:Md) (c:Int):Bool:=decide (0≤c)&&decide (c < m.c)
def zbq:z0q
 | [m,.int .i64 k,p]=>zf6 m fun m=>y32 p fun p=>.br (z2b m&&zc3 m k) (.ok (.int .i64 (evF k p m.ts (zcn m k))) []) .no
 | _=>.no
def z6p (m:Md) (k:Int) (p:Pt):Int:=cond (z2b m&&zc3 m k) (evF k p m.ts (zcn m k)) 0
def zbv:z0q
 | [m,.int .i64 k,p]=>zf6 m fun m=>y32 p fun p=>.ok (.int .i64 (z6p m k p)) []
 | _=>.no
def yht (x:Int):List Int→List Int
 | []=>[x]
 | y :: r=>cond (decide (x≤y)) (x :: y :: r) (y :: yht x r)
def zgd:List Int→List Int
 | []=>[]
 | x :: r=>yht x (zgd r)
def y9g:Int→List Int→List Int
 | _,[]=>[]
 | p,x :: r=>cond (x==p) (y9g x r) (x :: y9g x r)
def y3w:List Int→List Int
 | []=>[]
 | x :: r=>x :: y9g x r
def yet (f:Int) (w:IV):List Int:=cond (!(z07 w.toInt).lf&&(z07 w.toInt).f==f) [(z07 w.toInt).a] []
def zdr (ts:List IV) (f:Int):List Int:=ts.flatMap fun t=>(zdz t).flatMap (yet f)
def y6l (ts:List IV) (f:Int):List Int:=y3w (zgd (zdr ts f))
def iZ (l:List Int):List IV:=l.map IV.int
def z5d:z0q
 | [m,.int .i64 f]=>zf6 m fun m=>.br (z2b m) (.ok (.vec 3 false [.int .i64] (iZ (y6l m.ts f))) []) .no
 | _=>.no
def y7m:Ip:=⟨3,false,fun rs l=>match rs with
 | []=>some (iZ (zgd (l.map IV.toInt)))
 | _=>none⟩
def zl7:Ip:=⟨3,true,fun rs l=>match rs with
 | []=>some (iZ (y3w (l.map IV.toInt)))
 | _=>none⟩
def znl (a b:Int) (l:List Int):List Int:=l.filter fun t=>!(decide (t < a)||decide (t≥b))
def zqc:Ip:=⟨3,true,fun rs l=>match rs with
 | [.clo f [.bor [.int .i64 a,.int .i64 b]]]=>cond (Nat.beq f 169) (some (iZ (znl a b (l.map IV.toInt)))) none
 | _=>none⟩
def Qy.bx (q:Qy):Bx:=⟨⟨q.a0,q.b0⟩,⟨q.a1,q.b1⟩,⟨q.a2,q.b2⟩,⟨q.a3,q.b3⟩,⟨q.a4,q.b4⟩⟩
def y85 (d i:Int) (s:Sp):Bool:=!(decide (i≥d)&&!((s.lo==0)&&(s.hi==0)))&&(!s.emp&&(z1u s.lo&&z1u s.hi))
def y08 (b:Bx) (d:Int):Bool:=y85 d 0 b.s0&&(y85 d 1 b.s1&&(y85 d 2 b.s2&&(y85 d 3 b.s3&&y85 d 4 b.s4)))
def z8j:z0q
 | [b,.int .i64 d]=>zdh b fun b=>.ok (.bool (y08 b d)) []
 | _=>.no
def y1w (m:Md) (q:Qy):Bool:=
 cond (q.k==1) (decide (q.lo≤q.hi)&&((q.ft==0)&&!q.fl))
  (cond (q.k==2) (decide (m.c≥2)&&((q.lo==0)&&((q.hi==0)&&((q.ft==0)&&!q.fl))))
   (cond (q.k==3) (decide (q.ft≥0)&&(decide (q.ft < m.d)&&((q.lo==0)&&(q.hi==0)))) false))
def z3f (m:Md) (q:Qy):Bool:=z2b m&&(decide (q.c≥0)&&(decide (q.c < m.c)&&(decide (q.bu≥0)&&(decide (q.bu≤65536)&&(y08 q.bx m.d&&y1w m q)))))
def z5m (q:Qy):Bool:=(q.k==3)&&(decide (q.ft≥0)&&decide (q.ft < 4))
def z9x (q:Qy):Bx:=q.bx.p (cond (z5m q) (q.bx.g q.ft.toNat) ⟨0,0⟩) 4
def z86 (q:Qy) (p:Pt) (t:Int):Pt:=cond (z5m q) (p.p t q.ft.toNat) p
def yfw (m:Md) (q:Qy) (p:Pt) (own:Int):Bool:=(List.range m.c.toNat).any fun c=>!((c:Int)==q.c)&&decide (z6p m (c:Int) p≥own)
def z5u (m:Md) (q:Qy) (p:Pt) (t:Int):Bool:=
 z3f m q &&
  cond (q.k==1) (!(Sp.has ⟨q.lo,q.hi⟩ (z6p m q.c p)))
   (cond (q.k==2) (yfw m q p (z6p m q.c p))
    (cond (decide (p.g q.ft.toNat≥t)) false
     (cond q.fl (decide (z6p m q.c (z86 q p t) > z6p m q.c p)) (decide (z6p m q.c (z86 q p t) < z6p m q.c p)))))
def zfs (n:Nd) (i:Nat) (own:List IV):List IV:=
 cond n.lf own ((own.set n.l.toNat ((bxI (own.getD i default)).cutL n.f n.a).I).set n.r.toNat ((bxI (own.getD i default)).cutH n.f n.a).I)
def pcI (b:Bx) (v:Int):IV:=.agg [.int b.s0.lo,.int b.s0.hi,.int b.s1.lo,.int b.s1.hi,.int b.s2.lo,.int b.s2.hi,.int b.s3.lo,.int b.s3.hi,.int b.s4.lo,.int b.s4.hi,.int v]
abbrev pcV (x:IV):Int:=cI x 10
abbrev zd9:List Kd:=[.int .i64,.int .i64,.int .i64,.int .i64,.int .i64,.int .i64,.int .i64,.int .i64,.int .i64,.int .i64,.int .i64]
def zmr:List IV→Nat→List IV→List IV→List IV
 | [],_,_,out=>out
 | w :: r,i,own,out=>zmr r (i+1) (zfs (z07 w.toInt) i own) (cond ((z07 w.toInt).lf&&!(bxI (own.getD i default)).emp) (out++[pcI (bxI (own.getD i default)) (z07 w.toInt).v]) out)
def z4h (l:List IV) (b:Bx):List IV:=cond (z94 l 4&&!b.emp) (zmr l 0 ((List.replicate l.length bx0.I).set 0 b.I) []) []
def z9z:z0q
 | [.list false [.int .u64] l,b]=>zdh b fun b=>.ok (.list true zd9 (z4h l b)) []
 | _=>.no
def yb1:List IV→Int→Int
 | [],a=>a
 | x :: r,a=>yb1 r (min a (pcV x))
def yb2:List IV→Int→Int
 | [],a=>a
 | x :: r,a=>yb2 r (max a (pcV x))
def yk9 (ps:List IV):Int:=yb1 ps (pcV (ps.getD 0 default))
def yjf (ps:List IV):Int:=yb2 ps (pcV (ps.getD 0 default))
def tOK (l:List IV) (b:Bx):Bool:=!((z4h l b).isEmpty)
def tLo (l:List IV) (b:Bx):Int:=cond (tOK l b) (yk9 (z4h l b)) 0
def tHi (l:List IV) (b:Bx):Int:=cond (tOK l b) (yjf (z4h l b)) 0
def zb8:z0q
 | [.list false [.int .u64] l,b]=>zdh b fun b=>.ok (.tup [.int .i64 (tLo l b),.int .i64 (tHi l b),.bool (tOK l b)]) []
 | _=>.no
def zxv (h:List IV→Int) (c:Int):List IV→Int→Int
 | [],s=>s
 | t :: r,s=>zxv h c r (cond (yiv t==c) (s+h (zdz t)) s)
def sOK (m:Md) (c:Int) (b:Bx):Bool:=z2b m&&(zc3 m c&&!b.emp)
def sLo (m:Md) (c:Int) (b:Bx):Int:=cond (sOK m c b) (zxv (fun l=>tLo l b) c m.ts (zcn m c)) 0
def sHi (m:Md) (c:Int) (b:Bx):Int:=cond (sOK m c b) (zxv (fun l=>tHi l b) c m.ts (zcn m c)) 0
def z6o:z0q
 | [m,.int .i64 k,b]=>zf6 m fun m=>zdh b fun b=>.ok (.tup [.int .i64 (sLo m k b),.int .i64 (sHi m k b),.bool (sOK m k b)]) []
 | _=>.no
def zue (m:Md) (c lo:Int) (b:Bx):Nat→Int→Int→Bool→Int
 | 0,_,a,_=>a
 | n+1,i,a,z=>cond (i==c) (zue m c lo b n (i+1) a z)
  (cond (!z||decide (lo - sHi m i b < a)) (zue m c lo b n (i+1) (lo - sHi m i b) true) (zue m c lo b n (i+1) a z))
def yc8 (m:Md) (c:Int) (b:Bx):Bool:=sOK m c b&&decide (m.c≥2)
def yhq (m:Md) (c:Int) (b:Bx):Int:=cond (yc8 m c b) (zue m c (sLo m c b) b m.c.toNat 0 0 false) 0
def z88:z0q
 | [m,.int .i64 k,b]=>zf6 m fun m=>zdh b fun b=>.ok (.tup [.int .i64 (yhq m k b),.bool (yc8 m k b)]) []
 | _=>.no
def zdy (q:Qy) (b:Bx):Bx:=cond (z5m q) (b.p ⟨0,0⟩ 4) b
def za5 (q:Qy) (b:Bx):Bx:=cond (z5m q) ((b.p b.s4 q.ft.toNat).p ⟨0,0⟩ 4) b
def zgy (q:Qy) (b:Bx):Bool:=z5m q&&(!b.emp&&decide ((b.g q.ft.toNat).lo < b.s4.hi))
def yaf (m:Md) (q:Qy) (b:Bx):Bool:=z5m q&&(sOK m q.c (zdy q b)&&sOK m q.c (za5 q b))
def yid (m:Md) (q:Qy) (b:Bx):Int:=cond (yaf m q b) (sLo m q.c (za5 q b) - sHi m q.c (zdy q b)) 0
def ygt (m:Md) (q:Qy) (b:Bx):Int:=cond (yaf m q b) (sHi m q.c (za5 q b) - sLo m q.c (zdy q b)) 0
def z4e (m:Md) (q:Qy) (b:Bx):Bool:=
 z3f m q &&
  cond b.emp true
   (cond (q.k==1) (sOK m q.c b&&(decide (q.lo≤sLo m q.c b)&&decide (sHi m q.c b≤q.hi)))
    (cond (q.k==2) (yc8 m q.c b&&decide (yhq m q.c b > 0))
     (cond (!(zgy q b)) true
      (cond q.fl (yaf m q b&&decide (ygt m q b≤0)) (yaf m q b&&decide (yid m q b≥0))))))
def zsz (q:Qy) (i:Int):Int:=cond (decide (i≥0)&&decide (i < 4)) i (cond ((i==4)&&(q.k==3)) q.ft (-1))
def zk4 (m:Md) (q:Qy) (b:Bx) (i:Nat):List Int:=
 cond (decide (zsz q (i:Int) < 0)) [] (znl (b.g i).lo (b.g i).hi (y6l m.ts (zsz q (i:Int))))
def spR (m:Md) (q:Qy) (b:Bx):Nat→Nat→Option (Int × Int)
 | 0,_=>none
 | n+1,i=>cond (decide ((zk4 m q b i).length > 0)) (some ((i:Int),(zk4 m q b i).getD (((zk4 m q b i).length - 1) / 2) 0)) (spR m q b n (i+1))
def z2u (m:Md) (q:Qy) (b:Bx):Option (Int × Int):=spR m q b 5 0
def zb1:z0q
 | [m,q]=>zf6 m fun m=>zen q fun q=>.ok (.bool (y1w m q)) []
 | _=>.no
def z2j:z0q
 | [m,q]=>zf6 m fun m=>zen q fun q=>.ok (.bool (z3f m q)) []
 | _=>.no
def z5f:z0q
 | [q]=>zen q fun q=>.ok (.bool (z5m q)) []
 | _=>.no
def z2q:z0q
 | [q]=>zen q fun q=>.ok (.bool (z5m q)) []
 | _=>.no
def z6k:z0q
 | [q]=>zen q fun q=>.ok (z9x q).V []
 | _=>.no
def z8n:z0q
 | [q,p,.int .i64 t]=>zen q fun q=>y32 p fun p=>.ok (z86 q p t).V []
 | _=>.no
def z5i:z0q
 | [m,q,p,.int .i64 t]=>zf6 m fun m=>zen q fun q=>y32 p fun p=>.ok (.bool (z5u m q p t)) []
 | _=>.no
def z8f:z0q
 | [q,b]=>zen q fun q=>zdh b fun b=>.ok (zdy q b).V []
 | _=>.no
def z7m:z0q
 | [q,b]=>zen q fun q=>zdh b fun b=>.ok (za5 q b).V []
 | _=>.no
def z6q:z0q
 | [q,b]=>zen q fun q=>zdh b fun b=>.ok (.bool (zgy q b)) []
 | _=>.no
def z7k:z0q
 | [m,q,b]=>zf6 m fun m=>zen q fun q=>zdh b fun b=>.ok (.tup [.int .i64 (yid m q b),.int .i64 (ygt m q b),.bool (yaf m q b)]) []
 | _=>.no
def z9r:z0q
 | [m,q,b]=>zf6 m fun m=>zen q fun q=>zdh b fun b=>.ok (.bool (z4e m q b)) []
 | _=>.no
def z9v:z0q
 | [b]=>zdh b fun b=>.ok (.tup [b.low.V,.int .i64 b.s4.hi]) []
 | _=>.no
def z8l:z0q
 | [q,.int .i64 i]=>zen q fun q=>.ok (.int .i64 (zsz q i)) []
 | _=>.no
def zcp:z0q
 | [m,q,b,.int .i64 i]=>zf6 m fun m=>zen q fun q=>zdh b fun b=>.br (z2b m&&zmk i) (.ok (.list false [.int .i64] (iZ (zk4 m q b i.toNat))) []) .no
 | _=>.no
def spI (o:Option (Int × Int)):Int:=match o with | none=>0 | some (i,_)=>i
def yc1 (o:Option (Int × Int)):Int:=match o with | none=>0 | some (_,a)=>a
def zbs:z0q
 | [m,q,b]=>zf6 m fun m=>zen q fun q=>zdh b fun b=>.br (z2b m) (.ok (.tup [.int .i64 (spI (z2u m q b)),.int .i64 (yc1 (z2u m q b)),.bool (z2u m q b).isSome]) []) .no
 | _=>.no
structure Sr where
 left:List IV
 proof:List IV
 v:Vd
 spent:Int
def stI (s:Bool) (p a:Int):IV:=.agg [.bool s,.int p,.int a]
def z73 (l:List IV):Bx:=bxI (l.getD (l.length - 1) default)
def zi1 (l:List IV):List IV:=l.take (l.length - 1)
def zgc (m:Md) (q:Qy) (s:Sr):Sr:=
 cond (z4e m q (z73 s.left)) ⟨zi1 s.left,s.proof++[stI true 0 0],cond (ic (s.left.length - 1)==0) ⟨1,s.proof++[stI true 0 0],0,0,0,0,0,0⟩ s.v,s.spent+1⟩
  (cond (z5u m q (z73 s.left).low (z73 s.left).s4.hi) ⟨zi1 s.left,s.proof,⟨2,[],(z73 s.left).s0.lo,(z73 s.left).s1.lo,(z73 s.left).s2.lo,(z73 s.left).s3.lo,(z73 s.left).s4.hi,0⟩,s.spent+1⟩
   (cond (z2u m q (z73 s.left)).isSome
    ⟨zi1 s.left++[((z73 s.left).cutH (spI (z2u m q (z73 s.left))) (yc1 (z2u m q (z73 s.left)))).I,((z73 s.left).cutL (spI (z2u m q (z73 s.left))) (yc1 (z2u m q (z73 s.left)))).I],
     s.proof++[stI false (spI (z2u m q (z73 s.left))) (yc1 (z2u m q (z73 s.left)))],s.v,s.spent+1⟩
    ⟨zi1 s.left,s.proof,⟨3,[],0,0,0,0,0,0⟩,s.spent+1⟩))
def znv (q:Qy) (s:Sr):Bool:=!(s.v.kind==0)||decide (s.spent≥q.bu)
def yil (m:Md) (q:Qy):Nat→Sr→Sr
 | 0,s=>s
 | n+1,s=>cond (znv q s) s (yil m q n (zgc m q s))
def yli (m:Md) (q:Qy):Sr:=cond (z3f m q) ⟨[(z9x q).I],[],Vd.none,0⟩ ⟨[],[],⟨4,[],0,0,0,0,0,0⟩,0⟩
def y2l (s:Sr):Vd:=⟨cond (s.v.kind==0) 3 s.v.kind,s.v.proof,s.v.w0,s.v.w1,s.v.w2,s.v.w3,s.v.twin,s.spent⟩
def yd5 (m:Md) (q:Qy):Vd:=y2l (yil m q (q.bu.toNat+1) (yli m q))
def ze1 (m:Md) (q:Qy) (r:List FM.V):List FM.V:=m.cs++(q.cs++r)
def seOf? (l:List FM.V):Option (Md × Qy × List FM.V):=
 match mdOf? (l.take 6),qyOf? ((l.drop 6).take 17) with
 | some m,some q=>some (m,q,(l.drop 6).drop 17)
 | _,_=>none
abbrev yl1 (l:List IV):FM.V:=.vec 36 true zac l
abbrev ylf (l:List IV):FM.V:=.vec 127 true z2x l
abbrev yf2 (l:List IV):FM.V:=.list true z2x l
def vdT (v:Vd) (vp:FM.V) (sp:Int):List FM.V:=[.int .i64 v.kind,vp,.int .i64 v.w0,.int .i64 v.w1,.int .i64 v.w2,.int .i64 v.w3,.int .i64 v.twin,.int .i64 v.spent,.int .i64 sp]
def srV (t:Nat) (m:Md) (q:Qy) (s:Sr):List FM.V:=
 ze1 m q (match t with
  | 0=>yl1 s.left :: ylf s.proof :: vdT s.v .zs s.spent
  | 1=>yl1 s.left :: .zs :: vdT s.v .zs s.spent
  | 2=>yl1 s.left :: yf2 s.proof :: vdT s.v (yf2 s.v.proof) s.spent
  | _=>.zs :: .zs :: vdT s.v .zs s.spent)
def srT?:List FM.V→Option (Nat × Sr)
 | [.vec 36 true [.int .i64,.int .i64,.int .i64,.int .i64,.int .i64,.int .i64,.int .i64,.int .i64,.int .i64,.int .i64] l,.vec 127 true [.bool,.int .i64,.int .i64] p,.int .i64 k,.zs,.int .i64 a,.int .i64 b,.int .i64 c,.int .i64 d,.int .i64 t,.int .i64 vs,.int .i64 sp]=>some (0,⟨l,p,⟨k,[],a,b,c,d,t,vs⟩,sp⟩)
 | [.vec 36 true [.int .i64,.int .i64,.int .i64,.int .i64,.int .i64,.int .i64,.int .i64,.int .i64,.int .i64,.int .i64] l,.zs,.int .i64 k,.zs,.int .i64 a,.int .i64 b,.int .i64 c,.int .i64 d,.int .i64 t,.int .i64 vs,.int .i64 sp]=>some (1,⟨l,[],⟨k,[],a,b,c,d,t,vs⟩,sp⟩)
 | [.vec 36 true [.int .i64,.int .i64,.int .i64,.int .i64,.int .i64,.int .i64,.int .i64,.int .i64,.int .i64,.int .i64] l,.list true [.bool,.int .i64,.int .i64] p,.int .i64 k,.list true [.bool,.int .i64,.int .i64] vp,.int .i64 a,.int .i64 b,.int .i64 c,.int .i64 d,.int .i64 t,.int .i64 vs,.int .i64 sp]=>some (2,⟨l,p,⟨k,vp,a,b,c,d,t,vs⟩,sp⟩)
 | [.zs,.zs,.int .i64 k,.zs,.int .i64 a,.int .i64 b,.int .i64 c,.int .i64 d,.int .i64 t,.int .i64 vs,.int .i64 sp]=>some (3,⟨[],[],⟨k,[],a,b,c,d,t,vs⟩,sp⟩)
 | _=>none
def y7p (v:FM.V) (k:Nat→Md→Qy→Sr→R):R:=
 match v with
 | .bor l=>match seOf? l with
  | some (m,q,r)=>match srT? r with
   | some (t,s)=>k t m q s
   | none=>.no
  | none=>.no
 | _=>.no
def yev (m:Md) (q:Qy) (t:Nat) (s:Sr):Nat:=
 cond (z4e m q (z73 s.left)) (cond (ic (s.left.length - 1)==0) 2 0)
  (cond (z5u m q (z73 s.left).low (z73 s.left).s4.hi) t (cond (z2u m q (z73 s.left)).isSome 0 t))
def zb3:z0q
 | [m,q]=>zf6 m fun m=>zen q fun q=>.br (z3f m q) (.ok (.bor (srV 1 m q ⟨[(z9x q).I],[],Vd.none,0⟩)) []) (.ok (.bor (srV 3 m q ⟨[],[],⟨4,[],0,0,0,0,0,0⟩,0⟩)) [])
 | _=>.no
def z45:z0q
 | [x]=>y7p x fun t m q s=>
  .br (znv q s) (.ok (.bool false) [srV t m q s])
   (.br (Nat.ble t 1&&(z3f m q&&(decide (0≤s.spent)&&(Nat.blt 0 s.left.length&&(Nat.ble s.left.length 100000&&Nat.ble s.proof.length 100000)))))
    (.br (z4e m q (z73 s.left)) (.br (ic (s.left.length - 1)==0) (.ok (.bool true) [srV 2 m q (zgc m q s)]) (.ok (.bool true) [srV 0 m q (zgc m q s)]))
     (.br (z5u m q (z73 s.left).low (z73 s.left).s4.hi) (.ok (.bool true) [srV t m q (zgc m q s)])
      (.br (z2u m q (z73 s.left)).isSome (.ok (.bool true) [srV 0 m q (zgc m q s)]) (.ok (.bool true) [srV t m q (zgc m q s)])))) .no)
 | _=>.no
def z3b:z0q
 | [x]=>y7p x fun t m q s=>.br (Nat.ble s.v.proof.length 100000) (.ok (y2l s).V [srV t m q s]) .no
 | _=>.no
def zb6:z0q
 | [m,q]=>zf6 m fun m=>zen q fun q=>.ok (yd5 m q).V []
 | _=>.no
def z2s:z0q
 | [.list true [.bool,.int .i64,.int .i64] l]=>.br (Nat.ble l.length 100000) (.ok (.vec 127 true z2x l) []) .no
 | _=>.no
open Go Go.Proofs
def y60 (N:Nat):Env:=mkE [] [] 2 N
theorem y2q (N:Nat):z11 (y60 N) zrz [.cell 0 34] [[.int .i64,.int .i64]] []=(some ((.agg [(.i 1),(.i 0)]),[])):=by kernel_rfl
def ybp (N:Nat):Env:=mkE [(194,z92)] [] 12 N
theorem y9n (N:Nat) (lo hi:Int):z11 (ybp N) y2n [.cell 4 34] [[.int .i64,.int .i64]] [(.i lo),(.i hi)]=(cond (decide (lo > hi)) (some ((.agg [(.i 1),(.i 0)]),[])) (some ((.agg [(.i lo),(.i hi)]),[]))):=by kernel_rfl
def y1o (N:Nat):Env:=mkE [] [] 8 N
theorem zxr (N:Nat) (s:Sp):z11 (y1o N) zoq [.tmp 2] [[.bool]] [(Sp.V s)]=(some ((.bool (decide (Sp.lo s > Sp.hi s))),[])):=by kernel_rfl
def yan (N:Nat):Env:=mkE [] [] 15 N
theorem y5y (N:Nat) (s:Sp) (n:Int):z11 (yan N) zvr [.tmp 4] [[.bool]] [(Sp.V s),(.i n)]=(cond (decide (Sp.lo s≤n)) (some ((.bool (decide (n≤Sp.hi s))),[])) (some ((.bool false),[]))):=by kernel_rfl
def y9w (N:Nat):Env:=mkE [(194,z92),(193,zh4)] [] 29 N
theorem y5u (N:Nat) (s:Sp) (atv:Int):z11 (y9w N) zvy [.cell 4 34,.cell 5 34] [[.int .i64,.int .i64],[.int .i64,.int .i64]] [(Sp.V s),(.i atv)]=(cond (decide (atv≥Sp.hi s)) (some ((.tup [(Sp.V (ya6 (Sp.lo s) (min (Sp.hi s) atv))),(.agg [(.i 1),(.i 0)])]),[])) (some ((.tup [(Sp.V (ya6 (Sp.lo s) (min (Sp.hi s) atv))),(Sp.V (ya6 (max (Sp.lo s) (IntKind.wrap IntKind.i64 (atv+1))) (Sp.hi s)))]),[]))):=by kernel_rfl
def z2o (N:Nat):Env:=mkE [(55,z1y)] [(3,⟨[0,3,4,5,6,9],[3,5],[]⟩)] 46 N
abbrev z2c (p:Pt) (l0:List IV) (x4 x6 x9:Int) (u00:Bool) (u01 u02 u03 u04 u05:Int):St:=⟨[(0,(.list false [(.int .u64)] l0)),(3,(.ptr 3 0 0)),(4,(.i x4)),(5,(.ptr 5 0 0)),(6,(.i x6)),(9,(.i x9))],[(3,(some (.box (Pt.cs p)))),(5,(some (.box [(.bool u00),(.i u01),(.i u02),(.i u03),(.i u04),(.i u05)])))]⟩
theorem y52 (N:Nat) (l:List IV) (p:Pt):z11 (z2o N) z4r [.tmp 4,.cell 5 111] [[.int .i64],[.bool,.int .i64,.int .i64,.int .i64,.int .i64,.int .i64]] [(.list false [.int .u64] l),(Pt.V p)]=(lpE (z2o N) (z0j z4r [1,1,0,1,0,0]) ⟨[0,3,4,5,6,9],[3,5],[]⟩ N (z2c p l 0 0 0 false 0 0 0 0 0) (z06 0 (kSq (z2o N) (z0j z4r [1,1,1]) (z30 (z2o N) none [(ResultVar.tmp 4),(ResultVar.cell 5 111)] [[(.int .i64)],[.bool,(.int .i64),(.int .i64),(.int .i64),(.int .i64),(.int .i64)]])))):=by kernel_rfl
theorem zll (N:Nat) (p:Pt) (l0:List IV) (x4 x6 x9:Int) (u00:Bool) (u01 u02 u03 u04 u05:Int) (again:St→Res) (k:Out→St→Res):rnd (z2o N) (z0j z4r [1,1,0,1,0,0]) (z2c p l0 x4 x6 x9 u00 u01 u02 u03 u04 u05) (z3t again ⟨[0,3,4,5,6,9],[3,5],[]⟩ k)=(cond (decide (x9 < 31)) (cond (decide (x6≥ic (List.length l0))) (k (.exit 0) (z2c p l0 x4 x6 x9 u00 u01 u02 u03 u04 u05)) (cond (decide (0≤x6)&&decide (x6 < ic (List.length l0))) (cond (!zau (IV.toInt (List.getD l0 (Int.toNat x6) default))) (k .ret (z2c p l0 (-1) x6 x9 false 0 0 0 0 0)) (cond (Nd.lf (z07 (IV.toInt (List.getD l0 (Int.toNat x6) default)))) (k .ret ⟨[(0,(.list false [(.int .u64)] l0)),(3,(.ptr 3 0 0)),(4,(.i x6)),(5,(.ptr 5 0 0)),(6,(.i x6)),(9,(.i x9))],[(3,(some (.box (Pt.cs p)))),(5,(some (.box (Nd.cs (z07 (IV.toInt (List.getD l0 (Int.toNat x6) default)))))))]⟩) (cond (decide (Nd.f (z07 (IV.toInt (List.getD l0 (Int.toNat x6) default)))=ic 0)) (cond (decide (Pt.p0 p≤Nd.a (z07 (IV.toInt (List.getD l0 (Int.toNat x6) default))))) (again (z2c p l0 x4 (Nd.l (z07 (IV.toInt (List.getD l0 (Int.toNat x6) default)))) (IntKind.wrap IntKind.i64 (x9+1)) u00 u01 u02 u03 u04 u05)) (again (z2c p l0 x4 (Nd.r (z07 (IV.toInt (List.getD l0 (Int.toNat x6) default)))) (IntKind.wrap IntKind.i64 (x9+1)) u00 u01 u02 u03 u04 u05))) (cond (decide (Nd.f (z07 (IV.toInt (List.getD l0 (Int.toNat x6) default)))=ic 1)) (cond (decide (Pt.p1 p≤Nd.a (z07 (IV.toInt (List.getD l0 (Int.toNat x6) default))))) (again (z2c p l0 x4 (Nd.l (z07 (IV.toInt (List.getD l0 (Int.toNat x6) default)))) (IntKind.wrap IntKind.i64 (x9+1)) u00 u01 u02 u03 u04 u05)) (again (z2c p l0 x4 (Nd.r (z07 (IV.toInt (List.getD l0 (Int.toNat x6) default)))) (IntKind.wrap IntKind.i64 (x9+1)) u00 u01 u02 u03 u04 u05))) (cond (decide (Nd.f (z07 (IV.toInt (List.getD l0 (Int.toNat x6) default)))=ic 2)) (cond (decide (Pt.p2 p≤Nd.a (z07 (IV.toInt (List.getD l0 (Int.toNat x6) default))))) (again (z2c p l0 x4 (Nd.l (z07 (IV.toInt (List.getD l0 (Int.toNat x6) default)))) (IntKind.wrap IntKind.i64 (x9+1)) u00 u01 u02 u03 u04 u05)) (again (z2c p l0 x4 (Nd.r (z07 (IV.toInt (List.getD l0 (Int.toNat x6) default)))) (IntKind.wrap IntKind.i64 (x9+1)) u00 u01 u02 u03 u04 u05))) (cond (decide (Nd.f (z07 (IV.toInt (List.getD l0 (Int.toNat x6) default)))=ic 3)) (cond (decide (Pt.p3 p≤Nd.a (z07 (IV.toInt (List.getD l0 (Int.toNat x6) default))))) (again (z2c p l0 x4 (Nd.l (z07 (IV.toInt (List.getD l0 (Int.toNat x6) default)))) (IntKind.wrap IntKind.i64 (x9+1)) u00 u01 u02 u03 u04 u05)) (again (z2c p l0 x4 (Nd.r (z07 (IV.toInt (List.getD l0 (Int.toNat x6) default)))) (IntKind.wrap IntKind.i64 (x9+1)) u00 u01 u02 u03 u04 u05))) none)))))) none)) (k (.exit 0) (z2c p l0 x4 x6 x9 u00 u01 u02 u03 u04 u05))):=by kernel_rfl
theorem zhj (N:Nat) (p:Pt) (l0:List IV) (x4 x6 x9:Int) (u00:Bool) (u01 u02 u03 u04 u05:Int):(z06 0 (kSq (z2o N) (z0j z4r [1,1,1]) (z30 (z2o N) none [(ResultVar.tmp 4),(ResultVar.cell 5 111)] [[(.int .i64)],[.bool,(.int .i64),(.int .i64),(.int .i64),(.int .i64),(.int .i64)]]))) (.exit 0) (z2c p l0 x4 x6 x9 u00 u01 u02 u03 u04 u05)=(some ((.tup [(.i (-1)),(.agg [(.bool false),(.i 0),(.i 0),(.i 0),(.i 0),(.i 0)])]),[])):=by kernel_rfl
theorem zrw (N:Nat) (p:Pt) (l0:List IV) (x4 x6 x9:Int) (u00:Bool) (u01 u02 u03 u04 u05:Int):(z06 0 (kSq (z2o N) (z0j z4r [1,1,1]) (z30 (z2o N) none [(ResultVar.tmp 4),(ResultVar.cell 5 111)] [[(.int .i64)],[.bool,(.int .i64),(.int .i64),(.int .i64),(.int .i64),(.int .i64)]]))) .ret (z2c p l0 x4 x6 x9 u00 u01 u02 u03 u04 u05)=(some ((.tup [(.i x4),(.agg [(.bool u00),(.i u01),(.i u02),(.i u03),(.i u04),(.i u05)])]),[])):=by kernel_rfl
def y3a (N:Nat):Env:=mkE [(217,ze9)] [] 15 N
theorem zyf (N:Nat) (l:List IV) (p:Pt):z11 (y3a N) zp8 [.tmp 4] [[.int .i64]] [(.list false [.int .u64] l),(Pt.V p)]=(some ((.i (Nd.v (yhb l p))),[])):=by kernel_rfl
def z29 (N:Nat):Env:=mkE [(195,zbc)] [(3,⟨[1,5,6,7,15,16,17],[5],[]⟩)] 33 N
abbrev z4o (p:Pt) (x1 x6 x7:Int) (l15:List IV) (x16 x17:Int):St:=⟨[(1,(.i x1)),(5,(.ptr 5 0 0)),(6,(.i x6)),(7,(.i x7)),(15,(.list true zjw l15)),(16,(.i x16)),(17,(.i x17))],[(5,(some (.box (Pt.cs p))))]⟩
theorem zzm (N:Nat) (m:Md) (u00:Int) (p:Pt):z11 (z29 N) z3g [.tmp 6] [[.int .i64]] [(Md.V m),(.i u00),(Pt.V p)]=(cond (decide (u00=ic 0)) (lpE (z29 N) (z0j z3g [1,1,0,1,0,0]) ⟨[1,5,6,7,15,16,17],[5],[]⟩ N (z4o p u00 0 (Md.b0 m) (Md.ts m) (ic (List.length (Md.ts m))) 0) (z06 0 (kSq (z29 N) (z0j z3g [1,1,1]) (z30 (z29 N) none [(ResultVar.tmp 6)] [[(.int .i64)]])))) (cond (decide (u00=ic 1)) (lpE (z29 N) (z0j z3g [1,1,0,1,0,0]) ⟨[1,5,6,7,15,16,17],[5],[]⟩ N (z4o p u00 0 (Md.b1 m) (Md.ts m) (ic (List.length (Md.ts m))) 0) (z06 0 (kSq (z29 N) (z0j z3g [1,1,1]) (z30 (z29 N) none [(ResultVar.tmp 6)] [[(.int .i64)]])))) (cond (decide (u00=ic 2)) (lpE (z29 N) (z0j z3g [1,1,0,1,0,0]) ⟨[1,5,6,7,15,16,17],[5],[]⟩ N (z4o p u00 0 (Md.b2 m) (Md.ts m) (ic (List.length (Md.ts m))) 0) (z06 0 (kSq (z29 N) (z0j z3g [1,1,1]) (z30 (z29 N) none [(ResultVar.tmp 6)] [[(.int .i64)]])))) none))):=by kernel_rfl
theorem zgq (N:Nat) (p:Pt) (x1 x6 x7:Int) (l15:List IV) (x16 x17:Int) (again:St→Res) (k:Out→St→Res):rnd (z29 N) (z0j z3g [1,1,0,1,0,0]) (z4o p x1 x6 x7 l15 x16 x17) (z3t again ⟨[1,5,6,7,15,16,17],[5],[]⟩ k)=(cond (decide (x17 < x16)) (cond (decide (0≤x17)&&decide (x17 < ic (List.length l15))) (cond (IV.toInt (IV.cell (List.getD l15 (Int.toNat x17) default) 0)==x1) (again (z4o p x1 x6 (IntKind.wrap IntKind.i64 (x7+zq6 (IV.toList (IV.cell (List.getD l15 (Int.toNat x17) default) 1)) p)) l15 x16 (IntKind.wrap IntKind.i64 (x17+1)))) (again (z4o p x1 x6 x7 l15 x16 (IntKind.wrap IntKind.i64 (x17+1))))) none) (k (.exit 0) (z4o p x1 x6 x7 l15 x16 x17))):=by kernel_rfl
theorem zny (N:Nat) (p:Pt) (x1 x6 x7:Int) (l15:List IV) (x16 x17:Int):(z06 0 (kSq (z29 N) (z0j z3g [1,1,1]) (z30 (z29 N) none [(ResultVar.tmp 6)] [[(.int .i64)]]))) (.exit 0) (z4o p x1 x6 x7 l15 x16 x17)=(some ((.i x7),[])):=by kernel_rfl
def y3e (N:Nat):Env:=mkE [(53,z1z),(159,zbq)] [] 24 N
theorem zzd (N:Nat) (m:Md) (u00:Int) (p:Pt):z11 (y3e N) zpf [.tmp 6] [[.int .i64]] [(Md.V m),(.i u00),(Pt.V p)]=(cond (!z2b m) (some ((.i 0),[])) (cond (decide (u00 < 0)) (some ((.i 0),[])) (cond (decide (u00≥Md.c m)) (some ((.i 0),[])) (cond (z2b m&&zc3 m u00) (some ((.i (evF u00 p (Md.ts m) (zcn m u00))),[])) none)))):=by kernel_rfl
def y4x (N:Nat):Env:=mkE [(155,z7o)] [(2,⟨[2,5,6],[],[]⟩)] 12 N
def ydr (N:Nat):Env:=mkE [] [(3,⟨[1,2,3,5],[1,2,3],[]⟩)] 16 N
open Go Go.Proofs
def z16 (N:Nat):Env:=mkI [(53,z1z),(55,z1y)] [(202,zl7),(201,y7m)] [(5,⟨[1,4,5,16,17,18],[500],[⟨.tmp 5,500,3,false,[.int .i64]⟩]⟩),(8,⟨[1,4,5,16,17,18,23,24,25],[500],[⟨.tmp 5,500,3,false,[.int .i64]⟩]⟩)] 54 N
abbrev z4a (x1:Int) (n5:Nat) (l16:List IV) (x17 x18:Int) (u00:List IV):St:=⟨[(1,(.i x1)),(4,.zs),(5,(.row 500 0 n5)),(16,(.list true zjw l16)),(17,(.i x17)),(18,(.i x18))],[(500,(some (.row true 3 false [(.int .i64)] u00)))]⟩
abbrev z2m (x1:Int) (n5:Nat) (l16:List IV) (x17 x18:Int) (l23:List IV) (x24 x25:Int) (u00:List IV):St:=⟨[(1,(.i x1)),(4,.zs),(5,(.row 500 0 n5)),(16,(.list true zjw l16)),(17,(.i x17)),(18,(.i x18)),(23,(.list false [(.int .u64)] l23)),(24,(.i x24)),(25,(.i x25))],[(500,(some (.row true 3 false [(.int .i64)] u00)))]⟩
theorem zk3 (N:Nat) (m:Md) (u00:Int):z11 (z16 N) z1d [.tmp 4] [] [(Md.V m),(.i u00)]=(cond (!z2b m) (some (.any,[])) (lpE (z16 N) (z0j z1d [1,1,1,0,1,0,0]) ⟨[1,4,5,16,17,18],[500],[⟨(.tmp 5),500,3,false,[(.int .i64)]⟩]⟩ N (z4a u00 0 (Md.ts m) (ic (List.length (Md.ts m))) 0 []) (z06 0 (kSq (z16 N) (z0j z1d [1,1,1,1]) (z30 (z16 N) none [(ResultVar.tmp 4)] []))))):=by kernel_rfl
theorem zbp (N:Nat) (x1:Int) (n5:Nat) (l16:List IV) (x17 x18:Int) (u00:List IV) (again:St→Res) (k:Out→St→Res):rnd (z16 N) (z0j z1d [1,1,1,0,1,0,0]) (z4a x1 n5 l16 x17 x18 u00) (z3t again ⟨[1,4,5,16,17,18],[500],[⟨(.tmp 5),500,3,false,[(.int .i64)]⟩]⟩ k)=(cond (decide (x18 < x17)) (cond (decide (0≤x18)&&decide (x18 < ic (List.length l16))) (lpE (z16 N) (z0j z1d [1,1,1,0,1,0,0,1,1,0,0,1,1,0,0]) ⟨[1,4,5,16,17,18,23,24,25],[500],[⟨(.tmp 5),500,3,false,[(.int .i64)]⟩]⟩ N (z2m x1 n5 l16 x17 x18 (IV.toList (IV.cell (List.getD l16 (Int.toNat x18) default) 1)) (ic (List.length (IV.toList (IV.cell (List.getD l16 (Int.toNat x18) default) 1)))) 0 u00) (z06 2 (z06 1 (kSq (z16 N) (z0j z1d [1,1,1,0,1,0,0,1,1,1]) (z3t again ⟨[1,4,5,16,17,18],[500],[⟨(.tmp 5),500,3,false,[(.int .i64)]⟩]⟩ k))))) none) (k (.exit 0) (z4a x1 n5 l16 x17 x18 u00))):=by kernel_rfl
theorem zbt (N:Nat) (x1:Int) (n5:Nat) (l16:List IV) (x17 x18:Int) (l23:List IV) (x24 x25:Int) (u00:List IV) (again:St→Res) (k:Out→St→Res):rnd (z16 N) (z0j z1d [1,1,1,0,1,0,0,1,1,0,0,1,1,0,0]) (z2m x1 n5 l16 x17 x18 l23 x24 x25 u00) (z3t again ⟨[1,4,5,16,17,18,23,24,25],[500],[⟨(.tmp 5),500,3,false,[(.int .i64)]⟩]⟩ k)=(cond (decide (x25 < x24)) (cond (decide (0≤x25)&&decide (x25 < ic (List.length l23))) (cond (!Nd.lf (z07 (IV.toInt (List.getD l23 (Int.toNat x25) default)))) (cond (Nd.f (z07 (IV.toInt (List.getD l23 (Int.toNat x25) default)))==x1) (cond (decide ((n5+1)*8≤z0c)) (again (z2m x1 (n5+1) l16 x17 x18 l23 x24 (IntKind.wrap IntKind.i64 (x25+1)) (List.take n5 u00++[IV.int (Nd.a (z07 (IV.toInt (List.getD l23 (Int.toNat x25) default))))]))) none) (again (z2m x1 n5 l16 x17 x18 l23 x24 (IntKind.wrap IntKind.i64 (x25+1)) u00))) (again (z2m x1 n5 l16 x17 x18 l23 x24 (IntKind.wrap IntKind.i64 (x25+1)) u00))) none) (k (.exit 2) (z2m x1 n5 l16 x17 x18 l23 x24 x25 u00))):=by kernel_rfl
theorem zey (N:Nat) (x1:Int) (n5:Nat) (l16:List IV) (x17 x18:Int) (u00:List IV):(z06 0 (kSq (z16 N) (z0j z1d [1,1,1,1]) (z30 (z16 N) none [(ResultVar.tmp 4)] []))) (.exit 0) (z4a x1 n5 l16 x17 x18 u00)=(cond (Nat.beq n5 (List.length u00)) (cond (Nat.beq (List.length (iZ (zgd (List.map IV.toInt u00)))) (List.length u00)) (cond (Nat.beq n5 (List.length (iZ (zgd (List.map IV.toInt u00))))) (cond (Nat.ble (List.length (iZ (y3w (List.map IV.toInt (iZ (zgd (List.map IV.toInt u00))))))) (List.length (iZ (zgd (List.map IV.toInt u00))))) (some ((.vec 3 false [(.int .i64)] (List.take (List.length (iZ (y3w (List.map IV.toInt (iZ (zgd (List.map IV.toInt u00))))))) (iZ (y3w (List.map IV.toInt (iZ (zgd (List.map IV.toInt u00)))))))),[])) none) none) none) none):=by kernel_rfl
theorem zfk (N:Nat) (again:St→Res) (k:Out→St→Res) (x1:Int) (n5:Nat) (l16:List IV) (x17 x18:Int) (l23:List IV) (x24 x25:Int) (u00:List IV):(z06 2 (z06 1 (kSq (z16 N) (z0j z1d [1,1,1,0,1,0,0,1,1,1]) (z3t again ⟨[1,4,5,16,17,18],[500],[⟨(.tmp 5),500,3,false,[(.int .i64)]⟩]⟩ k)))) (.exit 2) (z2m x1 n5 l16 x17 x18 l23 x24 x25 u00)=(again (z4a x1 n5 l16 x17 (IntKind.wrap IntKind.i64 (x18+1)) u00)):=by kernel_rfl
def zve (N:Nat):Env:=mkE [] [] 23 N
theorem zqs (N:Nat) (q:Qy) (u00:Int):z11 (zve N) zis [.tmp 4] [[.int .i64]] [(Qy.V q),(.i u00)]=(cond (decide (u00≥0)) (cond (decide (u00 < 4)) (some ((.i u00),[])) (cond (u00==4) (cond (Qy.k q==3) (some ((.i (Qy.ft q)),[])) (some ((.i (-1)),[]))) (some ((.i (-1)),[])))) (cond (u00==4) (cond (Qy.k q==3) (some ((.i (Qy.ft q)),[])) (some ((.i (-1)),[]))) (some ((.i (-1)),[])))):=by kernel_rfl
def zr6 (N:Nat):Env:=mkI [(166,z8l),(168,z5d)] [(167,zqc)] [] 24 N
def y2k (N:Nat):Env:=mkE [] [] 71 N
theorem zxf (N:Nat) (m:Md) (a1:Qy):z11 (y2k N) zp9 [.tmp 4] [[.bool]] [(Md.V m),(Qy.V a1)]=(cond (Qy.k a1==1) (cond (decide (Qy.lo a1≤Qy.hi a1)) (cond (Qy.ft a1==0) (some ((.bool (!Qy.fl a1)),[])) (some ((.bool false),[]))) (some ((.bool false),[]))) (cond (Qy.k a1==2) (cond (decide (Md.c m≥2)) (cond (Qy.lo a1==0) (cond (Qy.hi a1==0) (cond (Qy.ft a1==0) (some ((.bool (!Qy.fl a1)),[])) (some ((.bool false),[]))) (some ((.bool false),[]))) (some ((.bool false),[]))) (some ((.bool false),[]))) (cond (Qy.k a1==3) (cond (decide (Qy.ft a1≥0)) (cond (decide (Qy.ft a1 < Md.d m)) (cond (Qy.lo a1==0) (some ((.bool (Qy.hi a1==0)),[])) (some ((.bool false),[]))) (some ((.bool false),[]))) (some ((.bool false),[]))) (some ((.bool false),[]))))):=by kernel_rfl
def zzf (N:Nat):Env:=mkE [(53,z1z),(108,zb1),(107,z8j)] [] 41 N
theorem zua (N:Nat) (m:Md) (q:Qy):z11 (zzf N) zm6 [.tmp 4] [[.bool]] [(Md.V m),(Qy.V q)]=(cond (z2b m) (cond (decide (Qy.c q≥0)) (cond (decide (Qy.c q < Md.c m)) (cond (decide (Qy.bu q≥0)) (cond (decide (Qy.bu q≤65536)) (cond (y08 {s0:={lo:=Qy.a0 q,hi:=Qy.b0 q},s1:={lo:=Qy.a1 q,hi:=Qy.b1 q},s2:={lo:=Qy.a2 q,hi:=Qy.b2 q},s3:={lo:=Qy.a3 q,hi:=Qy.b3 q},s4:={lo:=Qy.a4 q,hi:=Qy.b4 q}} (Md.d m)) (some ((.bool (y1w m q)),[])) (some ((.bool false),[]))) (some ((.bool false),[]))) (some ((.bool false),[]))) (some ((.bool false),[]))) (some ((.bool false),[]))) (some ((.bool false),[]))):=by kernel_rfl
def zv4 (N:Nat):Env:=mkE [] [] 16 N
theorem zrb (N:Nat) (q:Qy):z11 (zv4 N) ziw [.tmp 2] [[.bool]] [(Qy.V q)]=(cond (Qy.k q==3) (cond (decide (Qy.ft q≥0)) (some ((.bool (decide (Qy.ft q < 4))),[])) (some ((.bool false),[]))) (some ((.bool false),[]))):=by kernel_rfl
def zy4 (N:Nat):Env:=mkE [(109,z5f)] [] 16 N
theorem zuq (N:Nat) (q:Qy):z11 (zy4 N) zki [.cell 2 36] [[.int .i64,.int .i64,.int .i64,.int .i64,.int .i64,.int .i64,.int .i64,.int .i64,.int .i64,.int .i64]] [(Qy.V q)]=(cond (z5m q) (cond (decide (Qy.ft q=ic 0)) (some ((.agg [(.i (Qy.a0 q)),(.i (Qy.b0 q)),(.i (Qy.a1 q)),(.i (Qy.b1 q)),(.i (Qy.a2 q)),(.i (Qy.b2 q)),(.i (Qy.a3 q)),(.i (Qy.b3 q)),(.i (Qy.a0 q)),(.i (Qy.b0 q))]),[])) (cond (decide (Qy.ft q=ic 1)) (some ((.agg [(.i (Qy.a0 q)),(.i (Qy.b0 q)),(.i (Qy.a1 q)),(.i (Qy.b1 q)),(.i (Qy.a2 q)),(.i (Qy.b2 q)),(.i (Qy.a3 q)),(.i (Qy.b3 q)),(.i (Qy.a1 q)),(.i (Qy.b1 q))]),[])) (cond (decide (Qy.ft q=ic 2)) (some ((.agg [(.i (Qy.a0 q)),(.i (Qy.b0 q)),(.i (Qy.a1 q)),(.i (Qy.b1 q)),(.i (Qy.a2 q)),(.i (Qy.b2 q)),(.i (Qy.a3 q)),(.i (Qy.b3 q)),(.i (Qy.a2 q)),(.i (Qy.b2 q))]),[])) (cond (decide (Qy.ft q=ic 3)) (some ((.agg [(.i (Qy.a0 q)),(.i (Qy.b0 q)),(.i (Qy.a1 q)),(.i (Qy.b1 q)),(.i (Qy.a2 q)),(.i (Qy.b2 q)),(.i (Qy.a3 q)),(.i (Qy.b3 q)),(.i (Qy.a3 q)),(.i (Qy.b3 q))]),[])) (cond (decide (Qy.ft q=ic 4)) (some ((.agg [(.i (Qy.a0 q)),(.i (Qy.b0 q)),(.i (Qy.a1 q)),(.i (Qy.b1 q)),(.i (Qy.a2 q)),(.i (Qy.b2 q)),(.i (Qy.a3 q)),(.i (Qy.b3 q)),(.i 0),(.i 0)]),[])) none))))) (some ((.agg [(.i (Qy.a0 q)),(.i (Qy.b0 q)),(.i (Qy.a1 q)),(.i (Qy.b1 q)),(.i (Qy.a2 q)),(.i (Qy.b2 q)),(.i (Qy.a3 q)),(.i (Qy.b3 q)),(.i 0),(.i 0)]),[]))):=by kernel_rfl
def ztv (N:Nat):Env:=mkE [(109,z5f)] [] 14 N
theorem zqn (N:Nat) (q:Qy) (p:Pt) (twin:Int):z11 (ztv N) zjb [.cell 6 53] [[.int .i64,.int .i64,.int .i64,.int .i64]] [(Qy.V q),(Pt.V p),(.i twin)]=(cond (z5m q) (cond (decide (Qy.ft q=ic 0)) (some ((.agg [(.i twin),(.i (Pt.p1 p)),(.i (Pt.p2 p)),(.i (Pt.p3 p))]),[])) (cond (decide (Qy.ft q=ic 1)) (some ((.agg [(.i (Pt.p0 p)),(.i twin),(.i (Pt.p2 p)),(.i (Pt.p3 p))]),[])) (cond (decide (Qy.ft q=ic 2)) (some ((.agg [(.i (Pt.p0 p)),(.i (Pt.p1 p)),(.i twin),(.i (Pt.p3 p))]),[])) (cond (decide (Qy.ft q=ic 3)) (some ((.agg [(.i (Pt.p0 p)),(.i (Pt.p1 p)),(.i (Pt.p2 p)),(.i twin)]),[])) none)))) (some ((Pt.V p),[]))):=by kernel_rfl
def z1i (N:Nat):Env:=mkE [(115,zbv),(65,z2j),(116,z8n),(114,zam)] [(9,⟨[4,5,6,8,9,36,37],[4,5,6],[]⟩)] 75 N
abbrev z3j (m:Md) (a1:Qy) (a2:Pt) (b8:Bool) (x9 x36 x37:Int):St:=⟨[(4,(.ptr 4 0 0)),(5,(.ptr 5 0 0)),(6,(.ptr 6 0 0)),(8,(.bool b8)),(9,(.i x9)),(36,(.i x36)),(37,(.i x37))],[(4,(some (.box (Md.cs m)))),(5,(some (.box (Qy.cs a1)))),(6,(some (.box (Pt.cs a2))))]⟩
theorem zsq (N:Nat) (m:Md) (a1:Qy) (a2:Pt) (a3:Int):z11 (z1i N) z26 [.tmp 8] [[.bool]] [(Md.V m),(Qy.V a1),(Pt.V a2),(.i a3)]=(cond (!z3f m a1) (some ((.bool false),[])) (cond (Qy.k a1==1) (some ((.bool (!Sp.has {lo:=Qy.lo a1,hi:=Qy.hi a1} (z6p m (Qy.c a1) a2))),[])) (cond (Qy.k a1==2) (lpE (z1i N) (z0j z26 [1,1,1,0,1,0,1,1,1,0,0,1,0,0]) ⟨[4,5,6,8,9,36,37],[4,5,6],[]⟩ N (z3j m a1 a2 false (z6p m (Qy.c a1) a2) (Md.c m) 0) (z06 1 (kSq (z1i N) (z0j z26 [1,1,1,0,1,0,1,1,1,0,1]) (z06 0 (kSq (z1i N) (z0j z26 [1,1,1,1]) (z30 (z1i N) none [(ResultVar.tmp 8)] [[.bool]])))))) (cond (decide (Qy.ft a1=ic 0)) (cond (decide (Pt.p0 a2≥a3)) (some ((.bool false),[])) (cond (Qy.fl a1) (some ((.bool (decide (z6p m (Qy.c a1) (z86 a1 a2 a3) > z6p m (Qy.c a1) a2))),[])) (some ((.bool (decide (z6p m (Qy.c a1) (z86 a1 a2 a3) < z6p m (Qy.c a1) a2))),[])))) (cond (decide (Qy.ft a1=ic 1)) (cond (decide (Pt.p1 a2≥a3)) (some ((.bool false),[])) (cond (Qy.fl a1) (some ((.bool (decide (z6p m (Qy.c a1) (z86 a1 a2 a3) > z6p m (Qy.c a1) a2))),[])) (some ((.bool (decide (z6p m (Qy.c a1) (z86 a1 a2 a3) < z6p m (Qy.c a1) a2))),[])))) (cond (decide (Qy.ft a1=ic 2)) (cond (decide (Pt.p2 a2≥a3)) (some ((.bool false),[])) (cond (Qy.fl a1) (some ((.bool (decide (z6p m (Qy.c a1) (z86 a1 a2 a3) > z6p m (Qy.c a1) a2))),[])) (some ((.bool (decide (z6p m (Qy.c a1) (z86 a1 a2 a3) < z6p m (Qy.c a1) a2))),[])))) (cond (decide (Qy.ft a1=ic 3)) (cond (decide (Pt.p3 a2≥a3)) (some ((.bool false),[])) (cond (Qy.fl a1) (some ((.bool (decide (z6p m (Qy.c a1) (z86 a1 a2 a3) > z6p m (Qy.c a1) a2))),[])) (some ((.bool (decide (z6p m (Qy.c a1) (z86 a1 a2 a3) < z6p m (Qy.c a1) a2))),[])))) none))))))):=by kernel_rfl
theorem zeq (N:Nat) (m:Md) (a1:Qy) (a2:Pt) (b8:Bool) (x9 x36 x37:Int) (again:St→Res) (k:Out→St→Res):rnd (z1i N) (z0j z26 [1,1,1,0,1,0,1,1,1,0,0,1,0,0]) (z3j m a1 a2 b8 x9 x36 x37) (z3t again ⟨[4,5,6,8,9,36,37],[4,5,6],[]⟩ k)=(cond (decide (x37 < x36)) (cond (x37 != Qy.c a1) (cond (decide (z6p m x37 a2≥x9)) (k .ret (z3j m a1 a2 true x9 x36 x37)) (again (z3j m a1 a2 b8 x9 x36 (IntKind.wrap IntKind.i64 (x37+1))))) (again (z3j m a1 a2 b8 x9 x36 (IntKind.wrap IntKind.i64 (x37+1))))) (k (.exit 1) (z3j m a1 a2 b8 x9 x36 x37))):=by kernel_rfl
theorem zjp (N:Nat) (m:Md) (a1:Qy) (a2:Pt) (b8:Bool) (x9 x36 x37:Int):(z06 1 (kSq (z1i N) (z0j z26 [1,1,1,0,1,0,1,1,1,0,1]) (z06 0 (kSq (z1i N) (z0j z26 [1,1,1,1]) (z30 (z1i N) none [(ResultVar.tmp 8)] [[.bool]]))))) (.exit 1) (z3j m a1 a2 b8 x9 x36 x37)=(some ((.bool false),[])):=by kernel_rfl
theorem zk6 (N:Nat) (m:Md) (a1:Qy) (a2:Pt) (b8:Bool) (x9 x36 x37:Int):(z06 1 (kSq (z1i N) (z0j z26 [1,1,1,0,1,0,1,1,1,0,1]) (z06 0 (kSq (z1i N) (z0j z26 [1,1,1,1]) (z30 (z1i N) none [(ResultVar.tmp 8)] [[.bool]]))))) .ret (z3j m a1 a2 b8 x9 x36 x37)=(some ((.bool b8),[])):=by kernel_rfl
def zul (N:Nat):Env:=mkE [(93,z6d),(155,z7o)] [(2,⟨[1,4,7,8],[],[]⟩)] 35 N
open Go Go.Proofs
def z3u (N:Nat):Env:=mkE [(111,z7e),(112,z2e),(55,z1y),(96,z7l)] [(7,⟨[4,5,6,24,25,26],[20,500],[⟨.tmp 6,500,275,true,[.int .i64,.int .i64,.int .i64,.int .i64,.int .i64,.int .i64,.int .i64,.int .i64,.int .i64,.int .i64,.int .i64]⟩]⟩)] 79 N
abbrev z4v (n5 n6:Nat) (l24:List IV) (x25 x26:Int) (lo20 u00:List IV):St:=⟨[(4,.zs),(5,(.row 20 0 n5)),(6,(.row 500 0 n6)),(24,(.list false [(.int .u64)] l24)),(25,(.i x25)),(26,(.i x26))],[(20,(some (.row true 36 true zac lo20))),(500,(some (.row true 275 true zd9 u00)))]⟩
theorem zv2 (N:Nat) (l:List IV) (a1:Bx):z11 (z3u N) z5a [.tmp 4] [[.list true [.int .i64,.int .i64,.int .i64,.int .i64,.int .i64,.int .i64,.int .i64,.int .i64,.int .i64,.int .i64,.int .i64]]] [(.list false [.int .u64] l),(Bx.V a1)]=(cond (!z94 l 4) (some ((.list true zd9 []),[])) (cond (Bx.emp a1) (some ((.list true zd9 []),[])) (cond (true&&(true&&decide (0≤ic (List.length l)))&&(decide (ic (List.length l)=ic (List.length l))&&decide (ic (List.length l)*ic 80≤ic z0c))) (cond (decide (0≤0)&&decide (0 < ic (Int.toNat (ic (List.length l)) - 0))) (lpE (z3u N) (z0j z5a [1,1,1,1,1,0,1,0,0]) ⟨[4,5,6,24,25,26],[20,500],[⟨(.tmp 6),500,275,true,zd9⟩]⟩ N (z4v (Int.toNat (ic (List.length l))) 0 l (ic (List.length l)) 0 (List.set (List.replicate (Int.toNat (ic (List.length l))) (IV.agg [IV.int 0,IV.int 0,IV.int 0,IV.int 0,IV.int 0,IV.int 0,IV.int 0,IV.int 0,IV.int 0,IV.int 0])) 0 (Bx.I a1)) []) (z06 0 (kSq (z3u N) (z0j z5a [1,1,1,1,1,1]) (z30 (z3u N) none [(ResultVar.tmp 4)] [[(.list true zd9)]])))) none) none))):=by kernel_rfl
theorem zfu (N n5 n6:Nat) (l24:List IV) (x25 x26:Int) (lo20 u00:List IV) (again:St→Res) (k:Out→St→Res):rnd (z3u N) (z0j z5a [1,1,1,1,1,0,1,0,0]) (z4v n5 n6 l24 x25 x26 lo20 u00) (z3t again ⟨[4,5,6,24,25,26],[20,500],[⟨(.tmp 6),500,275,true,zd9⟩]⟩ k)=(cond (decide (x26 < x25)) (cond (decide (0≤x26)&&decide (x26 < ic (List.length l24))) (cond (!Nd.lf (z07 (IV.toInt (List.getD l24 (Int.toNat x26) default)))) (cond (decide (0≤x26)&&decide (x26 < ic (n5 - 0))) (cond (zmk (Nd.f (z07 (IV.toInt (List.getD l24 (Int.toNat x26) default))))) (cond (decide (0≤Nd.l (z07 (IV.toInt (List.getD l24 (Int.toNat x26) default))))&&decide (Nd.l (z07 (IV.toInt (List.getD l24 (Int.toNat x26) default))) < ic (n5 - 0))) (cond (decide (0≤Nd.r (z07 (IV.toInt (List.getD l24 (Int.toNat x26) default))))&&decide (Nd.r (z07 (IV.toInt (List.getD l24 (Int.toNat x26) default))) < ic (n5 - 0))) (again (z4v n5 n6 l24 x25 (IntKind.wrap IntKind.i64 (x26+1)) (List.set (List.set lo20 (0+Int.toNat (Nd.l (z07 (IV.toInt (List.getD l24 (Int.toNat x26) default))))) (Bx.I (Bx.cutL (bxI (List.getD lo20 (0+Int.toNat x26) default)) (Nd.f (z07 (IV.toInt (List.getD l24 (Int.toNat x26) default)))) (Nd.a (z07 (IV.toInt (List.getD l24 (Int.toNat x26) default))))))) (0+Int.toNat (Nd.r (z07 (IV.toInt (List.getD l24 (Int.toNat x26) default))))) (Bx.I (Bx.cutH (bxI (List.getD lo20 (0+Int.toNat x26) default)) (Nd.f (z07 (IV.toInt (List.getD l24 (Int.toNat x26) default)))) (Nd.a (z07 (IV.toInt (List.getD l24 (Int.toNat x26) default))))))) u00)) none) none) none) none) (cond (decide (0≤x26)&&decide (x26 < ic (n5 - 0))) (cond (!Bx.emp (bxI (List.getD lo20 (0+Int.toNat x26) default))) (cond (decide (0≤x26)&&decide (x26 < ic (n5 - 0))) (cond (decide ((n6+1)*88≤z0c)) (again (z4v n5 (n6+1) l24 x25 (IntKind.wrap IntKind.i64 (x26+1)) lo20 (List.take n6 u00++[(pcI (bxI (List.getD lo20 (0+Int.toNat x26) default)) (Nd.v (z07 (IV.toInt (List.getD l24 (Int.toNat x26) default)))))]))) none) none) (again (z4v n5 n6 l24 x25 (IntKind.wrap IntKind.i64 (x26+1)) lo20 u00))) none)) none) (k (.exit 0) (z4v n5 n6 l24 x25 x26 lo20 u00))):=by kernel_rfl
theorem zky (N n5 n6:Nat) (l24:List IV) (x25 x26:Int) (lo20 u00:List IV):(z06 0 (kSq (z3u N) (z0j z5a [1,1,1,1,1,1]) (z30 (z3u N) none [(ResultVar.tmp 4)] [[(.list true zd9)]]))) (.exit 0) (z4v n5 n6 l24 x25 x26 lo20 u00)=(some ((.list true zd9 (List.drop 0 (List.take n6 u00))),[])):=by kernel_rfl
def z4k (N:Nat):Env:=mkE [(218,z9z)] [(6,⟨[4,5,6,8,9,26,27,28],[],[]⟩)] 43 N
abbrev z8i (x4 x5:Int) (b6:Bool) (x8 x9:Int) (l26:List IV) (x27 x28:Int):St:=⟨[(4,(.i x4)),(5,(.i x5)),(6,(.bool b6)),(8,(.i x8)),(9,(.i x9)),(26,(.list true zd9 l26)),(27,(.i x27)),(28,(.i x28))],[]⟩
theorem zxq (N:Nat) (l:List IV) (b:Bx):z11 (z4k N) z6c [.tmp 4,.tmp 5,.tmp 6] [[.int .i64],[.int .i64],[.bool]] [(.list false [.int .u64] l),(Bx.V b)]=(cond (ic (List.length (z4h l b))==0) (some ((.tup [(.i 0),(.i 0),(.bool false)]),[])) (cond (decide (0≤0)&&decide (0 < ic (List.length (z4h l b)))) (cond (decide (0≤0)&&decide (0 < ic (List.length (z4h l b)))) (lpE (z4k N) (z0j z6c [1,1,1,1,0,1,0,0]) ⟨[4,5,6,8,9,26,27,28],[],[]⟩ N (z8i 0 0 false (IV.toInt (IV.cell (List.getD (z4h l b) (Int.toNat 0) default) 10)) (IV.toInt (IV.cell (List.getD (z4h l b) (Int.toNat 0) default) 10)) (z4h l b) (ic (List.length (z4h l b))) 0) (z06 0 (kSq (z4k N) (z0j z6c [1,1,1,1,1]) (z30 (z4k N) none [(ResultVar.tmp 4),(ResultVar.tmp 5),(ResultVar.tmp 6)] [[(.int .i64)],[(.int .i64)],[.bool]])))) none) none)):=by kernel_rfl
theorem zhk (N:Nat) (x4 x5:Int) (b6:Bool) (x8 x9:Int) (l26:List IV) (x27 x28:Int) (again:St→Res) (k:Out→St→Res):rnd (z4k N) (z0j z6c [1,1,1,1,0,1,0,0]) (z8i x4 x5 b6 x8 x9 l26 x27 x28) (z3t again ⟨[4,5,6,8,9,26,27,28],[],[]⟩ k)=(cond (decide (x28 < x27)) (cond (decide (0≤x28)&&decide (x28 < ic (List.length l26))) (again (z8i x4 x5 b6 (min x8 (IV.toInt (IV.cell (List.getD l26 (Int.toNat x28) default) 10))) (max x9 (IV.toInt (IV.cell (List.getD l26 (Int.toNat x28) default) 10))) l26 x27 (IntKind.wrap IntKind.i64 (x28+1)))) none) (k (.exit 0) (z8i x4 x5 b6 x8 x9 l26 x27 x28))):=by kernel_rfl
theorem zmj (N:Nat) (x4 x5:Int) (b6:Bool) (x8 x9:Int) (l26:List IV) (x27 x28:Int):(z06 0 (kSq (z4k N) (z0j z6c [1,1,1,1,1]) (z30 (z4k N) none [(ResultVar.tmp 4),(ResultVar.tmp 5),(ResultVar.tmp 6)] [[(.int .i64)],[(.int .i64)],[.bool]]))) (.exit 0) (z8i x4 x5 b6 x8 x9 l26 x27 x28)=(some ((.tup [(.i x8),(.i x9),(.bool true)]),[])):=by kernel_rfl
def z0m (N:Nat):Env:=mkE [(196,zb8),(112,z2e),(53,z1z)] [(5,⟨[1,5,6,7,8,9,10,42,43,44],[5],[]⟩)] 69 N
abbrev z2a (a2:Bx) (x1 x6 x7:Int) (b8:Bool) (x9 x10:Int) (l42:List IV) (x43 x44:Int):St:=⟨[(1,(.i x1)),(5,(.ptr 5 0 0)),(6,(.i x6)),(7,(.i x7)),(8,(.bool b8)),(9,(.i x9)),(10,(.i x10)),(42,(.list true zjw l42)),(43,(.i x43)),(44,(.i x44))],[(5,(some (.box (Bx.cs a2))))]⟩
theorem y48 (N:Nat) (m:Md) (a1:Int) (a2:Bx):z11 (z0m N) z1a [.tmp 6,.tmp 7,.tmp 8] [[.int .i64],[.int .i64],[.bool]] [(Md.V m),(.i a1),(Bx.V a2)]=(cond (!z2b m) (some ((.tup [(.i 0),(.i 0),(.bool false)]),[])) (cond (decide (a1 < 0)) (some ((.tup [(.i 0),(.i 0),(.bool false)]),[])) (cond (decide (a1≥Md.c m)) (some ((.tup [(.i 0),(.i 0),(.bool false)]),[])) (cond (Bx.emp a2) (some ((.tup [(.i 0),(.i 0),(.bool false)]),[])) (cond (decide (a1=ic 0)) (cond (decide (a1=ic 0)) (lpE (z0m N) (z0j z1a [1,1,1,0,1,0,0]) ⟨[1,5,6,7,8,9,10,42,43,44],[5],[]⟩ N (z2a a2 a1 0 0 false (Md.b0 m) (Md.b0 m) (Md.ts m) (ic (List.length (Md.ts m))) 0) (z06 0 (kSq (z0m N) (z0j z1a [1,1,1,1]) (z30 (z0m N) none [(ResultVar.tmp 6),(ResultVar.tmp 7),(ResultVar.tmp 8)] [[(.int .i64)],[(.int .i64)],[.bool]])))) (cond (decide (a1=ic 1)) (lpE (z0m N) (z0j z1a [1,1,1,0,1,0,0]) ⟨[1,5,6,7,8,9,10,42,43,44],[5],[]⟩ N (z2a a2 a1 0 0 false (Md.b0 m) (Md.b1 m) (Md.ts m) (ic (List.length (Md.ts m))) 0) (z06 0 (kSq (z0m N) (z0j z1a [1,1,1,1]) (z30 (z0m N) none [(ResultVar.tmp 6),(ResultVar.tmp 7),(ResultVar.tmp 8)] [[(.int .i64)],[(.int .i64)],[.bool]])))) (cond (decide (a1=ic 2)) (lpE (z0m N) (z0j z1a [1,1,1,0,1,0,0]) ⟨[1,5,6,7,8,9,10,42,43,44],[5],[]⟩ N (z2a a2 a1 0 0 false (Md.b0 m) (Md.b2 m) (Md.ts m) (ic (List.length (Md.ts m))) 0) (z06 0 (kSq (z0m N) (z0j z1a [1,1,1,1]) (z30 (z0m N) none [(ResultVar.tmp 6),(ResultVar.tmp 7),(ResultVar.tmp 8)] [[(.int .i64)],[(.int .i64)],[.bool]])))) none))) (cond (decide (a1=ic 1)) (cond (decide (a1=ic 0)) (lpE (z0m N) (z0j z1a [1,1,1,0,1,0,0]) ⟨[1,5,6,7,8,9,10,42,43,44],[5],[]⟩ N (z2a a2 a1 0 0 false (Md.b1 m) (Md.b0 m) (Md.ts m) (ic (List.length (Md.ts m))) 0) (z06 0 (kSq (z0m N) (z0j z1a [1,1,1,1]) (z30 (z0m N) none [(ResultVar.tmp 6),(ResultVar.tmp 7),(ResultVar.tmp 8)] [[(.int .i64)],[(.int .i64)],[.bool]])))) (cond (decide (a1=ic 1)) (lpE (z0m N) (z0j z1a [1,1,1,0,1,0,0]) ⟨[1,5,6,7,8,9,10,42,43,44],[5],[]⟩ N (z2a a2 a1 0 0 false (Md.b1 m) (Md.b1 m) (Md.ts m) (ic (List.length (Md.ts m))) 0) (z06 0 (kSq (z0m N) (z0j z1a [1,1,1,1]) (z30 (z0m N) none [(ResultVar.tmp 6),(ResultVar.tmp 7),(ResultVar.tmp 8)] [[(.int .i64)],[(.int .i64)],[.bool]])))) (cond (decide (a1=ic 2)) (lpE (z0m N) (z0j z1a [1,1,1,0,1,0,0]) ⟨[1,5,6,7,8,9,10,42,43,44],[5],[]⟩ N (z2a a2 a1 0 0 false (Md.b1 m) (Md.b2 m) (Md.ts m) (ic (List.length (Md.ts m))) 0) (z06 0 (kSq (z0m N) (z0j z1a [1,1,1,1]) (z30 (z0m N) none [(ResultVar.tmp 6),(ResultVar.tmp 7),(ResultVar.tmp 8)] [[(.int .i64)],[(.int .i64)],[.bool]])))) none))) (cond (decide (a1=ic 2)) (cond (decide (a1=ic 0)) (lpE (z0m N) (z0j z1a [1,1,1,0,1,0,0]) ⟨[1,5,6,7,8,9,10,42,43,44],[5],[]⟩ N (z2a a2 a1 0 0 false (Md.b2 m) (Md.b0 m) (Md.ts m) (ic (List.length (Md.ts m))) 0) (z06 0 (kSq (z0m N) (z0j z1a [1,1,1,1]) (z30 (z0m N) none [(ResultVar.tmp 6),(ResultVar.tmp 7),(ResultVar.tmp 8)] [[(.int .i64)],[(.int .i64)],[.bool]])))) (cond (decide (a1=ic 1)) (lpE (z0m N) (z0j z1a [1,1,1,0,1,0,0]) ⟨[1,5,6,7,8,9,10,42,43,44],[5],[]⟩ N (z2a a2 a1 0 0 false (Md.b2 m) (Md.b1 m) (Md.ts m) (ic (List.length (Md.ts m))) 0) (z06 0 (kSq (z0m N) (z0j z1a [1,1,1,1]) (z30 (z0m N) none [(ResultVar.tmp 6),(ResultVar.tmp 7),(ResultVar.tmp 8)] [[(.int .i64)],[(.int .i64)],[.bool]])))) (cond (decide (a1=ic 2)) (lpE (z0m N) (z0j z1a [1,1,1,0,1,0,0]) ⟨[1,5,6,7,8,9,10,42,43,44],[5],[]⟩ N (z2a a2 a1 0 0 false (Md.b2 m) (Md.b2 m) (Md.ts m) (ic (List.length (Md.ts m))) 0) (z06 0 (kSq (z0m N) (z0j z1a [1,1,1,1]) (z30 (z0m N) none [(ResultVar.tmp 6),(ResultVar.tmp 7),(ResultVar.tmp 8)] [[(.int .i64)],[(.int .i64)],[.bool]])))) none))) none))))))):=by kernel_rfl
theorem zj7 (N:Nat) (a2:Bx) (x1 x6 x7:Int) (b8:Bool) (x9 x10:Int) (l42:List IV) (x43 x44:Int) (again:St→Res) (k:Out→St→Res):rnd (z0m N) (z0j z1a [1,1,1,0,1,0,0]) (z2a a2 x1 x6 x7 b8 x9 x10 l42 x43 x44) (z3t again ⟨[1,5,6,7,8,9,10,42,43,44],[5],[]⟩ k)=(cond (decide (x44 < x43)) (cond (decide (0≤x44)&&decide (x44 < ic (List.length l42))) (cond (IV.toInt (IV.cell (List.getD l42 (Int.toNat x44) default) 0) != x1) (again (z2a a2 x1 x6 x7 b8 x9 x10 l42 x43 (IntKind.wrap IntKind.i64 (x44+1)))) (again (z2a a2 x1 x6 x7 b8 (IntKind.wrap IntKind.i64 (x9+tLo (IV.toList (IV.cell (List.getD l42 (Int.toNat x44) default) 1)) a2)) (IntKind.wrap IntKind.i64 (x10+tHi (IV.toList (IV.cell (List.getD l42 (Int.toNat x44) default) 1)) a2)) l42 x43 (IntKind.wrap IntKind.i64 (x44+1))))) none) (k (.exit 0) (z2a a2 x1 x6 x7 b8 x9 x10 l42 x43 x44))):=by kernel_rfl
theorem zpi (N:Nat) (a2:Bx) (x1 x6 x7:Int) (b8:Bool) (x9 x10:Int) (l42:List IV) (x43 x44:Int):(z06 0 (kSq (z0m N) (z0j z1a [1,1,1,1]) (z30 (z0m N) none [(ResultVar.tmp 6),(ResultVar.tmp 7),(ResultVar.tmp 8)] [[(.int .i64)],[(.int .i64)],[.bool]]))) (.exit 0) (z2a a2 x1 x6 x7 b8 x9 x10 l42 x43 x44)=(some ((.tup [(.i x9),(.i x10),(.bool true)]),[])):=by kernel_rfl
def z33 (N:Nat):Env:=mkE [(162,z6o)] [(6,⟨[1,3,5,6,7,8,11,12,33,34],[3,5],[]⟩)] 62 N
abbrev z3e (m:Md) (b:Bx) (x1 x6:Int) (b7:Bool) (x8 x11:Int) (b12:Bool) (x33 x34:Int):St:=⟨[(1,(.i x1)),(3,(.ptr 3 0 0)),(5,(.ptr 5 0 0)),(6,(.i x6)),(7,(.bool b7)),(8,(.i x8)),(11,(.i x11)),(12,(.bool b12)),(33,(.i x33)),(34,(.i x34))],[(3,(some (.box (Md.cs m)))),(5,(some (.box (Bx.cs b))))]⟩
theorem zqo (N:Nat) (m:Md) (u00:Int) (b:Bx):z11 (z33 N) z4p [.tmp 6,.tmp 7] [[.int .i64],[.bool]] [(Md.V m),(.i u00),(Bx.V b)]=(cond (!sOK m u00 b) (some ((.tup [(.i 0),(.bool false)]),[])) (cond (decide (Md.c m < 2)) (some ((.tup [(.i 0),(.bool false)]),[])) (lpE (z33 N) (z0j z4p [1,1,1,1,0,1,0,0]) ⟨[1,3,5,6,7,8,11,12,33,34],[3,5],[]⟩ N (z3e m b u00 0 false (sLo m u00 b) 0 false (Md.c m) 0) (z06 0 (kSq (z33 N) (z0j z4p [1,1,1,1,1]) (z30 (z33 N) none [(ResultVar.tmp 6),(ResultVar.tmp 7)] [[(.int .i64)],[.bool]])))))):=by kernel_rfl
theorem zea (N:Nat) (m:Md) (b:Bx) (x1 x6:Int) (b7:Bool) (x8 x11:Int) (b12:Bool) (x33 x34:Int) (again:St→Res) (k:Out→St→Res):rnd (z33 N) (z0j z4p [1,1,1,1,0,1,0,0]) (z3e m b x1 x6 b7 x8 x11 b12 x33 x34) (z3t again ⟨[1,3,5,6,7,8,11,12,33,34],[3,5],[]⟩ k)=(cond (decide (x34 < x33)) (cond (x34==x1) (again (z3e m b x1 x6 b7 x8 x11 b12 x33 (IntKind.wrap IntKind.i64 (x34+1)))) (cond (!b12) (again (z3e m b x1 x6 b7 x8 (IntKind.wrap IntKind.i64 (x8 - sHi m x34 b)) true x33 (IntKind.wrap IntKind.i64 (x34+1)))) (cond (decide (IntKind.wrap IntKind.i64 (x8 - sHi m x34 b) < x11)) (again (z3e m b x1 x6 b7 x8 (IntKind.wrap IntKind.i64 (x8 - sHi m x34 b)) true x33 (IntKind.wrap IntKind.i64 (x34+1)))) (again (z3e m b x1 x6 b7 x8 x11 b12 x33 (IntKind.wrap IntKind.i64 (x34+1))))))) (k (.exit 0) (z3e m b x1 x6 b7 x8 x11 b12 x33 x34))):=by kernel_rfl
theorem zkd (N:Nat) (m:Md) (b:Bx) (x1 x6:Int) (b7:Bool) (x8 x11:Int) (b12:Bool) (x33 x34:Int):(z06 0 (kSq (z33 N) (z0j z4p [1,1,1,1,1]) (z30 (z33 N) none [(ResultVar.tmp 6),(ResultVar.tmp 7)] [[(.int .i64)],[.bool]]))) (.exit 0) (z3e m b x1 x6 b7 x8 x11 b12 x33 x34)=(some ((.tup [(.i x11),(.bool true)]),[])):=by kernel_rfl
def zu7 (N:Nat):Env:=mkE [] [] 16 N
theorem zt0 (N:Nat) (q:Qy):z11 (zu7 N) ziz [.tmp 2] [[.bool]] [(Qy.V q)]=(cond (Qy.k q==3) (cond (decide (Qy.ft q≥0)) (some ((.bool (decide (Qy.ft q < 4))),[])) (some ((.bool false),[]))) (some ((.bool false),[]))):=by kernel_rfl
def zv1 (N:Nat):Env:=mkE [(197,z2q)] [] 10 N
theorem zs3 (N:Nat) (q:Qy) (b:Bx):z11 (zv1 N) zj9 [.cell 4 36] [[.int .i64,.int .i64,.int .i64,.int .i64,.int .i64,.int .i64,.int .i64,.int .i64,.int .i64,.int .i64]] [(Qy.V q),(Bx.V b)]=(cond (z5m q) (some ((.agg [(.i (Sp.lo (Bx.s0 b))),(.i (Sp.hi (Bx.s0 b))),(.i (Sp.lo (Bx.s1 b))),(.i (Sp.hi (Bx.s1 b))),(.i (Sp.lo (Bx.s2 b))),(.i (Sp.hi (Bx.s2 b))),(.i (Sp.lo (Bx.s3 b))),(.i (Sp.hi (Bx.s3 b))),(.i 0),(.i 0)]),[])) (some ((Bx.V b),[]))):=by kernel_rfl
def zra (N:Nat):Env:=mkE [(197,z2q)] [] 15 N
theorem zpq (N:Nat) (q:Qy) (b:Bx):z11 (zra N) zh2 [.cell 4 36] [[.int .i64,.int .i64,.int .i64,.int .i64,.int .i64,.int .i64,.int .i64,.int .i64,.int .i64,.int .i64]] [(Qy.V q),(Bx.V b)]=(cond (z5m q) (cond (decide (Qy.ft q=ic 0)) (some ((.agg [(.i (Sp.lo (Bx.s4 b))),(.i (Sp.hi (Bx.s4 b))),(.i (Sp.lo (Bx.s1 b))),(.i (Sp.hi (Bx.s1 b))),(.i (Sp.lo (Bx.s2 b))),(.i (Sp.hi (Bx.s2 b))),(.i (Sp.lo (Bx.s3 b))),(.i (Sp.hi (Bx.s3 b))),(.i 0),(.i 0)]),[])) (cond (decide (Qy.ft q=ic 1)) (some ((.agg [(.i (Sp.lo (Bx.s0 b))),(.i (Sp.hi (Bx.s0 b))),(.i (Sp.lo (Bx.s4 b))),(.i (Sp.hi (Bx.s4 b))),(.i (Sp.lo (Bx.s2 b))),(.i (Sp.hi (Bx.s2 b))),(.i (Sp.lo (Bx.s3 b))),(.i (Sp.hi (Bx.s3 b))),(.i 0),(.i 0)]),[])) (cond (decide (Qy.ft q=ic 2)) (some ((.agg [(.i (Sp.lo (Bx.s0 b))),(.i (Sp.hi (Bx.s0 b))),(.i (Sp.lo (Bx.s1 b))),(.i (Sp.hi (Bx.s1 b))),(.i (Sp.lo (Bx.s4 b))),(.i (Sp.hi (Bx.s4 b))),(.i (Sp.lo (Bx.s3 b))),(.i (Sp.hi (Bx.s3 b))),(.i 0),(.i 0)]),[])) (cond (decide (Qy.ft q=ic 3)) (some ((.agg [(.i (Sp.lo (Bx.s0 b))),(.i (Sp.hi (Bx.s0 b))),(.i (Sp.lo (Bx.s1 b))),(.i (Sp.hi (Bx.s1 b))),(.i (Sp.lo (Bx.s2 b))),(.i (Sp.hi (Bx.s2 b))),(.i (Sp.lo (Bx.s4 b))),(.i (Sp.hi (Bx.s4 b))),(.i 0),(.i 0)]),[])) (cond (decide (Qy.ft q=ic 4)) (some ((.agg [(.i (Sp.lo (Bx.s0 b))),(.i (Sp.hi (Bx.s0 b))),(.i (Sp.lo (Bx.s1 b))),(.i (Sp.hi (Bx.s1 b))),(.i (Sp.lo (Bx.s2 b))),(.i (Sp.hi (Bx.s2 b))),(.i (Sp.lo (Bx.s3 b))),(.i (Sp.hi (Bx.s3 b))),(.i 0),(.i 0)]),[])) none))))) (some ((Bx.V b),[]))):=by kernel_rfl
def zq7 (N:Nat):Env:=mkE [(112,z2e),(197,z2q)] [] 23 N
theorem znt (N:Nat) (q:Qy) (b:Bx):z11 (zq7 N) zft [.tmp 4] [[.bool]] [(Qy.V q),(Bx.V b)]=(cond (z5m q) (cond (!Bx.emp b) (cond (decide (Qy.ft q=ic 0)) (some ((.bool (decide (Sp.lo (Bx.s0 b) < Sp.hi (Bx.s4 b)))),[])) (cond (decide (Qy.ft q=ic 1)) (some ((.bool (decide (Sp.lo (Bx.s1 b) < Sp.hi (Bx.s4 b)))),[])) (cond (decide (Qy.ft q=ic 2)) (some ((.bool (decide (Sp.lo (Bx.s2 b) < Sp.hi (Bx.s4 b)))),[])) (cond (decide (Qy.ft q=ic 3)) (some ((.bool (decide (Sp.lo (Bx.s3 b) < Sp.hi (Bx.s4 b)))),[])) (cond (decide (Qy.ft q=ic 4)) (some ((.bool (decide (Sp.lo (Bx.s4 b) < Sp.hi (Bx.s4 b)))),[])) none))))) (some ((.bool false),[]))) (some ((.bool false),[]))):=by kernel_rfl
def zqu (N:Nat):Env:=mkE [(162,z6o),(198,z8f),(199,z7m),(197,z2q)] [] 54 N
theorem zpo (N:Nat) (m:Md) (q:Qy) (b:Bx):z11 (zqu N) zhl [.tmp 6,.tmp 7,.tmp 8] [[.int .i64],[.int .i64],[.bool]] [(Md.V m),(Qy.V q),(Bx.V b)]=(cond (!z5m q) (some ((.tup [(.i 0),(.i 0),(.bool false)]),[])) (cond (!sOK m (Qy.c q) (zdy q b)) (some ((.tup [(.i 0),(.i 0),(.bool false)]),[])) (cond (!sOK m (Qy.c q) (za5 q b)) (some ((.tup [(.i 0),(.i 0),(.bool false)]),[])) (some ((.tup [(.i (IntKind.wrap IntKind.i64 (sLo m (Qy.c q) (za5 q b) - sHi m (Qy.c q) (zdy q b)))),(.i (IntKind.wrap IntKind.i64 (sHi m (Qy.c q) (za5 q b) - sLo m (Qy.c q) (zdy q b)))),(.bool true)]),[]))))):=by kernel_rfl
def zyb (N:Nat):Env:=mkE [(163,z88),(162,z6o),(112,z2e),(165,z7k),(164,z6q),(65,z2j)] [] 86 N
theorem zv7 (N:Nat) (m:Md) (a1:Qy) (a2:Bx):z11 (zyb N) zl4 [.tmp 6] [[.bool]] [(Md.V m),(Qy.V a1),(Bx.V a2)]=(cond (!z3f m a1) (some ((.bool false),[])) (cond (Bx.emp a2) (some ((.bool true),[])) (cond (Qy.k a1==1) (cond (sOK m (Qy.c a1) a2) (cond (decide (Qy.lo a1≤sLo m (Qy.c a1) a2)) (some ((.bool (decide (sHi m (Qy.c a1) a2≤Qy.hi a1))),[])) (some ((.bool false),[]))) (some ((.bool false),[]))) (cond (Qy.k a1==2) (cond (yc8 m (Qy.c a1) a2) (some ((.bool (decide (yhq m (Qy.c a1) a2 > 0))),[])) (some ((.bool false),[]))) (cond (!zgy a1 a2) (some ((.bool true),[])) (cond (Qy.fl a1) (cond (yaf m a1 a2) (some ((.bool (decide (ygt m a1 a2≤0))),[])) (some ((.bool false),[]))) (cond (yaf m a1 a2) (some ((.bool (decide (yid m a1 a2≥0))),[])) (some ((.bool false),[]))))))))):=by kernel_rfl
def zxz (N:Nat):Env:=mkE [(81,zhe)] [] 9 N
theorem zuo (N:Nat) (b:Bx):z11 (zxz N) zm7 [.cell 2 53,.tmp 3] [[.int .i64,.int .i64,.int .i64,.int .i64],[.int .i64]] [(Bx.V b)]=(some ((.tup [(Pt.V (Bx.low b)),(.i (Sp.hi (Bx.s4 b)))]),[])):=by kernel_rfl
def z3h (N:Nat):Env:=mkE [(126,zcp)] [(2,⟨[3,4,5,6,7,8,11],[3,4,5],[]⟩)] 31 N
abbrev z5h (m:Md) (q:Qy) (b:Bx) (x6 x7:Int) (b8:Bool) (x11:Int):St:=⟨[(3,(.ptr 3 0 0)),(4,(.ptr 4 0 0)),(5,(.ptr 5 0 0)),(6,(.i x6)),(7,(.i x7)),(8,(.bool b8)),(11,(.i x11))],[(3,(some (.box (Md.cs m)))),(4,(some (.box (Qy.cs q)))),(5,(some (.box (Bx.cs b))))]⟩
theorem y00 (N:Nat) (m:Md) (q:Qy) (b:Bx):z11 (z3h N) z57 [.tmp 6,.tmp 7,.tmp 8] [[.int .i64],[.int .i64],[.bool]] [(Md.V m),(Qy.V q),(Bx.V b)]=(lpE (z3h N) (z0j z57 [1,0,1,0,0]) ⟨[3,4,5,6,7,8,11],[3,4,5],[]⟩ N (z5h m q b 0 0 false 0) (z06 0 (kSq (z3h N) (z0j z57 [1,1]) (z30 (z3h N) none [(ResultVar.tmp 6),(ResultVar.tmp 7),(ResultVar.tmp 8)] [[(.int .i64)],[(.int .i64)],[.bool]])))):=by kernel_rfl
theorem zgm (N:Nat) (m:Md) (q:Qy) (b:Bx) (x6 x7:Int) (b8:Bool) (x11:Int) (again:St→Res) (k:Out→St→Res):rnd (z3h N) (z0j z57 [1,0,1,0,0]) (z5h m q b x6 x7 b8 x11) (z3t again ⟨[3,4,5,6,7,8,11],[3,4,5],[]⟩ k)=(cond (decide (x11 < 5)) (cond (z2b m&&zmk x11) (cond (decide (ic (List.length (iZ (zk4 m q b (Int.toNat x11)))) > 0)) (cond (decide (0≤IntKind.wrap IntKind.i64 (Int.tdiv (IntKind.wrap IntKind.i64 (ic (List.length (iZ (zk4 m q b (Int.toNat x11)))) - 1)) 2))&&decide (IntKind.wrap IntKind.i64 (Int.tdiv (IntKind.wrap IntKind.i64 (ic (List.length (iZ (zk4 m q b (Int.toNat x11)))) - 1)) 2) < ic (List.length (iZ (zk4 m q b (Int.toNat x11)))))) (k .ret (z5h m q b x11 (IV.toInt (List.getD (iZ (zk4 m q b (Int.toNat x11))) (Int.toNat (IntKind.wrap IntKind.i64 (Int.tdiv (IntKind.wrap IntKind.i64 (ic (List.length (iZ (zk4 m q b (Int.toNat x11)))) - 1)) 2))) default)) true x11)) none) (again (z5h m q b x6 x7 b8 (IntKind.wrap IntKind.i64 (x11+1))))) none) (k (.exit 0) (z5h m q b x6 x7 b8 x11))):=by kernel_rfl
theorem znc (N:Nat) (m:Md) (q:Qy) (b:Bx) (x6 x7:Int) (b8:Bool) (x11:Int):(z06 0 (kSq (z3h N) (z0j z57 [1,1]) (z30 (z3h N) none [(ResultVar.tmp 6),(ResultVar.tmp 7),(ResultVar.tmp 8)] [[(.int .i64)],[(.int .i64)],[.bool]]))) (.exit 0) (z5h m q b x6 x7 b8 x11)=(some ((.tup [(.i 0),(.i 0),(.bool false)]),[])):=by kernel_rfl
theorem znj (N:Nat) (m:Md) (q:Qy) (b:Bx) (x6 x7:Int) (b8:Bool) (x11:Int):(z06 0 (kSq (z3h N) (z0j z57 [1,1]) (z30 (z3h N) none [(ResultVar.tmp 6),(ResultVar.tmp 7),(ResultVar.tmp 8)] [[(.int .i64)],[(.int .i64)],[.bool]]))) .ret (z5h m q b x6 x7 b8 x11)=(some ((.tup [(.i x6),(.i x7),(.bool b8)]),[])):=by kernel_rfl
open Go Go.Proofs
set_option maxRecDepth 100000
theorem zvo {i:Int} (h:zmk i=true):i=0∨i=1∨i=2∨i=3∨i=4:=by
 unfold zmk at h;simp only [v02,v06] at h;omega
theorem zlg:z2y PR B0 194 z92:=by
 refine z0i [] [] z92 [[.int .i64,.int .i64]] Tryz.func194 y5d trivial ?_;intro vs r hwf h;unfold z92 at h
 split at h
 ·rw [R.get_ok] at h
  exact ⟨0,(y2q 0).trans h⟩
 ·simp [R.get] at h
theorem y6o:z2y PR B0 193 zh4:=by
 refine z0i [(194,z92)] [] zh4 [[.int .i64,.int .i64]] Tryz.func193 ydf ⟨zlg,trivial⟩ ?_;intro vs r hwf h;unfold zh4 at h
 split at h
 ·rename_i lo hi
  rw [R.get_ok] at h;refine ⟨0,?_⟩;rw [← h];refine (y9n 0 lo hi).trans ?_;unfold ya6;cases decide (lo > hi) <;> rfl
 ·simp [R.get] at h
theorem zje:z2y PR B0 155 z7o:=by
 refine z0i [] [] z7o [[.bool]] Tryz.func155 y40 trivial ?_;intro vs r hwf h;unfold z7o at h
 split at h
 ·rename_i s
  replace h:=zql h;obtain ⟨s,rfl,h⟩:=h;rw [R.get_ok] at h;exact ⟨0,(zxr 0 s).trans h⟩
 ·simp [R.get] at h
theorem zoj:z2y PR B0 114 zam:=by
 refine z0i [] [] zam [[.bool]] Tryz.func114 y9l trivial ?_;intro vs r hwf h;unfold zam at h
 split at h
 ·rename_i s n
  replace h:=zql h;obtain ⟨s,rfl,h⟩:=h;rw [R.get_ok] at h;refine ⟨0,?_⟩;rw [← h];refine (y5y 0 s n).trans ?_;unfold Sp.has;cases decide (s.lo≤n) <;> rfl
 ·simp [R.get] at h
theorem y45:z2y PR B0 157 zic:=by
 refine z0i [(194,z92),(193,zh4)] [] zic [[.int .i64,.int .i64],[.int .i64,.int .i64]] Tryz.func157 yay ⟨zlg,y6o,trivial⟩ ?_;intro vs r hwf h;unfold zic at h
 split at h
 ·rename_i s n
  replace h:=zql h;obtain ⟨s,rfl,h⟩:=h;rw [R.get_ok] at h;refine ⟨0,?_⟩;rw [← h];refine (y5u 0 s n).trans ?_;unfold Sp.cutH;cases decide (n≥s.hi) <;> rfl
 ·simp [R.get] at h
theorem zxb (b:Bx):z11 (y4x 6) zsk [.tmp 2] [[.bool]] [b.V] =
 cond b.s0.emp (some (.bool true,[])) (cond b.s1.emp (some (.bool true,[])) (cond b.s2.emp (some (.bool true,[])) (cond b.s3.emp (some (.bool true,[])) (cond b.s4.emp (some (.bool true,[])) (some (.bool false,[])))))):=by kernel_rfl
theorem z6n:z2y PR B0 112 z2e:=by
 refine z0i [(155,z7o)] [(2,⟨[2,5,6],[],[]⟩)] z2e [[.bool]] Tryz.func112 y63 ⟨zje,trivial⟩ ?_;intro vs r hwf h;unfold z2e at h
 split at h
 ·rename_i b
  replace h:=z2r h;obtain ⟨b,rfl,h⟩:=h;rw [R.get_ok] at h;refine ⟨6,?_⟩;rw [← h];refine (zxb b).trans ?_;unfold Bx.emp;cases b.s0.emp <;> cases b.s1.emp <;> cases b.s2.emp <;> cases b.s3.emp <;> cases b.s4.emp <;> rfl
 ·simp [R.get] at h
theorem y5w (b:Bx):z11 (ydr 5) y0x [.cell 2 53] [[.int .i64,.int .i64,.int .i64,.int .i64]] [b.V]=some (b.low.V,[]):=by kernel_rfl
theorem y5x:z2y PR B0 81 zhe:=by
 refine z0i [] [(3,⟨[1,2,3,5],[1,2,3],[]⟩)] zhe [[.int .i64,.int .i64,.int .i64,.int .i64]] Tryz.func81 ydn trivial ?_;intro vs r hwf h;unfold zhe at h
 split at h
 ·rename_i b
  replace h:=z2r h;obtain ⟨b,rfl,h⟩:=h;rw [R.get_ok] at h;exact ⟨5,(y5w b).trans h⟩
 ·simp [R.get] at h
theorem zfg:z2y PR B0 111 z7e:=by
 refine z0i [(157,zic)] [] z7e [[.int .i64,.int .i64,.int .i64,.int .i64,.int .i64,.int .i64,.int .i64,.int .i64,.int .i64,.int .i64],[.int .i64,.int .i64,.int .i64,.int .i64,.int .i64,.int .i64,.int .i64,.int .i64,.int .i64,.int .i64]] Tryz.func111 ydq ⟨y45,trivial⟩ ?_;intro vs r hwf h;unfold z7e at h
 split at h
 ·rename_i b i a
  replace h:=z2r h;obtain ⟨b,rfl,h⟩:=h;cases hg:(zmk i) with
  | false=>rw [hg] at h; simp [R.get] at h
  | true=>
  rw [hg,R.get_br,z00,R.get_ok] at h;refine ⟨0,?_⟩;rw [← h];rcases zvo hg with rfl | rfl | rfl | rfl | rfl <;> kernel_rfl
 ·simp [R.get] at h
theorem zg6:z2y PR B0 109 z5f:=by
 refine z0i [] [] z5f [[.bool]] Tryz.func109 zu9 trivial ?_;intro vs r hwf h;unfold z5f at h
 split at h
 ·rename_i q
  replace h:=z38 h;obtain ⟨q,rfl,h⟩:=h;rw [R.get_ok] at h;refine ⟨0,?_⟩;rw [← h];refine (zrb 0 q).trans ?_;unfold z5m;cases (q.k==3) <;> cases decide (q.ft≥0) <;> rfl
 ·simp [R.get] at h
theorem z8r:z2y PR B0 197 z2q:=by
 refine z0i [] [] z2q [[.bool]] Tryz.func197 zug trivial ?_;intro vs r hwf h;unfold z2q at h
 split at h
 ·rename_i q
  replace h:=z38 h;obtain ⟨q,rfl,h⟩:=h;rw [R.get_ok] at h;refine ⟨0,?_⟩;rw [← h];refine (zt0 0 q).trans ?_;unfold z5m;cases (q.k==3) <;> cases decide (q.ft≥0) <;> rfl
 ·simp [R.get] at h
theorem zct {q:Qy} (h:z5m q=true):q.ft=0∨q.ft=1∨q.ft=2∨q.ft=3:=by
 unfold z5m at h;simp only [v02,v06] at h;omega
theorem zpy:z2y PR B0 198 z8f:=by
 refine z0i [(197,z2q)] [] z8f [[.int .i64,.int .i64,.int .i64,.int .i64,.int .i64,.int .i64,.int .i64,.int .i64,.int .i64,.int .i64]] Tryz.func198 zu6 ⟨z8r,trivial⟩ ?_;intro vs r hwf h;unfold z8f at h
 split at h
 ·rename_i q b
  replace h:=z38 h;obtain ⟨q,rfl,h⟩:=h;replace h:=z2r h;obtain ⟨b,rfl,h⟩:=h;rw [R.get_ok] at h;refine ⟨0,?_⟩;rw [← h];refine (zs3 0 q b).trans ?_;unfold zdy;cases z5m q <;> rfl
 ·simp [R.get] at h
theorem zmv:z2y PR B0 199 z7m:=by
 refine z0i [(197,z2q)] [] z7m [[.int .i64,.int .i64,.int .i64,.int .i64,.int .i64,.int .i64,.int .i64,.int .i64,.int .i64,.int .i64]] Tryz.func199 zqw ⟨z8r,trivial⟩ ?_;intro vs r hwf h;unfold z7m at h
 split at h
 ·rename_i q b
  replace h:=z38 h;obtain ⟨q,rfl,h⟩:=h;replace h:=z2r h;obtain ⟨b,rfl,h⟩:=h;rw [R.get_ok] at h;refine ⟨0,?_⟩;rw [← h];refine (zpq 0 q b).trans ?_;unfold za5;cases hp:z5m q with
  | false=>rfl
  | true=>rcases zct hp with e | e | e | e <;> rw [e] <;> rfl
 ·simp [R.get] at h
theorem zlw:z2y PR B0 164 z6q:=by
 refine z0i [(112,z2e),(197,z2q)] [] z6q [[.bool]] Tryz.func164 zpx ⟨z6n,z8r,trivial⟩ ?_;intro vs r hwf h;unfold z6q at h
 split at h
 ·rename_i q b
  replace h:=z38 h;obtain ⟨q,rfl,h⟩:=h;replace h:=z2r h;obtain ⟨b,rfl,h⟩:=h;rw [R.get_ok] at h;refine ⟨0,?_⟩;rw [← h];refine (znt 0 q b).trans ?_;unfold zgy;cases hp:z5m q with
  | false=>rfl
  | true=>cases b.emp <;> rcases zct hp with e | e | e | e <;> rw [e] <;> rfl
 ·simp [R.get] at h
theorem zhu:z2y PR B0 66 z6k:=by
 refine z0i [(109,z5f)] [] z6k [[.int .i64,.int .i64,.int .i64,.int .i64,.int .i64,.int .i64,.int .i64,.int .i64,.int .i64,.int .i64]] Tryz.func66 zxn ⟨zg6,trivial⟩ ?_;intro vs r hwf h;unfold z6k at h
 split at h
 ·rename_i q
  replace h:=z38 h;obtain ⟨q,rfl,h⟩:=h;rw [R.get_ok] at h;refine ⟨0,?_⟩;rw [← h];refine (zuq 0 q).trans ?_;unfold z9x;cases hp:z5m q with
  | false=>rfl
  | true=>rcases zct hp with e | e | e | e <;> rw [e] <;> rfl
 ·simp [R.get] at h
theorem zps:z2y PR B0 116 z8n:=by
 refine z0i [(109,z5f)] [] z8n [[.int .i64,.int .i64,.int .i64,.int .i64]] Tryz.func116 zuf ⟨zg6,trivial⟩ ?_;intro vs r hwf h;unfold z8n at h
 split at h
 ·rename_i q p t
  replace h:=z38 h;obtain ⟨q,rfl,h⟩:=h;replace h:=zd3 h;obtain ⟨p,rfl,h⟩:=h;rw [R.get_ok] at h;refine ⟨0,?_⟩;rw [← h];refine (zqn 0 q p t).trans ?_;unfold z86;cases hp:z5m q with
  | false=>rfl
  | true=>rcases zct hp with e | e | e | e <;> rw [e] <;> rfl
 ·simp [R.get] at h
def yh5 (d i:Int) (s:Sp) (rest:Res):Res:=
 cond (decide (i≥d)) (cond (!((s.lo==0)&&((s.hi==0)&&true))) (some (.bool false,[])) (cond s.emp (some (.bool false,[])) (cond (!(z1u s.lo)) (some (.bool false,[])) (cond (!(z1u s.hi)) (some (.bool false,[])) rest))))
  (cond s.emp (some (.bool false,[])) (cond (!(z1u s.lo)) (some (.bool false,[])) (cond (!(z1u s.hi)) (some (.bool false,[])) rest)))
theorem zr2 (d i:Int) (s:Sp) (rest:Res):yh5 d i s rest=cond (y85 d i s) rest (some (.bool false,[])):=by
 unfold yh5 y85;rw [v1c];cases decide (i≥d) <;> cases ((s.lo==0)&&(s.hi==0)) <;> cases s.emp <;> cases z1u s.lo <;> cases z1u s.hi <;> rfl
theorem zpj (b:Bx) (d:Int):z11 (zul 6) zix [.tmp 4] [[.bool]] [b.V,.int .i64 d]=yh5 d 0 b.s0 (yh5 d 1 b.s1 (yh5 d 2 b.s2 (yh5 d 3 b.s3 (yh5 d 4 b.s4 (some (.bool true,[])))))):=by kernel_rfl
theorem zq5:z2y PR B0 107 z8j:=by
 refine z0i [(93,z6d),(155,z7o)] [(2,⟨[1,4,7,8],[],[]⟩)] z8j [[.bool]] Tryz.func107 zut ⟨zev,zje,trivial⟩ ?_;intro vs r hwf h;unfold z8j at h
 split at h
 ·rename_i b d
  replace h:=z2r h;obtain ⟨b,rfl,h⟩:=h;rw [R.get_ok] at h;refine ⟨6,?_⟩;rw [← h];refine (zpj b d).trans ?_;rw [zr2,zr2,zr2,zr2,zr2];unfold y08;cases y85 d 0 b.s0 <;> cases y85 d 1 b.s1 <;> cases y85 d 2 b.s2 <;> cases y85 d 3 b.s3 <;> cases y85 d 4 b.s4 <;> rfl
 ·simp [R.get] at h
theorem zv5:z2y PR B0 108 zb1:=by
 refine z0i [] [] zb1 [[.bool]] Tryz.func108 y1c trivial ?_;intro vs r hwf h;unfold zb1 at h
 split at h
 ·rename_i m q
  replace h:=z3n h;obtain ⟨m,rfl,h⟩:=h;replace h:=z38 h;obtain ⟨q,rfl,h⟩:=h;rw [R.get_ok] at h;refine ⟨0,?_⟩;rw [← h];refine (zxf 0 m q).trans ?_;unfold y1w;cases (q.k==1) <;> cases (q.k==2) <;> cases (q.k==3) <;> cases decide (q.lo≤q.hi) <;> cases (q.ft==0) <;> cases decide (m.c≥2) <;> cases (q.lo==0) <;> cases (q.hi==0) <;> cases decide (q.ft≥0) <;> cases decide (q.ft < m.d) <;> rfl
 ·simp [R.get] at h
theorem z7h:z2y PR B0 65 z2j:=by
 refine z0i [(53,z1z),(108,zb1),(107,z8j)] [] z2j [[.bool]] Tryz.func65 zxa ⟨z5w,zv5,zq5,trivial⟩ ?_;intro vs r hwf h;unfold z2j at h
 split at h
 ·rename_i m q
  replace h:=z3n h;obtain ⟨m,rfl,h⟩:=h;replace h:=z38 h;obtain ⟨q,rfl,h⟩:=h;rw [R.get_ok] at h;refine ⟨0,?_⟩;rw [← h];refine (zua 0 m q).trans ?_;unfold z3f Qy.bx;generalize y08 _ _=rg;cases z2b m <;> cases decide (q.c≥0) <;> cases decide (q.c < m.c) <;> cases decide (q.bu≥0) <;> cases decide (q.bu≤65536) <;> cases rg <;> rfl
 ·simp [R.get] at h
theorem y2f {w:Int} (hb:zau w=true) (hl:(z07 w).lf=false):(0≤(z07 w).f∧(z07 w).f < 4)∧(1≤(z07 w).l∧(z07 w).l < 31)∧(1≤(z07 w).r∧(z07 w).r < 31)∧z1u (z07 w).a=true:=by
 have h:=(ztj hb).2;unfold zaq at h;rw [hl,z02] at h;unfold zlk at h;simp only [v02,v06] at h;exact ⟨⟨h.2.1,h.2.2.1⟩,h.2.2.2.2.1,h.2.2.2.2.2,h.2.2.2.1⟩
theorem y8g (w:Int):z1u (z07 w).v=true:=by
 cases hb:zau w with
 | false=>
  have e:z07 w=Nd.zero:=by unfold z07; rw [hb]; rfl
  rw [e]
  rfl
 | true=>
  have h:=(ztj hb).2;unfold zaq at h;cases hl:(z07 w).lf with
  | true=>
   rw [hl,z00,v02] at h;exact h.2
  | false=>
   rw [hl,z02,v02,v1g] at h;rw [h.1]
   rfl
abbrev ykz (l:List IV) (p:Pt) (a j:Int):St:=
 ⟨[(0,(.list false [(.int .u64)] l)),(3,(.ptr 3 0 0)),(4,(.int .i64 0)),(5,(.ptr 5 0 0)),(6,(.int .i64 a)),(9,(.int .i64 j))],[(3,(some (.box (Pt.cs p)))),(5,(some (.box [(.bool false),(.int .i64 0),(.int .i64 0),(.int .i64 0),(.int .i64 0),(.int .i64 0)])))]⟩
theorem y5t (N:Nat) (l:List IV) (p:Pt):∀ (m j n:Nat) (a:Int),0≤a→j+m=31→m < n →
  lpE (z2o N) (z0j z4r [1,1,0,1,0,0]) ⟨[0,3,4,5,6,9],[3,5],[]⟩ n (ykz l p a (j:Int)) (z06 0 (kSq (z2o N) (z0j z4r [1,1,1]) (z30 (z2o N) none [(ResultVar.tmp 4),(ResultVar.cell 5 111)] [[(.int .i64)],[.bool,(.int .i64),(.int .i64),(.int .i64),(.int .i64),(.int .i64)]]))) =
   some (.tup [.int .i64 (zw4 l p m a).1,(zw4 l p m a).2.V],[])
 | m,j,0,a,_,_,h=>absurd h (by omega)
 | 0,j,n+1,a,ha,hd,_=>by
  have hj:j=31:=by omega
  subst hj;rw [z05,zll,v07 (show ¬ ((31:Nat):Int) < 31 by omega),z02]
  exact zhj N p l _ _ _ _ _ _ _ _ _
 | m+1,j,n+1,a,ha,hd,hn=>by
  have ej:IntKind.wrap IntKind.i64 ((j:Int)+1)=((j+1:Nat):Int):=z82 (by omega)
  rw [z05,zll,v01 (show (j:Int) < 31 by omega),z00,zw4,ej]
  cases hge:decide (a≥ic l.length) with
  | true=>
   rw [z00,z00];exact zhj N p l _ _ _ _ _ _ _ _ _
  | false=>
   have hge:=v0s hge;rw [z02,z02,v01 ha,v01 (show a < ic l.length by omega),v0t,z00]
   generalize (l.getD a.toNat default).toInt=w;cases hb:zau w with
   | false=>
    rw [v0h,z00,z00];exact zrw N p l _ _ _ _ _ _ _ _ _
   | true=>
    rw [v0c,z02,z02];cases hl:(z07 w).lf with
    | true=>
     rw [z00,z00]
     rfl
    | false=>
     obtain ⟨⟨f0,f4⟩,⟨l1,l31⟩,⟨r1,r31⟩,_⟩:=y2f hb hl;rw [z02,z02];have step:∀ c:Bool,(cond c (lpE (z2o N) (z0j z4r [1,1,0,1,0,0]) ⟨[0,3,4,5,6,9],[3,5],[]⟩ n (ykz l p (z07 w).l ((j+1:Nat):Int)) (z06 0 (kSq (z2o N) (z0j z4r [1,1,1]) (z30 (z2o N) none [(ResultVar.tmp 4),(ResultVar.cell 5 111)] [[(.int .i64)],[.bool,(.int .i64),(.int .i64),(.int .i64),(.int .i64),(.int .i64)]]))))
       (lpE (z2o N) (z0j z4r [1,1,0,1,0,0]) ⟨[0,3,4,5,6,9],[3,5],[]⟩ n (ykz l p (z07 w).r ((j+1:Nat):Int)) (z06 0 (kSq (z2o N) (z0j z4r [1,1,1]) (z30 (z2o N) none [(ResultVar.tmp 4),(ResultVar.cell 5 111)] [[(.int .i64)],[.bool,(.int .i64),(.int .i64),(.int .i64),(.int .i64),(.int .i64)]]))))) =
       some (.tup [.int .i64 (cond c (zw4 l p m (z07 w).l) (zw4 l p m (z07 w).r)).1,(cond c (zw4 l p m (z07 w).l) (zw4 l p m (z07 w).r)).2.V],[]):=fun c=>by
      cases c with
      | true=>exact y5t N l p m (j+1) n (z07 w).l (by omega) (by omega) (by omega)
      | false=>exact y5t N l p m (j+1) n (z07 w).r (by omega) (by omega) (by omega)
     obtain e | e | e | e:(z07 w).f=0∨(z07 w).f=1∨(z07 w).f=2∨(z07 w).f=3:=by omega
     all_goals
      rw [e];exact step _
theorem y23:z2y PR B0 217 ze9:=by
 refine z0i [(55,z1y)] [(3,⟨[0,3,4,5,6,9],[3,5],[]⟩)] ze9 [[.int .i64],[.bool,.int .i64,.int .i64,.int .i64,.int .i64,.int .i64]] Tryz.func217 yar ⟨z5t,trivial⟩ ?_;intro vs r hwf h;unfold ze9 at h
 split at h
 ·rename_i l p
  replace h:=zd3 h;obtain ⟨p,rfl,h⟩:=h;rw [R.get_ok] at h;refine ⟨32,?_⟩;rw [← h];exact (y52 32 l p).trans (y5t 32 l p 31 0 32 0 (by omega) rfl (by omega))
 ·simp [R.get] at h
theorem zvf:z2y PR B0 195 zbc:=by
 refine z0i [(217,ze9)] [] zbc [[.int .i64]] Tryz.func195 y38 ⟨y23,trivial⟩ ?_;intro vs r hwf h;unfold zbc at h
 split at h
 ·rename_i l p
  replace h:=zd3 h;obtain ⟨p,rfl,h⟩:=h;rw [R.get_ok] at h;exact ⟨0,(zyf 0 l p).trans h⟩
 ·simp [R.get] at h
theorem z5b {n:Int} (h:z1u n=true) : -2147483648≤n∧n≤2147483647:=by
 unfold z1u at h
 simpa only [v02,v06] using h
theorem zz2 (l:List IV) (p:Pt):∀ (n:Nat) (a:Int),z1u (zw4 l p n a).2.v=true
 | 0,_=>rfl
 | n+1,a=>by
  rw [zw4];cases decide (a≥ic l.length) with
  | true=>rfl
  | false=>
   rw [z02];generalize (l.getD a.toNat default).toInt=w;cases zau w with
   | false=>rfl
   | true=>
    rw [v0c,z02];cases (z07 w).lf with
    | true=>exact y8g w
    | false=>
     rw [z02];cases decide (p.g (z07 w).f.toNat≤(z07 w).a) with
     | true=>exact zz2 l p n _
     | false=>exact zz2 l p n _
theorem yi0 (l:List IV) (p:Pt) : -2147483648≤zq6 l p∧zq6 l p≤2147483647:=z5b (zz2 l p 31 0)
theorem z28 {m:Md} (h:z2b m=true):(1≤m.d∧m.d≤4)∧(1≤m.c∧m.c≤3)∧m.ts.length≤8∧(z1u m.b0=true∧z1u m.b1=true∧z1u m.b2=true)∧m.ts.all (z81 m.d m.c)=true:=by
 unfold z2b zga at h;simp only [v02,v17,v19] at h;obtain ⟨⟨h1,h2,h3,h4,h5⟩,⟨h6,h7,h8⟩,h9⟩:=h;exact ⟨⟨by omega,by omega⟩,⟨by omega,by omega⟩,v03 h5,⟨h6.1,h7.1,h8.1⟩,h9⟩
theorem y7l {m:Md} {k:Int} (h:zc3 m k=true):0≤k∧k < m.c:=by
 unfold zc3 at h
 simpa only [v02,v06] using h
theorem zti {m:Md} {k:Int} (hm:z2b m=true) (h:zc3 m k=true):k=0∨k=1∨k=2:=by
 have:=y7l h
 have:=(z28 hm).2.1
 omega
theorem y03 {m:Md} (hm:z2b m=true) (k:Int) : -2147483648≤zcn m k∧zcn m k≤2147483647:=by
 obtain ⟨h0,h1,h2⟩:=(z28 hm).2.2.2.1;unfold zcn;cases (k==0) with
 | true=>exact z5b h0
 | false=>
  cases (k==1) with
  | true=>exact z5b h1
  | false=>exact z5b h2
abbrev ylu (ts:List IV) (p:Pt) (k s i:Int):St:=
 ⟨[(1,(.int .i64 k)),(5,(.ptr 5 0 0)),(6,(.int .i64 0)),(7,(.int .i64 s)),(15,(.list true [(.int .i64),(.list false [(.int .u64)])] ts)),(16,(.int .i64 (ic (List.length ts)))),(17,(.int .i64 i))],[(5,(some (.box (Pt.cs p))))]⟩
theorem zys (N:Nat) (ts:List IV) (p:Pt) (k:Int) (hts:ts.length≤8):∀ (m i n:Nat) (s:Int),i+m=ts.length→m < n → -2147483648*(i+1)≤s∧s≤2147483648*(i+1) →
  lpE (z29 N) (z0j z3g [1,1,0,1,0,0]) ⟨[1,5,6,7,15,16,17],[5],[]⟩ n (ylu ts p k s (i:Int)) (z06 0 (kSq (z29 N) (z0j z3g [1,1,1]) (z30 (z29 N) none [(ResultVar.tmp 6)] [[(.int .i64)]]))) =
   some (.int .i64 (evF k p (ts.drop i) s),[])
 | m,i,0,s,_,h,_=>absurd h (by omega)
 | 0,i,n+1,s,hd,_,_=>by
  have hi:i=ts.length:=by omega
  subst hi;rw [z05,zgq,zbh (v09 _),z02,v26];exact zny N p _ _ _ _ _ _
 | m+1,i,n+1,s,hd,hn,hs=>by
  have hi:i < ts.length:=by omega
  have ei:IntKind.wrap IntKind.i64 ((i:Int)+1)=((i+1:Nat):Int):=z82 (by omega)
  rw [z05,zgq,ei,z9k hi,z00,zep,v0t,z00,zah hi,v0i hi,evF];have hv:=yi0 (zdz ts[i]) p;cases hc:((ts[i].cell 0).toInt==k) with
  | true=>
   rw [z00,z00];have ew:IntKind.wrap IntKind.i64 (s+zq6 (zdz ts[i]) p)=s+zq6 (zdz ts[i]) p:=z19 (by omega) (by omega)
   have ih:=zys N ts p k hts m (i+1) n (s+zq6 (zdz ts[i]) p) (by omega) (by omega) (by omega)
   rw [← ew] at ih;refine v4a ih ?_;rw [ew]
  | false=>
   rw [z02,z02];exact zys N ts p k hts m (i+1) n s (by omega) (by omega) (by omega)
theorem ztu:z2y PR B0 159 zbq:=by
 refine z0i [(195,zbc)] [(3,⟨[1,5,6,7,15,16,17],[5],[]⟩)] zbq [[.int .i64]] Tryz.func159 y46 ⟨zvf,trivial⟩ ?_;intro vs r hwf h;unfold zbq at h
 split at h
 ·rename_i m k p
  replace h:=z3n h;obtain ⟨m,rfl,h⟩:=h;replace h:=zd3 h;obtain ⟨p,rfl,h⟩:=h;cases hg:(z2b m&&zc3 m k) with
  | false=>rw [hg] at h; simp [R.get] at h
  | true=>
  rw [hg,R.get_br,z00,R.get_ok] at h;rw [v02] at hg;have hb:=y03 hg.1 k;have run:=zys 10 m.ts p k (z28 hg.1).2.2.1 m.ts.length 0 10 (zcn m k) (by omega) (by have:=(z28 hg.1).2.2.1; omega) (by omega)
  refine ⟨10,?_⟩;rw [← h];refine (zzm 10 m k p).trans ?_;rcases zti hg.1 hg.2 with rfl | rfl | rfl <;> exact run
 ·simp [R.get] at h
theorem zv9:z2y PR B0 115 zbv:=by
 refine z0i [(53,z1z),(159,zbq)] [] zbv [[.int .i64]] Tryz.func115 y3y ⟨z5w,ztu,trivial⟩ ?_;intro vs r hwf h;unfold zbv at h
 split at h
 ·rename_i m k p
  replace h:=z3n h;obtain ⟨m,rfl,h⟩:=h;replace h:=zd3 h;obtain ⟨p,rfl,h⟩:=h;rw [R.get_ok] at h;refine ⟨0,?_⟩;rw [← h];refine (zzd 0 m k p).trans ?_;unfold z6p zc3;cases z2b m with
  | false=>rfl
  | true=>
   cases h0:decide (k < 0) with
   | true=>rw [v07 (show ¬ 0≤k by have:=v0f h0; omega)]; rfl
   | false=>
    rw [v01 (show 0≤k by have:=v0s h0; omega)]
    cases h1:decide (k≥m.c) with
    | true=>rw [v07 (show ¬ k < m.c by have:=v0f h1; omega)]; rfl
    | false=>rw [v01 (show k < m.c by have:=v0s h1; omega)]; rfl
 ·simp [R.get] at h
abbrev yks (m:Md) (q:Qy) (p:Pt) (own i:Int):St:=
 ⟨[(4,(.ptr 4 0 0)),(5,(.ptr 5 0 0)),(6,(.ptr 6 0 0)),(8,(.bool false)),(9,(.int .i64 own)),(36,(.int .i64 (Md.c m))),(37,(.int .i64 i))],[(4,(some (.box (Md.cs m)))),(5,(some (.box (Qy.cs q)))),(6,(some (.box (Pt.cs p))))]⟩
def ybu (m:Md) (q:Qy) (p:Pt) (own:Int):Nat→Nat→Bool
 | 0,_=>false
 | d+1,i=>(!((i:Int)==q.c)&&decide (z6p m (i:Int) p≥own))||ybu m q p own d (i+1)
theorem y8b (m:Md) (q:Qy) (p:Pt) (own:Int):∀ d i,ybu m q p own d i=(List.range' i d).any fun c=>!((c:Int)==q.c)&&decide (z6p m (c:Int) p≥own)
 | 0,_=>rfl
 | d+1,i=>by rw [ybu,y8b m q p own d (i+1),List.range'_succ,List.any_cons]
theorem zwm (N:Nat) (m:Md) (q:Qy) (p:Pt) (own:Int) (hc:0≤m.c∧m.c≤3):∀ (d i n:Nat),((i+d:Nat):Int)=m.c→d < n →
  lpE (z1i N) (z0j z26 [1,1,1,0,1,0,1,1,1,0,0,1,0,0]) ⟨[4,5,6,8,9,36,37],[4,5,6],[]⟩ n (yks m q p own (i:Int)) (z06 1 (kSq (z1i N) (z0j z26 [1,1,1,0,1,0,1,1,1,0,1]) (z06 0 (kSq (z1i N) (z0j z26 [1,1,1,1]) (z30 (z1i N) none [(ResultVar.tmp 8)] [[.bool]]))))) =
   some (.bool (ybu m q p own d i),[])
 | d,i,0,_,h=>absurd h (by omega)
 | 0,i,n+1,hd,_=>by
  rw [z05,zeq,v07 (show ¬ (i:Int) < m.c by omega),z02]
  exact zjp N m q p _ _ _ _
 | d+1,i,n+1,hd,hn=>by
  have ei:IntKind.wrap IntKind.i64 ((i:Int)+1)=((i+1:Nat):Int):=z82 (by omega)
  rw [z05,zeq,ei,v01 (show (i:Int) < m.c by omega),z00,ybu]
  have ih:=zwm N m q p own hc d (i+1) n (by omega) (by omega)
  have en:((i:Int) != q.c)=!((i:Int)==q.c):=rfl;rw [en];cases ((i:Int)==q.c) with
  | true=>exact ih
  | false=>
   rw [v0h,z00,v0r];cases decide (z6p m (i:Int) p≥own) with
   | true=>exact zk6 N m q p _ _ _ _
   | false=>exact ih
theorem z9e {m:Md} {q:Qy} (h:z3f m q=true):z2b m=true∧(0≤q.c∧q.c < m.c)∧(0≤q.bu∧q.bu≤65536)∧y08 q.bx m.d=true∧y1w m q=true:=by
 unfold z3f at h;simp only [v02,v06] at h;exact ⟨h.1,⟨h.2.1,h.2.2.1⟩,⟨h.2.2.2.1,h.2.2.2.2.1⟩,h.2.2.2.2.2.1,h.2.2.2.2.2.2⟩
theorem zn8 {m:Md} {q:Qy} (h:y1w m q=true):(q.k=1∧q.lo≤q.hi∧q.ft=0∧q.fl=false)∨(q.k=2∧2≤m.c∧q.lo=0∧q.hi=0∧q.ft=0∧q.fl=false)∨(q.k=3∧(0≤q.ft∧q.ft < m.d)∧q.lo=0∧q.hi=0):=by
 unfold y1w at h;cases h1:(q.k==1) with
 | true=>
  rw [h1,z00] at h;simp only [v02,v06,v1g,v17] at h;exact .inl ⟨v1g.1 h1,h⟩
 | false=>
  rw [h1,z02] at h;cases h2:(q.k==2) with
  | true=>
   rw [h2,z00] at h;simp only [v02,v06,v1g,v17,ge_iff_le] at h;exact .inr (.inl ⟨v1g.1 h2,h⟩)
  | false=>
   rw [h2,z02] at h;cases h3:(q.k==3) with
   | true=>
    rw [h3,z00] at h;simp only [v02,v06,v1g,ge_iff_le] at h;exact .inr (.inr ⟨v1g.1 h3,⟨h.1,h.2.1⟩,h.2.2⟩)
   | false=>rw [h3,z02] at h; cases h
theorem zg2:z2y PR B0 70 z5i:=by
 refine z0i [(115,zbv),(65,z2j),(116,z8n),(114,zam)] [(9,⟨[4,5,6,8,9,36,37],[4,5,6],[]⟩)] z5i [[.bool]] Tryz.func70 zuk ⟨zv9,z7h,zps,zoj,trivial⟩ ?_;intro vs r hwf h;unfold z5i at h
 split at h
 ·rename_i m q p t
  replace h:=z3n h;obtain ⟨m,rfl,h⟩:=h;replace h:=z38 h;obtain ⟨q,rfl,h⟩:=h;replace h:=zd3 h;obtain ⟨p,rfl,h⟩:=h;rw [R.get_ok] at h;refine ⟨10,?_⟩;rw [← h];refine (zsq 10 m q p t).trans ?_;unfold z5u;cases hr:z3f m q with
  | false=>rfl
  | true=>
   obtain ⟨hm,_,_,_,hk⟩:=z9e hr;have hmp:=z28 hm;rw [v0c,z02,v0r];cases h1:(q.k==1) with
   | true=>rfl
   | false=>
    rw [z02,z02];cases h2:(q.k==2) with
    | true=>
     rw [z00,z00];refine (zwm 10 m q p _ (by omega) m.c.toNat 0 10 (by omega) (by omega)).trans ?_
     rw [y8b,← v3r]
     rfl
    | false=>
     rw [z02,z02];rcases zn8 hk with ⟨e,_⟩ | ⟨e,_⟩ | ⟨_,⟨f0,fd⟩,_⟩
     ·rw [e] at h1; cases h1
     ·rw [e] at h2; cases h2
     ·have step:∀ x:Int,cond (decide (x≥t)) (some (V.bool false,[])) (cond q.fl (some (V.bool (decide (z6p m q.c (z86 q p t) > z6p m q.c p)),[])) (some (V.bool (decide (z6p m q.c (z86 q p t) < z6p m q.c p)),[]))) =
        some (V.bool (cond (decide (x≥t)) false (cond q.fl (decide (z6p m q.c (z86 q p t) > z6p m q.c p)) (decide (z6p m q.c (z86 q p t) < z6p m q.c p)))),([]:List (List V))):=fun x=>by
       cases decide (x≥t) with
       | true=>rfl
       | false=>cases q.fl <;> rfl
      obtain e | e | e | e:q.ft=0∨q.ft=1∨q.ft=2∨q.ft=3:=by omega
      all_goals
       rw [e];exact step _
 ·simp [R.get] at h
open Go Go.Proofs Go.RowKit Go.Sort
theorem zqq (x:Int):∀ l,(yht x l).Perm (x :: l)
 | []=>List.Perm.refl _
 | y :: r=>by
  rw [yht];cases decide (x≤y) with
  | true=>exact List.Perm.refl _
  | false=>exact ((zqq x r).cons y).trans (List.Perm.swap x y r)
theorem zci:∀ l,(zgd l).Perm l
 | []=>List.Perm.refl _
 | x :: r=>(zqq x (zgd r)).trans ((zci r).cons x)
theorem zrx (x:Int):∀ {l:List Int},l.Pairwise (·≤·)→(yht x l).Pairwise (·≤·)
 | [],_=>by simp [yht]
 | y :: r,h=>by
  rw [yht];cases hd:decide (x≤y) with
  | true=>
   have hd:=v0f hd;rw [z00];rw [List.pairwise_cons] at h ⊢
   refine ⟨fun z hz=>?_,by rw [List.pairwise_cons]; exact h⟩
   rcases v15.1 hz with rfl | hz
   ·exact hd
   ·exact Int.le_trans hd (h.1 z hz)
  | false=>
   have hd:=v0s hd;rw [z02];rw [List.pairwise_cons] at h ⊢
   refine ⟨fun z hz=>?_,zrx x h.2⟩
   rcases v15.1 ((zqq x r).mem_iff.1 hz) with rfl | hz
   ·omega
   ·exact h.1 z hz
theorem zpe:∀ l,(zgd l).Pairwise (·≤·)
 | []=>List.Pairwise.nil
 | x :: r=>zrx x (zpe r)
theorem y6b (l:List Int):(l.mergeSort fun x y=>decide (x≤y))=zgd l:=by
 refine List.Perm.eq_of_pairwise (le:=(·≤·)) (fun a b _ _ h1 h2=>Int.le_antisymm h1 h2) ?_ (zpe l) ((List.mergeSort_perm l _).trans (zci l).symm)
 have:=List.pairwise_mergeSort (le:=fun (x y:Int)=>decide (x≤y)) (fun a b c h1 h2=>v01 (Int.le_trans (v0f h1) (v0f h2))) (fun a b=>by
  rcases Int.le_total a b with h | h
  ·rw [v01 h]; rfl
  ·rw [v01 h,Bool.or_true]) l
 exact this.imp fun h=>by simpa using h
theorem y0g (x:Int):∀ (l:List Int) (p:Int),y9g p (l++[x])=y9g p l++cond ((l.getLast?.getD p)==x) [] [x]
 | [],p=>by
  show cond (x==p) (y9g x []) (x :: y9g x [])=_;rw [show ((([]:List Int).getLast?.getD p)==x)=(x==p) by show (p==x)=(x==p); rw [v2w,v1g,v1g]; exact eq_comm]
  cases (x==p) <;> rfl
 | y :: r,p=>by
  rw [v1k,y9g,y9g,y0g x r y];have e:((y :: r).getLast?.getD p)=r.getLast?.getD y:=by
   cases r with
   | nil=>rfl
   | cons z r=>rw [List.getLast?_cons_cons,List.getLast?_eq_some_getLast (List.cons_ne_nil z r)]; rfl
  rw [e];cases (y==p) <;> rfl
theorem yc6 (x:Int) (l:List Int):y3w (l++[x])=y3w l++cond (l.getLast?==some x) [] [x]:=by
 cases l with
 | nil=>rfl
 | cons y r=>
  rw [v1k,y3w,y3w,y0g,v1k]
  congr 2
  have:((y :: r).getLast?==some x)=(r.getLast?.getD y==x):=by
   cases r with
   | nil=>show (some y==some x)=(y==x); rw [v2w]; simp
   | cons z r=>rw [List.getLast?_cons_cons,List.getLast?_eq_some_getLast (List.cons_ne_nil z r)]; rw [v2w]; simp
  rw [this]
theorem y2r (l:List Int):Lib.compact l=y3w l:=by
 have key:∀ m,m≤l.length→Lib.compactUpTo l.toArray m=y3w (l.take m):=by
  intro m
  induction m with
  | zero=>intro _; rfl
  | succ m ih=>
   intro hm;have e1:Lib.compactUpTo l.toArray (m+1)=Lib.compactUpTo l.toArray m++cond (Lib.keeps l.toArray m) [l.toArray[m]!] []:=by
    unfold Lib.compactUpTo;rw [List.range_succ,List.filter_append,v3p]
    congr 1
    cases hk:Lib.keeps l.toArray m <;> simp [hk]
   have hml:m < l.length:=by omega
   have e2:l.toArray[m]! = l[m]:=by simp [hml]
   rw [e1,ih (by omega),List.take_succ_eq_append_getElem hml,yc6,e2]
   congr 1
   cases m with
   | zero=>simp [Lib.keeps]
   | succ k=>
    have hk:k < l.length:=by omega
    have e3:(l.take (k+1)).getLast?=some l[k]:=by rw [List.getLast?_take]; simp [hk]
    rw [e3];have e4:l.toArray[k]! = l[k]:=by simp [hk]
    cases hq:Lib.keeps l.toArray (k+1) with
    | true=>
     have:¬ (l[k+1]=l[k]):=fun he=>by
      rw [Lib.keeps_neg (Nat.succ_pos k) (by show l.toArray[k+1]! = l.toArray[k]!; rw [e2,e4]; exact he)] at hq
      cases hq
     rw [z00];rw [show (some l[k]==some l[k+1])=false by simp; exact fun h=>this h.symm]
     rfl
    | false=>
     have:l[k+1]=l[k]:=by
      by_cases he:l[k+1]=l[k]
      ·exact he
      ·rw [Lib.keeps_pos (by show l.toArray[k+1]!≠l.toArray[k]!; rw [e2,e4]; exact he)] at hq
       cases hq
     rw [z02,this];rw [show (some l[k]==some l[k])=true by simp]
     rfl
 unfold Lib.compact;rw [key _ (v09 _),v0w]
theorem y7a:∀ (l:List Int) (p:Int),(y9g p l).length≤l.length
 | [],_=>v09 _
 | x :: r,p=>by
  have:=y7a r x
  rw [y9g];cases (x==p)
  ·rw [z02,v05,v05]; omega
  ·rw [z00,v05]; omega
theorem zxs (l:List Int):(y3w l).length≤l.length:=by
 cases l with
 | nil=>exact v09 _
 | cons x r=>rw [y3w,v05,v05]; have:=y7a r x; omega
theorem zy9 {p x:Int}:∀ {l:List Int},x∈y9g p l→x∈l
 | [],h=>by cases h
 | y :: r,h=>by
  rw [y9g] at h;cases hb:(y==p)
  ·rw [hb,z02] at h
   rcases v15.1 h with h | h
   ·exact h ▸ v0a ..
   ·exact v0b _ (zy9 h)
  ·rw [hb,z00] at h
   exact v0b _ (zy9 h)
theorem yep {x:Int} {l:List Int} (h:x∈y3w l):x∈l:=by
 cases l with
 | nil=>cases h
 | cons y r=>
  rcases v15.1 h with h | h
  ·exact h ▸ v0a ..
  ·exact v0b _ (zy9 h)
theorem zhs (l:List Int):(iZ l).length=l.length:=v12 ..
theorem y05 (l:List Int):(iZ l).map IV.toInt=l:=by
 unfold iZ;rw [v3x];exact List.map_id l
theorem zqd (l:List Int):zd2 (iZ l)=l.map (Value.int .i64):=by
 unfold zd2 iZ;rw [v3x]
 rfl
theorem ya9 (l:List IV):zd2 l=(l.map IV.toInt).map (Value.int .i64):=by
 unfold zd2;rw [v3x]
 rfl
abbrev zty:Int→Value:=Value.int .i64
theorem zm0 {w:World} {e g n cap:Nat} {zs:List Int} (h:w.ownsRow 0 e 1 (.slice (some ⟨g,0,none⟩) n cap) zs.length (zs.map zty)):n=zs.length∧n≤cap∧cap≤maxLen∧g < w.heap.size∧Holds zty w g 0 zs.toArray:=by
 rcases h.2 with ⟨h1,_⟩ | ⟨g',cap',cur,h1,_,h2,h3,h4,h5,h6⟩
 ·cases h1
 ·simp only [Value.slice.injEq,v00,Addr.mk.injEq,v18] at h1
  obtain ⟨rfl,rfl,rfl⟩:=h1;refine ⟨rfl,h3,h4,(Array.getElem?_eq_some_iff.1 h2).1,fun j hj=>?_⟩
  have hj':j < zs.length:=by simpa using hj
  rw [v0n];constructor
  ·have hc:cur[j]?=some (zty zs[j]):=by
    have:(cur.toList.take (zs.length*1))[j]?=some (zty zs[j]):=by rw [h6]; simp [hj']
    rw [v13,v1f (by omega)] at this
    simpa using this
   simp only [World.cell?,h2];simp [hc,hj']
  ·simp [World.frozen?,h2]
theorem yg5 {w:World} {g:Nat} {cur:Array Value} {e:TypeId} {fr:Nat × Nat} (h:w.heap[g]?=some (.cells cur e fr)) (q:Nat) (os:Array Obj) (zs:List Int) :
  (grow (putRow zty (Sort.ahead w q) g 0 zs.toArray) os).heap[g]?=some (.cells (putCells zty 0 zs.toArray cur) e fr):=by
 have hg:g < w.heap.size:=(Array.getElem?_eq_some_iff.1 h).1;have h0:(putRow zty (Sort.ahead w q) g 0 zs.toArray).heap[g]?=some (.cells (putCells zty 0 zs.toArray cur) e fr):=by
  unfold putRow mapBlock;simp [v3d,onCells,h]
 unfold grow;simp only;rw [v38 (by rw [size_putRow]; exact hg)]
 exact h0
theorem ydo {cur:Array Value} {zs:List Int} (h:zs.length≤cur.size):(putCells zty 0 zs.toArray cur).size=cur.size∧(putCells zty 0 zs.toArray cur).toList.take zs.length=zs.map zty:=by
 refine ⟨by simp [putCells],?_⟩
 apply List.ext_getElem?;intro k;rw [v13]
 by_cases hk:k < zs.length
 ·rw [v1f hk]
  have hc:k < cur.size:=by omega
  simp [putCells,hk,hc]
 ·rw [v10 hk]
  simp [hk]
theorem y59 {w:World} {e g n cap:Nat} {zs:List Int} (h:w.ownsRow 0 e 1 (.slice (some ⟨g,0,none⟩) n cap) zs.length (zs.map zty)) (q:Nat) (os:Array Obj) (ys rest:List Int) (hl:(ys++rest).length=zs.length) :
  w.grownBy (grow (putRow zty (Sort.ahead w q) g 0 (ys++rest).toArray) os) (some g) ∧
   (grow (putRow zty (Sort.ahead w q) g 0 (ys++rest).toArray) os).ownsRow 0 e 1 (.slice (some ⟨g,0,none⟩) ys.length cap) ys.length (ys.map zty):=by
 have hh:=zm0 h;rcases h.2 with ⟨h1,_⟩ | ⟨g',cap',cur,h1,_,h2,h3,h4,h5,h6⟩
 ·cases h1
 ·simp only [Value.slice.injEq,v00,Addr.mk.injEq,v18] at h1
  obtain ⟨rfl,rfl,rfl⟩:=h1;rw [v08] at hl;have hcur:(ys++rest).length≤cur.size:=by rw [v08]; omega
  obtain ⟨p1,p2⟩:=ydo (zs:=ys++rest) hcur;refine ⟨⟨rfl,rfl,rfl,?_,fun k hk hne=>?_⟩,by simp,.inr ⟨g,cap,_,rfl,v0y _,yg5 h2 q os _,by omega,h4,by rw [p1,h5],?_⟩⟩
  ·show w.heap.size≤((putRow zty (Sort.ahead w q) g 0 (ys++rest).toArray).heap++os).size
   rw [Array.size_append,size_putRow];exact Nat.le_add_right _ _
  ·have hne':g≠k:=fun e=>hne (by rw [e])
   unfold grow;simp only;rw [v38 (by rw [size_putRow]; exact hk)]
   unfold putRow mapBlock;simp [v3d,hne']
  ·rw [v40]
   have:=congrArg (List.take ys.length) p2
   rw [v3t,v1z (by rw [v08]; omega),v3p,List.take_left' (by simp)] at this
   exact this
theorem zwe (w:World) (r:Option Nat):w.grownBy w r:=⟨rfl,rfl,rfl,v09 _,fun _ _ _=>rfl⟩
theorem ydy {l:List IV} (h:∀ x∈l,IntKind.i64.min≤x.toInt∧x.toInt≤IntKind.i64.max) {ys:List Int} (hs:∀ y∈ys,y∈l.map IV.toInt):∀ x∈iZ ys,IntKind.i64.min≤x.toInt∧x.toInt≤IntKind.i64.max:=by
 intro x hx;obtain ⟨y,hy,rfl⟩:=List.mem_map.1 hx;obtain ⟨z,hz,hzy⟩:=List.mem_map.1 (hs y hy);show IntKind.i64.min≤y∧y≤IntKind.i64.max;rw [← hzy];exact h z hz
theorem zt6 {w:World} {e:Nat} {v:Value} {l:List IV} (h:w.ownsRow 0 e 1 v l.length (zd2 l)):(v = .slice none 0 0∧l=[])∨∃ g cap,v = .slice (some ⟨g,0,none⟩) (l.map IV.toInt).length cap∧w.ownsRow 0 e 1 (.slice (some ⟨g,0,none⟩) (l.map IV.toInt).length cap) (l.map IV.toInt).length ((l.map IV.toInt).map zty):=by
 rcases h.2 with ⟨h1,h2⟩ | ⟨g,cap,cur,h1,_⟩
 ·exact .inl ⟨h1,List.length_eq_zero_iff.1 h2⟩
 ·rw [h1] at h
  refine .inr ⟨g,cap,by rw [h1,v12],?_⟩
  rw [v12,← ya9];exact h
theorem y9y:zzs PR 201 y7m:=by
 intro w v l l' rs ys hown hrng hlen hr hg;unfold y7m at hg;simp only at hg
 split at hg
 ·simp only [v00] at hg
  subst hg;obtain rfl:ys=[]:=by
   cases ys with
   | nil=>rfl
   | cons y ys=>simp [zoi] at hr
  refine Does.of_calls Tryz.func201 (by kernel_rfl) (by kernel_rfl) ?_
  have hmem:∀ y∈zgd (l.map IV.toInt),y∈l.map IV.toInt:=fun y hy=>(zci _).mem_iff.1 hy
  rcases zt6 hown with ⟨rfl,rfl⟩ | ⟨g,cap,rfl,ho⟩
  ·refine (Tryz.slices_Sort_int_none none 0 w).mono ?_
   rintro e w' ⟨rfl,rfl⟩
   exact ⟨_,rfl,zwe _ _,fun x hx=>(by cases hx),fun h=>(by cases h),fun _=>hown⟩
  ·obtain ⟨_,_,hcm,hgs,hH⟩:=zm0 ho
   refine (Tryz.slices_Sort_int g 0 cap (l.map IV.toInt) w hH hgs (by rw [v12]; unfold strMax at hlen; omega)).mono ?_
   rintro e w' ⟨rfl,q,os,rfl⟩
   rw [y6b];have hl:(zgd (l.map IV.toInt)++[]).length=(l.map IV.toInt).length:=by rw [v2n]; exact (zci _).length_eq
   have hp:=y59 ho q os (zgd (l.map IV.toInt)) [] hl;rw [v2n] at hp hl;refine ⟨_,rfl,hp.1,ydy hrng hmem,fun h=>(by cases h),fun _=>?_⟩
   rw [zqd,zhs,← hl];exact hp.2
 ·cases hg
theorem zyh:zzs PR 202 zl7:=by
 intro w v l l' rs ys hown hrng hlen hr hg;unfold zl7 at hg;simp only at hg
 split at hg
 ·simp only [v00] at hg
  subst hg;obtain rfl:ys=[]:=by
   cases ys with
   | nil=>rfl
   | cons y ys=>simp [zoi] at hr
  refine Does.of_calls Tryz.func202 (by kernel_rfl) (by kernel_rfl) ?_
  rcases zt6 hown with ⟨rfl,rfl⟩ | ⟨g,cap,rfl,ho⟩
  ·refine (Tryz.slices_Compact_int_empty none 0 w).mono ?_
   rintro e w' ⟨rfl,rfl⟩
   exact ⟨_,rfl,zwe _ _,fun x hx=>(by cases hx),fun _=>⟨hown,fun b hb=>(by simp [Value.ownBlock] at hb)⟩,fun h=>by cases h⟩
  ·obtain ⟨_,hnc,hcm,hgs,hH⟩:=zm0 ho
   refine (Tryz.slices_Compact_int g 0 cap (l.map IV.toInt) w hH (by rw [v12]; unfold strMax at hlen; omega) hnc).mono ?_
   rintro e w' ⟨rfl,q,rfl⟩
   rw [y2r];have hlc:=zxs (l.map IV.toInt);have hp:=y59 ho q #[] (y3w (l.map IV.toInt)) (List.replicate ((l.map IV.toInt).length - (y3w (l.map IV.toInt)).length) 0) (by rw [v08,v3c]; omega)
   rw [grow_empty] at hp;refine ⟨_,rfl,hp.1,ydy hrng fun y hy=>yep hy,fun _=>⟨?_,fun b hb=>.inl hb⟩,fun h=>by cases h⟩
   rw [zqd,zhs];exact hp.2
 ·cases hg
set_option maxHeartbeats 1000000 in
theorem zwk (a b x:Int) (B:Nat) (W:World) (ha:W.cell? ⟨B,0,none⟩=some (.int .i64 a)) (hb:W.cell? ⟨B,1,none⟩=some (.int .i64 b)) :
  FnGives Tryz.prog 169 #[.pointer (some ⟨B,0,none⟩)] #[.int .i64 x] (.bool (decide (x < a)||decide (x≥b))) W:=by
 show Calls Tryz.prog 169 #[.int .i64 x,.pointer (some ⟨B,0,none⟩)] W _
 go_enter Tryz.func169,Tryz.ntmps169
 go_wp2
 all_goals (go_ret; exact ⟨by simp_all,0,rfl⟩)
set_option maxHeartbeats 1000000 in
theorem y9m (fv:Value) (w:World):Calls Tryz.prog 167 #[.slice none 0 0,fv] w fun e w'=>e = .returned (.slice none 0 0)∧∃ q,w'=w.drewN q:=by
 go_enter Tryz.func167,Tryz.ntmps167
 go_wp2_with (go_at_call 200; refine (Tryz.slices_IndexFunc_empty (α:=Int) none 0 fv _).mono ?_; rintro e w' ⟨rfl,rfl⟩)
 go_ret
 exact ⟨rfl,0,rfl⟩
theorem ya4 {w:World} {v:Value} {f:Nat} {a b:Int} {ys:List Value} (h:zoi w v [.clo f [.bor [.int .i64 a,.int .i64 b]]] ys):∃ B,ys=[.func (.func f) #[] #[.pointer (some ⟨B,0,none⟩)]]∧B < w.heap.size∧w.cell? ⟨B,0,none⟩=some (.int .i64 a)∧w.cell? ⟨B,1,none⟩=some (.int .i64 b)∧v.ownBlock≠some B:=by
 cases ys with
 | nil=>simp [zoi] at h
 | cons y r=>
  cases r with
  | cons _ _=>simp [zoi] at h
  | nil=>
   simp only [zoi] at h;obtain ⟨B,c,T,rfl,hh,hc,hne⟩:=h;refine ⟨B,rfl,(Array.getElem?_eq_some_iff.1 hh).1,?_,?_,hne⟩
   ·simp only [World.cell?,hh]
    rw [← v1v,hc]
    rfl
   ·simp only [World.cell?,hh]
    rw [← v1v,hc]
    rfl
theorem y1g:zzs PR 167 zqc:=by
 intro w v l l' rs ys hown hrng hlen hr hg;unfold zqc at hg;simp only at hg
 split at hg
 ·rename_i f a b
  cases hf:Nat.beq f 169 with
  | false=>rw [hf,z02] at hg; cases hg
  | true=>
   rw [hf,z00,v00] at hg;subst hg;obtain rfl:=z1o.1 hf;obtain ⟨B,rfl,hBs,ha,hb,hne⟩:=ya4 hr;have pe:znl a b (l.map IV.toInt)=(l.map IV.toInt).filter fun x=>!(decide (x < a)||decide (x≥b)):=rfl
   have eg:∀ args w,(callFunc 169 args).run Tryz.prog w = .ok (.enter 169 args) w:=enters_of Tryz.func169 (by kernel_rfl) rfl
   have hp:PredAt Tryz.prog 169 #[.pointer (some ⟨B,0,none⟩)] zty (fun x=>decide (x < a)||decide (x≥b)) w:=
    fun W x hbw=>zwk a b x B W ((hbw.cell (p:=⟨B,0,none⟩) hBs).trans ha) ((hbw.cell (p:=⟨B,1,none⟩) hBs).trans hb)
   rcases zt6 hown with ⟨rfl,rfl⟩ | ⟨g,cap,rfl,ho⟩
   ·refine Does.of_calls Tryz.func167 (by kernel_rfl) (by kernel_rfl) ((y9m _ w).mono ?_)
    rintro e w' ⟨rfl,q,rfl⟩
    exact ⟨_,rfl,⟨rfl,rfl,rfl,v09 _,fun _ _ _=>rfl⟩,fun x hx=>(by cases hx),fun _=>⟨World.ownsRow_nil _ 0 _ _,fun b hb=>(by simp [Value.ownBlock] at hb)⟩,fun h=>by cases h⟩
   ·obtain ⟨_,hnc,hcm,hgs,hH⟩:=zm0 ho
    have hBg:B≠g:=fun e=>hne (by rw [e]; rfl)
    have hpo:PredOver Tryz.prog 169 #[.pointer (some ⟨B,0,none⟩)] zty (fun x=>decide (x < a)||decide (x≥b)) g 0 (l.map IV.toInt).toArray.size w:=
     fun n os dk x _=>by
      have hcell:∀ o u,w.cell? ⟨B,o,none⟩=some u→(sortWorld zty w g 0 n dk os).cell? ⟨B,o,none⟩=some u:=fun o u hu=>by
       unfold sortWorld;rw [cell?_grow _ _ _ (by show B < (putRow _ _ _ _ _).heap.size; rw [size_putRow]; exact hBs),cell?_putRow_other _ _ g 0 _ _ (Or.inl hBg)]
       exact hu
      exact zwk a b x B _ (hcell 0 _ ha) (hcell 1 _ hb)
    refine Does.of_calls Tryz.func167 (by kernel_rfl) (by kernel_rfl) ?_
    have hcall:=Tryz.slices_DeleteFunc zty (fun _=>rfl) (fun x=>decide (x < a)||decide (x≥b)) 169 #[.pointer (some ⟨B,0,none⟩)] eg 0 Tryz.zeroValue3 g 0 cap (l.map IV.toInt).toArray w hp hpo hH (by simp; unfold strMax at hlen; omega) (by simp; rw [v12] at hnc; exact hnc)
    have es:(l.map IV.toInt).toArray.size=(l.map IV.toInt).length:=by simp
    rw [es] at hcall;refine hcall.mono ?_
    rintro e w' ⟨rfl,q,rfl⟩
    have ef:(l.map IV.toInt).toArray.toList.filter (fun x=>!(decide (x < a)||decide (x≥b)))=znl a b (l.map IV.toInt):=rfl
    rw [ef];have hlc:(znl a b (l.map IV.toInt)).length≤(l.map IV.toInt).length:=v43 ..
    have hp2:=y59 ho q #[] (znl a b (l.map IV.toInt)) (List.replicate ((l.map IV.toInt).length - (znl a b (l.map IV.toInt)).length) 0) (by rw [v08,v3c]; omega)
    rw [grow_empty] at hp2;refine ⟨_,rfl,hp2.1,ydy hrng fun y hy=>(List.mem_filter.1 hy).1,fun _=>⟨?_,fun b hb=>.inl hb⟩,fun h=>by cases h⟩
    rw [zqd,zhs];exact hp2.2
 ·cases hg
open Go Go.Proofs
set_option maxRecDepth 100000
theorem y0t {dim n:Int}:∀ {l:List IV} {i k:Nat} (hk:k < l.length),zd5 dim n i l=true→zau (l[k]).toInt=true∧zy0 dim n (i+k) (z07 (l[k]).toInt)=true
 | [],i,k,hk,_=>absurd hk (Nat.not_lt_zero k)
 | w :: r,i,0,hk,h=>by
  rw [zd5] at h;simp only [v02] at h;exact h.1
 | w :: r,i,k+1,hk,h=>by
  rw [zd5,v02] at h
  have:=y0t (k:=k) (by simpa using hk) h.2
  rw [show i+1+k=i+(k+1) by omega] at this
  exact this
theorem zfe {l:List IV} {dim:Int} (h:z94 l dim=true):(1≤l.length∧l.length≤31)∧(∀ k (hk:k < l.length),zau (l[k]).toInt=true∧zy0 dim (ic l.length) k (z07 (l[k]).toInt)=true)∧ycc l=true:=by
 unfold z94 at h;simp only [v02] at h;refine ⟨⟨v03 h.1.1,v03 h.1.2⟩,fun k hk=>?_,h.2.2⟩
 have:=y0t hk h.2.1
 rwa [v0n] at this
theorem y70 {dim n:Int} {i:Nat} {x:Nd} (h:zy0 dim n i x=true) (hl:x.lf=false):x.f < dim∧x.l≠x.r∧((i:Int) < x.l∧(i:Int) < x.r)∧(x.l < n∧x.r < n):=by
 unfold zy0 at h;rw [hl,z02] at h;simp only [v02,v17,v19,v1a] at h;obtain ⟨h1,h2,h3,h4⟩:=h;exact ⟨by omega,h2,by omega,by omega⟩
theorem y9s {l:List IV} {d e:Int} (h:z94 l d=true) (hde:d≤e):z94 l e=true:=by
 have key:∀ (l:List IV) (n:Int) (i:Nat),zd5 d n i l=true→zd5 e n i l=true:=by
  intro l n
  induction l with
  | nil=>intro _ _; rfl
  | cons w r ih=>
   intro i h;rw [zd5] at h ⊢
   simp only [v02] at h ⊢
   refine ⟨⟨h.1.1,?_⟩,ih _ h.2⟩;have h2:=h.1.2;unfold zy0 at h2 ⊢
   cases hl:(z07 w.toInt).lf with
   | true=>rfl
   | false=>
    rw [hl,z02] at h2;rw [z02];simp only [v02,v17,v19] at h2 ⊢
    exact ⟨by omega,h2.2⟩
 unfold z94 at h ⊢
 simp only [v02] at h ⊢
 exact ⟨h.1,key _ _ _ h.2.1,h.2.2⟩
abbrev kpL:KP:=⟨[4,5,6,24,25,26],[20,500],[⟨(.tmp 6),500,275,true,zd9⟩]⟩
abbrev ylo (l:List IV) (i:Int) (own out:List IV):St:=
 ⟨[(4,.zs),(5,(.row 20 0 l.length)),(6,(.row 500 0 out.length)),(24,(.list false [(.int .u64)] l)),(25,(.int .i64 (ic (List.length l)))),(26,(.int .i64 i))],[(20,(some (.row true 36 true zac own))),(500,(some (.row true 275 true zd9 out)))]⟩
theorem zih (N:Nat) (l:List IV) (ht:z94 l 4=true):∀ (m i n:Nat) (own out:List IV),i+m=l.length→m < n→own.length=l.length→out.length≤i →
  lpE (z3u N) (z0j z5a [1,1,1,1,1,0,1,0,0]) kpL n (ylo l (i:Int) own out) (z06 0 (kSq (z3u N) (z0j z5a [1,1,1,1,1,1]) (z30 (z3u N) none [(ResultVar.tmp 4)] [[(.list true zd9)]]))) =
   some (.list true zd9 (zmr (l.drop i) i own out),[])
 | m,i,0,_,_,_,h,_,_=>absurd h (by omega)
 | 0,i,n+1,own,out,hd,_,_,_=>by
  have hi:i=l.length:=by omega
  subst hi;rw [z05,zfu,zbh (v09 _),z02,zky,v26,zmr,v11,v0w]
 | m+1,i,n+1,own,out,hd,hn,ho,hu=>by
  obtain ⟨⟨l1,l31⟩,hat,_⟩:=zfe ht;have hi:i < l.length:=by omega
  have ei:IntKind.wrap IntKind.i64 ((i:Int)+1)=((i+1:Nat):Int):=z82 (by omega)
  obtain ⟨hb,hf⟩:=hat i hi;have io:decide ((i:Int) < ic (l.length - 0))=true:=z9k hi;rw [z05,zfu,ei,z9k hi,z00,zep,v0t,z00,zah hi,io,v0t,v0l,v0i hi,zmr];simp only [v0n];cases hl:(z07 (l[i]).toInt).lf with
  | true=>
   rw [v0c,z02,z00,z00,v0r];have e1:zfs (z07 (l[i]).toInt) i own=own:=by unfold zfs; rw [hl,z00]
   rw [e1];cases (bxI (own.getD i default)).emp with
   | true=>exact zih N l ht m (i+1) n own out (by omega) (by omega) ho (by omega)
   | false=>
    have ih:=zih N l ht m (i+1) n own (out++[pcI (bxI (own.getD i default)) (z07 (l[i]).toInt).v]) (by omega) (by omega) ho (by rw [v08]; simp; omega)
    unfold ylo at ih;rw [v08,v2k] at ih;rw [v0h,z00,z00,v01 (show (out.length+1)*88≤z0c by unfold z0c; omega),z00,v0w]
    exact ih
  | false=>
   obtain ⟨f4,_,_,⟨ln,rn⟩⟩:=y70 hf hl;obtain ⟨⟨f0,_⟩,⟨a1,_⟩,⟨b1,_⟩,_⟩:=y2f hb hl;have hp:zmk (z07 (l[i]).toInt).f=true:=by unfold zmk; rw [v01 f0,v01 (by omega)]; rfl
   have el:(decide (0≤(z07 (l[i]).toInt).l)&&decide ((z07 (l[i]).toInt).l < ic (l.length - 0)))=true:=by rw [v01 (by omega),v01 (show (z07 (l[i]).toInt).l < ic (l.length - 0) from ln)]; rfl
   have er:(decide (0≤(z07 (l[i]).toInt).r)&&decide ((z07 (l[i]).toInt).r < ic (l.length - 0)))=true:=by rw [v01 (by omega),v01 (show (z07 (l[i]).toInt).r < ic (l.length - 0) from rn)]; rfl
   rw [v0h,z00,z00,hp,z00,el,z00,er,z00,v0v,z02];have e1:zfs (z07 (l[i]).toInt) i own=(own.set (z07 (l[i]).toInt).l.toNat ((bxI (own.getD i default)).cutL (z07 (l[i]).toInt).f (z07 (l[i]).toInt).a).I).set (z07 (l[i]).toInt).r.toNat ((bxI (own.getD i default)).cutH (z07 (l[i]).toInt).f (z07 (l[i]).toInt).a).I:=by unfold zfs; rw [hl,z02]
   rw [e1];exact zih N l ht m (i+1) n _ out (by omega) (by omega) (by rw [v2g,v2g]; exact ho) (by omega)
theorem zt2:z2y PR B0 218 z9z:=by
 refine z0i [(111,z7e),(112,z2e),(55,z1y),(96,z7l)] [(7,⟨[4,5,6,24,25,26],[20,500],[⟨.tmp 6,500,275,true,[.int .i64,.int .i64,.int .i64,.int .i64,.int .i64,.int .i64,.int .i64,.int .i64,.int .i64,.int .i64,.int .i64]⟩]⟩)] z9z [[.list true [.int .i64,.int .i64,.int .i64,.int .i64,.int .i64,.int .i64,.int .i64,.int .i64,.int .i64,.int .i64,.int .i64]]] Tryz.func218 y04 ⟨zfg,z6n,z5t,ziy,trivial⟩ ?_;intro vs r hwf h;unfold z9z at h
 split at h
 ·rename_i l b
  replace h:=z2r h;obtain ⟨b,rfl,h⟩:=h;rw [R.get_ok] at h;refine ⟨40,?_⟩;rw [← h];refine (zv2 40 l b).trans ?_;unfold z4h;cases ht:z94 l 4 with
  | false=>rfl
  | true=>
   rw [v0c,z02,v0r];cases b.emp with
   | true=>rfl
   | false=>
    obtain ⟨⟨l1,l31⟩,_,_⟩:=zfe ht;have run:=zih 40 l ht l.length 0 40 ((List.replicate l.length bx0.I).set 0 b.I) [] (by omega) (by omega) (by simp) (v0y _)
    rw [z02,v01 (show (0:Int)≤ic l.length by simp only [ic]; omega),v01 (show ic l.length=ic l.length from rfl),v01 (show ic l.length*ic 80≤ic z0c by unfold z0c; simp only [ic]; omega),v0t,v0t,z00,
     v01 (show 0≤0 from v09 0),v01 (show (0:Int) < ic (Int.toNat (ic l.length) - 0) by simp only [ic]; omega),v0t,z00]
    exact run
 ·simp [R.get] at h
abbrev yl4 (l:List IV) (lo hi i:Int):St:=⟨[(4,(.int .i64 0)),(5,(.int .i64 0)),(6,(.bool false)),(8,(.int .i64 lo)),(9,(.int .i64 hi)),(26,(.list true zd9 l)),(27,(.int .i64 (ic (List.length l)))),(28,(.int .i64 i))],[]⟩
theorem y15 (N:Nat) (l:List IV) (hl:l.length≤strMax):∀ (m i n:Nat) (lo hi:Int),i+m=l.length→m < n →
  lpE (z4k N) (z0j z6c [1,1,1,1,0,1,0,0]) ⟨[4,5,6,8,9,26,27,28],[],[]⟩ n (yl4 l lo hi (i:Int)) (z06 0 (kSq (z4k N) (z0j z6c [1,1,1,1,1]) (z30 (z4k N) none [(ResultVar.tmp 4),(ResultVar.tmp 5),(ResultVar.tmp 6)] [[(.int .i64)],[(.int .i64)],[.bool]]))) =
   some (.tup [.int .i64 (yb1 (l.drop i) lo),.int .i64 (yb2 (l.drop i) hi),.bool true],[])
 | m,i,0,_,_,_,h=>absurd h (by omega)
 | 0,i,n+1,lo,hi,hd,_=>by
  have hi:i=l.length:=by omega
  subst hi;rw [z05,zhk,zbh (v09 _),z02,v26];exact zmj N _ _ _ _ _ l _ _
 | m+1,i,n+1,lo,hi,hd,hn=>by
  have hi:i < l.length:=by omega
  have mx:strMax=140737488355327:=rfl;have ei:IntKind.wrap IntKind.i64 ((i:Int)+1)=((i+1:Nat):Int):=z82 (by omega)
  rw [z05,zhk,ei,z9k hi,z00,zep,v0t,z00,zah hi,v0i hi,yb1,yb2];exact y15 N l hl m (i+1) n _ _ (by omega) (by omega)
theorem y3x:∀ (l:List IV) (i:Nat) (own out:List IV),(zmr l i own out).length≤out.length+l.length
 | [],_,_,out=>v09 _
 | w :: r,i,own,out=>by
  rw [zmr]
  have:=y3x r (i+1) (zfs (z07 w.toInt) i own) (cond ((z07 w.toInt).lf&&!(bxI (own.getD i default)).emp) (out++[pcI (bxI (own.getD i default)) (z07 w.toInt).v]) out)
  refine v1p this ?_;cases ((z07 w.toInt).lf&&!(bxI (own.getD i default)).emp) with
  | true=>rw [z00,v08,v2k,v05]; omega
  | false=>rw [z02,v05]; omega
theorem y9o (l:List IV) (b:Bx):(z4h l b).length≤31:=by
 unfold z4h;cases ht:z94 l 4 with
 | false=>exact v0y _
 | true=>
  cases b.emp with
  | true=>exact v0y _
  | false=>
   have:=y3x l 0 ((List.replicate l.length bx0.I).set 0 b.I) []
   have h2:=(zfe ht).1.2;simp only [v0o,v0n] at this;exact v1p this h2
theorem zu2:z2y PR B0 196 zb8:=by
 refine z0i [(218,z9z)] [(6,⟨[4,5,6,8,9,26,27,28],[],[]⟩)] zb8 [[.int .i64],[.int .i64],[.bool]] Tryz.func196 y4e ⟨zt2,trivial⟩ ?_;intro vs r hwf h;unfold zb8 at h
 split at h
 ·rename_i l b
  replace h:=z2r h;obtain ⟨b,rfl,h⟩:=h;rw [R.get_ok] at h;refine ⟨40,?_⟩;rw [← h];refine (zxq 40 l b).trans ?_;have h31:=y9o l b;unfold tLo tHi tOK yk9 yjf;generalize z4h l b=ps at h31 ⊢
  cases ps with
  | nil=>rfl
  | cons x r=>
   have run:=y15 40 (x :: r) (v1p h31 (by decide)) (x :: r).length 0 40 (pcV x) (pcV x) (by omega) (by omega)
   have e0:(ic (x :: r).length==0)=false:=by
    simp only [ic,v05,v1a];omega
   have e1:(decide (0≤0)&&decide (0 < ic (x :: r).length))=true:=by
    rw [v01 (show 0≤0 from v09 0),v01 (show 0 < ic (x :: r).length by simp only [ic,v05]; omega)]
    rfl
   rw [e0,z02,e1,z00,z00];exact run
 ·simp [R.get] at h
theorem yhe {l:List IV}:∀ {a:Int},z1u a=true→(∀ x∈l,z1u (pcV x)=true)→z1u (yb1 l a)=true:=by
 induction l with
 | nil=>intro a h _; exact h
 | cons x r ih=>
  intro a h hx;rw [yb1];refine ih ?_ fun y hy=>hx y (v0b _ hy)
  have:=z5b h
  have:=z5b (hx x (v0a ..))
  unfold z1u;rw [v01 (by omega),v01 (by omega)]
  rfl
theorem yi7 {l:List IV}:∀ {a:Int},z1u a=true→(∀ x∈l,z1u (pcV x)=true)→z1u (yb2 l a)=true:=by
 induction l with
 | nil=>intro a h _; exact h
 | cons x r ih=>
  intro a h hx;rw [yb2];refine ih ?_ fun y hy=>hx y (v0b _ hy)
  have:=z5b h
  have:=z5b (hx x (v0a ..))
  unfold z1u;rw [v01 (by omega),v01 (by omega)]
  rfl
theorem zwg:∀ (l:List IV) (i:Nat) (own out:List IV),(∀ x∈out,z1u (pcV x)=true)→∀ x∈zmr l i own out,z1u (pcV x)=true
 | [],_,_,_,h=>h
 | w :: r,i,own,out,h=>by
  rw [zmr];refine zwg r (i+1) _ _ ?_;cases ((z07 w.toInt).lf&&!(bxI (own.getD i default)).emp) with
  | true=>
   intro x hx;rcases v0k.1 hx with hx | hx
   ·exact h x hx
   ·obtain rfl:=v28.1 hx
    exact y8g _
  | false=>exact h
theorem y5v (l:List IV) (b:Bx):∀ x∈z4h l b,z1u (pcV x)=true:=by
 unfold z4h;cases (z94 l 4&&!b.emp) with
 | true=>exact zwg _ _ _ _ (fun x hx=>by cases hx)
 | false=>intro x hx; cases hx
theorem ykf (l:List IV) (b:Bx):z1u (tLo l b)=true∧z1u (tHi l b)=true:=by
 unfold tLo tHi tOK;have hf:=y5v l b;generalize z4h l b=ps at hf ⊢
 cases ps with
 | nil=>exact ⟨rfl,rfl⟩
 | cons x r=>exact ⟨yhe (hf x (v0a ..)) hf,yi7 (hf x (v0a ..)) hf⟩
abbrev yld (ts:List IV) (b:Bx) (k lo hi i:Int):St:=⟨[(1,(.int .i64 k)),(5,(.ptr 5 0 0)),(6,(.int .i64 0)),(7,(.int .i64 0)),(8,(.bool false)),(9,(.int .i64 lo)),(10,(.int .i64 hi)),(42,(.list true zjw ts)),(43,(.int .i64 (ic (List.length ts)))),(44,(.int .i64 i))],[(5,(some (.box (Bx.cs b))))]⟩
theorem y4s (N:Nat) (ts:List IV) (b:Bx) (k:Int) (hts:ts.length≤8):∀ (m i n:Nat) (lo hi:Int),i+m=ts.length→m < n→(-2147483648*(i+1)≤lo∧lo≤2147483648*(i+1))→(-2147483648*(i+1)≤hi∧hi≤2147483648*(i+1)) →
  lpE (z0m N) (z0j z1a [1,1,1,0,1,0,0]) ⟨[1,5,6,7,8,9,10,42,43,44],[5],[]⟩ n (yld ts b k lo hi (i:Int)) (z06 0 (kSq (z0m N) (z0j z1a [1,1,1,1]) (z30 (z0m N) none [(ResultVar.tmp 6),(ResultVar.tmp 7),(ResultVar.tmp 8)] [[(.int .i64)],[(.int .i64)],[.bool]]))) =
   some (.tup [.int .i64 (zxv (fun l=>tLo l b) k (ts.drop i) lo),.int .i64 (zxv (fun l=>tHi l b) k (ts.drop i) hi),.bool true],[])
 | m,i,0,_,_,_,h,_,_=>absurd h (by omega)
 | 0,i,n+1,lo,hi,hd,_,_,_=>by
  have hlt:i=ts.length:=by omega
  subst hlt;rw [z05,zj7,zbh (v09 _),z02,v26];exact zpi N b _ _ _ _ _ _ _ _ _
 | m+1,i,n+1,lo,hi,hd,hn,h1,h2=>by
  have hlt:i < ts.length:=by omega
  have ei:IntKind.wrap IntKind.i64 ((i:Int)+1)=((i+1:Nat):Int):=z82 (by omega)
  rw [z05,zj7,ei,z9k hlt,z00,zep,v0t,z00,zah hlt,v0i hlt,zxv,zxv];obtain ⟨q1,q2⟩:=ykf (zdz ts[i]) b;have q1:=z5b q1;have q2:=z5b q2;have en:((ts[i].cell 0).toInt != k)=!((ts[i].cell 0).toInt==k):=rfl;rw [en];cases ((ts[i].cell 0).toInt==k) with
  | true=>
   rw [v0c,z02,z00,z00];have ew:IntKind.wrap IntKind.i64 (lo+tLo (zdz ts[i]) b)=lo+tLo (zdz ts[i]) b:=z19 (by omega) (by omega)
   have ew2:IntKind.wrap IntKind.i64 (hi+tHi (zdz ts[i]) b)=hi+tHi (zdz ts[i]) b:=z19 (by omega) (by omega)
   have ih:=y4s N ts b k hts m (i+1) n (lo+tLo (zdz ts[i]) b) (hi+tHi (zdz ts[i]) b) (by omega) (by omega) (by omega) (by omega)
   rw [← ew,← ew2] at ih;refine v4a ih ?_;rw [ew,ew2]
  | false=>
   rw [v0h,z00,z02,z02];exact y4s N ts b k hts m (i+1) n lo hi (by omega) (by omega) (by omega) (by omega)
theorem zfo:z2y PR B0 162 z6o:=by
 refine z0i [(196,zb8),(112,z2e),(53,z1z)] [(5,⟨[1,5,6,7,8,9,10,42,43,44],[5],[]⟩)] z6o [[.int .i64],[.int .i64],[.bool]] Tryz.func162 y61 ⟨zu2,z6n,z5w,trivial⟩ ?_;intro vs r hwf h;unfold z6o at h
 split at h
 ·rename_i m k b
  replace h:=z3n h;obtain ⟨m,rfl,h⟩:=h;replace h:=z2r h;obtain ⟨b,rfl,h⟩:=h;rw [R.get_ok] at h;refine ⟨10,?_⟩;rw [← h];refine (y48 10 m k b).trans ?_;unfold sLo sHi sOK;cases hm:z2b m with
  | false=>rfl
  | true=>
   rw [v0c,z02];cases h0:decide (k < 0) with
   | true=>
    have:zc3 m k=false:=by unfold zc3; rw [v07 (show ¬ 0≤k by have:=v0f h0; omega)]; rfl
    rw [this]
    rfl
   | false=>
    rw [z02];cases h1:decide (k≥m.c) with
    | true=>
     have:zc3 m k=false:=by unfold zc3; rw [v07 (show ¬ k < m.c by have:=v0f h1; omega),v2c]
     rw [this]
     rfl
    | false=>
     have hc:zc3 m k=true:=by unfold zc3; rw [v01 (show 0≤k by have:=v0s h0; omega),v01 (show k < m.c by have:=v0s h1; omega)]; rfl
     rw [z02,hc];cases b.emp with
     | true=>rfl
     | false=>
      have hb:=y03 hm k;have run:=y4s 10 m.ts b k (z28 hm).2.2.1 m.ts.length 0 10 (zcn m k) (zcn m k) (by omega) (by have:=(z28 hm).2.2.1; omega) (by omega) (by omega)
      rw [z02];rcases zti hm hc with rfl | rfl | rfl <;> exact run
 ·simp [R.get] at h
theorem y5q (g:List IV→Int) (hg:∀ l,-2147483648≤g l∧g l≤2147483648) (k:Int):∀ (ts:List IV) (s:Int) (n:Nat),(-2147483648*(n:Int)≤s∧s≤2147483648*(n:Int)) → -2147483648*((n+ts.length:Nat):Int)≤zxv g k ts s∧zxv g k ts s≤2147483648*((n+ts.length:Nat):Int)
 | [],s,n,h=>by
  rw [zxv]
  simpa using h
 | t :: r,s,n,h=>by
  rw [zxv];have h1:=hg (zdz t)
  have:=y5q g hg k r (cond (yiv t==k) (s+g (zdz t)) s) (n+1) (by cases (yiv t==k) <;> simp only [v2h,v1q] <;> omega)
  rw [v05];rw [show n+1+r.length=n+(r.length+1) by omega] at this
  exact this
theorem ykk {m:Md} (k:Int) (b:Bx):(-34359738368≤sLo m k b∧sLo m k b≤34359738368)∧(-34359738368≤sHi m k b∧sHi m k b≤34359738368):=by
 unfold sLo sHi;cases hs:sOK m k b with
 | false=>simp only [v1q]; omega
 | true=>
  unfold sOK at hs;simp only [v02] at hs;have hb:=y03 hs.1 k;have h8:=(z28 hs.1).2.2.1;have h1:=y5q (fun l=>tLo l b) (fun l=>by have:=z5b (ykf l b).1; omega) k m.ts (zcn m k) 1 (by omega)
  have h2:=y5q (fun l=>tHi l b) (fun l=>by have:=z5b (ykf l b).2; omega) k m.ts (zcn m k) 1 (by omega)
  rw [z00,z00];omega
abbrev ylw (m:Md) (b:Bx) (k lo a:Int) (z:Bool) (i:Int):St:=⟨[(1,(.int .i64 k)),(3,(.ptr 3 0 0)),(5,(.ptr 5 0 0)),(6,(.int .i64 0)),(7,(.bool false)),(8,(.int .i64 lo)),(11,(.int .i64 a)),(12,(.bool z)),(33,(.int .i64 (Md.c m))),(34,(.int .i64 i))],[(3,(some (.box (Md.cs m)))),(5,(some (.box (Bx.cs b))))]⟩
theorem y8o (N:Nat) (m:Md) (b:Bx) (k:Int) (hc:0≤m.c∧m.c≤3) (lo:Int) (hlo : -34359738368≤lo∧lo≤34359738368):∀ (d i n:Nat) (a:Int) (z:Bool),((i+d:Nat):Int)=m.c→d < n →
  lpE (z33 N) (z0j z4p [1,1,1,1,0,1,0,0]) ⟨[1,3,5,6,7,8,11,12,33,34],[3,5],[]⟩ n (ylw m b k lo a z (i:Int)) (z06 0 (kSq (z33 N) (z0j z4p [1,1,1,1,1]) (z30 (z33 N) none [(ResultVar.tmp 6),(ResultVar.tmp 7)] [[(.int .i64)],[.bool]]))) =
   some (.tup [.int .i64 (zue m k lo b d (i:Int) a z),.bool true],[])
 | d,i,0,_,_,_,h=>absurd h (by omega)
 | 0,i,n+1,a,z,hd,_=>by
  rw [z05,zea,v07 (show ¬ (i:Int) < m.c by omega),z02]
  exact zkd N m b _ _ _ _ _ _ _ _
 | d+1,i,n+1,a,z,hd,hn=>by
  have ei:IntKind.wrap IntKind.i64 ((i:Int)+1)=((i+1:Nat):Int):=z82 (by omega)
  have hs:=(ykk (m:=m) (i:Int) b).2;have ew:IntKind.wrap IntKind.i64 (lo - sHi m (i:Int) b)=lo - sHi m (i:Int) b:=z19 (by omega) (by omega)
  have ec:(i:Int)+1=((i+1:Nat):Int):=by omega
  rw [z05,zea,ei,ew,v01 (show (i:Int) < m.c by omega),z00,zue,ec]
  have ih:=fun a z=>y8o N m b k hc lo hlo d (i+1) n a z (by omega) (by omega)
  cases ((i:Int)==k) with
  | true=>exact ih a z
  | false=>
   rw [z02,z02];cases z with
   | false=>exact ih _ true
   | true=>
    rw [v0c,z02,v2i];cases decide (lo - sHi m (i:Int) b < a) with
    | true=>exact ih _ true
    | false=>exact ih a true
theorem zph:z2y PR B0 163 z88:=by
 refine z0i [(162,z6o)] [(6,⟨[1,3,5,6,7,8,11,12,33,34],[3,5],[]⟩)] z88 [[.int .i64],[.bool]] Tryz.func163 zv3 ⟨zfo,trivial⟩ ?_;intro vs r hwf h;unfold z88 at h
 split at h
 ·rename_i m k b
  replace h:=z3n h;obtain ⟨m,rfl,h⟩:=h;replace h:=z2r h;obtain ⟨b,rfl,h⟩:=h;rw [R.get_ok] at h;refine ⟨10,?_⟩;rw [← h];refine (zqo 10 m k b).trans ?_;unfold yhq yc8;cases hs:sOK m k b with
  | false=>rfl
  | true=>
   have hm:z2b m=true:=by unfold sOK at hs; simp only [v02] at hs; exact hs.1
   have hc:=(z28 hm).2.1;rw [v0c,z02];cases h2:decide (m.c < 2) with
   | true=>rw [v07 (show ¬ m.c≥2 by have:=v0f h2; omega)]; rfl
   | false=>
    rw [v01 (show m.c≥2 by have:=v0s h2; omega),z02]
    exact y8o 10 m b k (by omega) (sLo m k b) (ykk k b).1 m.c.toNat 0 10 0 false (by omega) (by omega)
 ·simp [R.get] at h
theorem zoe:z2y PR B0 165 z7k:=by
 refine z0i [(162,z6o),(198,z8f),(199,z7m),(197,z2q)] [] z7k [[.int .i64],[.int .i64],[.bool]] Tryz.func165 zsh ⟨zfo,zpy,zmv,z8r,trivial⟩ ?_;intro vs r hwf h;unfold z7k at h
 split at h
 ·rename_i m q b
  replace h:=z3n h;obtain ⟨m,rfl,h⟩:=h;replace h:=z38 h;obtain ⟨q,rfl,h⟩:=h;replace h:=z2r h;obtain ⟨b,rfl,h⟩:=h;rw [R.get_ok] at h;refine ⟨0,?_⟩;rw [← h];refine (zpo 0 m q b).trans ?_;have h1:=ykk (m:=m) q.c (zdy q b);have h2:=ykk (m:=m) q.c (za5 q b);rw [z19 (n:=sLo m q.c (za5 q b) - sHi m q.c (zdy q b)) (by omega) (by omega),z19 (n:=sHi m q.c (za5 q b) - sLo m q.c (zdy q b)) (by omega) (by omega)]
  unfold yid ygt yaf;cases z5m q <;> cases sOK m q.c (zdy q b) <;> cases sOK m q.c (za5 q b) <;> rfl
 ·simp [R.get] at h
theorem zso:z2y PR B0 122 z9r:=by
 refine z0i [(163,z88),(162,z6o),(112,z2e),(165,z7k),(164,z6q),(65,z2j)] [] z9r [[.bool]] Tryz.func122 zzq ⟨zph,zfo,z6n,zoe,zlw,z7h,trivial⟩ ?_;intro vs r hwf h;unfold z9r at h
 split at h
 ·rename_i m q b
  replace h:=z3n h;obtain ⟨m,rfl,h⟩:=h;replace h:=z38 h;obtain ⟨q,rfl,h⟩:=h;replace h:=z2r h;obtain ⟨b,rfl,h⟩:=h;rw [R.get_ok] at h;refine ⟨0,?_⟩;rw [← h];refine (zv7 0 m q b).trans ?_;unfold z4e;cases z3f m q <;> cases b.emp <;> cases (q.k==1) <;> cases (q.k==2) <;> cases sOK m q.c b <;> cases decide (q.lo≤sLo m q.c b) <;> cases yc8 m q.c b <;> cases zgy q b <;> cases q.fl <;> cases yaf m q b <;> rfl
 ·simp [R.get] at h
theorem zsy:z2y PR B0 123 z9v:=by
 refine z0i [(81,zhe)] [] z9v [[.int .i64,.int .i64,.int .i64,.int .i64],[.int .i64]] Tryz.func123 zxi ⟨y5x,trivial⟩ ?_;intro vs r hwf h;unfold z9v at h
 split at h
 ·rename_i b
  replace h:=z2r h;obtain ⟨b,rfl,h⟩:=h;rw [R.get_ok] at h;exact ⟨0,(zuo 0 b).trans h⟩
 ·simp [R.get] at h
theorem zq4:z2y PR B0 166 z8l:=by
 refine z0i [] [] z8l [[.int .i64]] Tryz.func166 zur trivial ?_;intro vs r hwf h;unfold z8l at h
 split at h
 ·rename_i q i
  replace h:=z38 h;obtain ⟨q,rfl,h⟩:=h;rw [R.get_ok] at h;refine ⟨0,?_⟩;rw [← h];refine (zqs 0 q i).trans ?_;unfold zsz;cases decide (i≥0) <;> cases decide (i < 4) <;> cases (i==4) <;> cases (q.k==3) <;> rfl
 ·simp [R.get] at h
def yim (m:Md) (f:Int) (s:Sp):Res:=
 cond (decide (f < 0)) (some (.list false [.int .i64] [],[]))
  (cond (z2b m)
   (cond (Nat.beq (iZ (y6l m.ts f)).length (iZ (y6l m.ts f)).length)
    (cond (Nat.ble (iZ (znl s.lo s.hi ((iZ (y6l m.ts f)).map IV.toInt))).length (iZ (y6l m.ts f)).length)
     (some (.list false [.int .i64] (List.drop 0 (List.take (iZ (znl s.lo s.hi ((iZ (y6l m.ts f)).map IV.toInt))).length (iZ (znl s.lo s.hi ((iZ (y6l m.ts f)).map IV.toInt))))),[])) none) none) none)
theorem yfx {m:Md} (hm:z2b m=true) (f:Int) (s:Sp):yim m f s=some (.list false [.int .i64] (iZ (cond (decide (f < 0)) [] (znl s.lo s.hi (y6l m.ts f)))),[]):=by
 unfold yim;cases decide (f < 0) with
 | true=>rfl
 | false=>
  rw [z02,hm,z00,v3b,z00,y05,z02];have hle:(iZ (znl s.lo s.hi (y6l m.ts f))).length≤(iZ (y6l m.ts f)).length:=by
   rw [zhs,zhs];exact v43 ..
  rw [v1i hle,z00,v11,v0w]
theorem zyi (m:Md) (q:Qy) (b:Bx):∀ i:Nat,i < 5→z11 (zr6 0) zjo [.tmp 8] [[.list false [.int .i64]]] [m.V,q.V,b.V,.int .i64 (i:Int)]=yim m (zsz q (i:Int)) (b.g i)
 | 0,_=>by kernel_rfl
 | 1,_=>by kernel_rfl
 | 2,_=>by kernel_rfl
 | 3,_=>by kernel_rfl
 | 4,_=>by kernel_rfl
 | i+5,h=>absurd h (by omega)
abbrev ylg:KP:=⟨[1,4,5,16,17,18],[500],[⟨(.tmp 5),500,3,false,[(.int .i64)]⟩]⟩
abbrev ylp:KP:=⟨[1,4,5,16,17,18,23,24,25],[500],[⟨(.tmp 5),500,3,false,[(.int .i64)]⟩]⟩
abbrev yff (f:Int) (ts:List IV) (i:Int) (W:List IV) (j:Int) (O:List IV):St:=
 ⟨[(1,(.int .i64 f)),(4,.zs),(5,(.row 500 0 O.length)),(16,(.list true zjw ts)),(17,(.int .i64 (ic ts.length))),(18,(.int .i64 i)),(23,(.list false [(.int .u64)] W)),(24,(.int .i64 (ic W.length))),(25,(.int .i64 j))],[(500,(some (.row true 3 false [(.int .i64)] O)))]⟩
theorem zm4 (N:Nat) (f:Int) (ts:List IV) (i:Int) (W:List IV) (hW:W.length≤31) (K:Out→St→Res):∀ (m j n:Nat) (O:List IV),j+m=W.length→m < n→O.length+m≤1000 →
  lpE (z16 N) (z0j z1d [1,1,1,0,1,0,0,1,1,0,0,1,1,0,0]) ylp n (yff f ts i W (j:Int) O) K=K (.exit 2) (yff f ts i W (ic W.length) (O++iZ ((W.drop j).flatMap (yet f))))
 | m,j,0,_,_,h,_=>absurd h (by omega)
 | 0,j,n+1,O,hd,_,_=>by
  have hj:j=W.length:=by omega
  subst hj;rw [z05,zbt,zbh (v09 _),z02,v26];show K (.exit 2) _=K (.exit 2) (yff f ts i W (ic W.length) (O++[]));rw [v2n]
 | m+1,j,n+1,O,hd,hn,hO=>by
  have hj:j < W.length:=by omega
  have ej:IntKind.wrap IntKind.i64 ((j:Int)+1)=((j+1:Nat):Int):=z82 (by omega)
  rw [z05,zbt,ej,z9k hj,z00,zep,v0t,z00,zah hj,v0i hj,v3f];unfold yet;cases (z07 (W[j]).toInt).lf with
  | true=>
   rw [v0c,z02,v0v,z02,v2r];exact zm4 N f ts i W hW K m (j+1) n O (by omega) (by omega) (by omega)
  | false=>
   rw [v0h,z00,v0r];cases ((z07 (W[j]).toInt).f==f) with
   | false=>
    rw [z02,z02,v2r];exact zm4 N f ts i W hW K m (j+1) n O (by omega) (by omega) (by omega)
   | true=>
    rw [z00,z00,v01 (show (O.length+1)*8≤z0c by unfold z0c; omega),z00,v0w]
    have ih:=zm4 N f ts i W hW K m (j+1) n (O++[IV.int (z07 (W[j]).toInt).a]) (by omega) (by omega) (by rw [v08,v2k]; omega)
    rw [v33] at ih;unfold yff at ih ⊢
    rw [v08,v2k] at ih;exact ih
abbrev yh3 (f:Int) (ts:List IV) (i:Int) (O:List IV):St:=
 ⟨[(1,(.int .i64 f)),(4,.zs),(5,(.row 500 0 O.length)),(16,(.list true zjw ts)),(17,(.int .i64 (ic ts.length))),(18,(.int .i64 i))],[(500,(some (.row true 3 false [(.int .i64)] O)))]⟩
theorem zyj (f:Int):∀ W:List IV,(W.flatMap (yet f)).length≤W.length
 | []=>v09 _
 | w :: r=>by
  rw [v3f,v08,v05]
  have:=zyj f r
  unfold yet at this ⊢
  cases (!(z07 w.toInt).lf&&(z07 w.toInt).f==f) <;> simp only [v2h,v1q,v0o,v2k] <;> omega
theorem zop {d c:Int} {t:IV} (h:z81 d c t=true):(0≤yiv t∧yiv t < c)∧z94 (zdz t) d=true:=by
 unfold z81 at h;simp only [v02,v17,v19] at h;exact ⟨⟨by show 0≤(t.cell 0).toInt; omega,by show (t.cell 0).toInt < c; omega⟩,h.2.2⟩
theorem y8p {d c:Int} {ts:List IV} (h:ts.all (z81 d c)=true) {t:IV} (ht:t∈ts):(zdz t).length≤31:=by
 have:=(zop (v3a.1 h t ht)).2
 exact (zfe this).1.2
theorem y0s (N:Nat) (hN:40≤N) (f:Int) (ts:List IV) (hts:ts.length≤8) (hW:∀ t∈ts,(zdz t).length≤31) (K:Out→St→Res):∀ (m i n:Nat) (O:List IV),i+m=ts.length→m < n→O.length≤31*i →
  lpE (z16 N) (z0j z1d [1,1,1,0,1,0,0]) ylg n (yh3 f ts (i:Int) O) K=K (.exit 0) (yh3 f ts (ic ts.length) (O++iZ (zdr (ts.drop i) f)))
 | m,i,0,_,_,h,_=>absurd h (by omega)
 | 0,i,n+1,O,hd,_,_=>by
  have hi:i=ts.length:=by omega
  subst hi;rw [z05,zbp,zbh (v09 _),z02,v26];show K (.exit 0) _=K (.exit 0) (yh3 f ts (ic ts.length) (O++[]));rw [v2n]
 | m+1,i,n+1,O,hd,hn,hO=>by
  have hi:i < ts.length:=by omega
  have ei:IntKind.wrap IntKind.i64 ((i:Int)+1)=((i+1:Nat):Int):=z82 (by omega)
  have hw:=hW ts[i] (v2j hi);have hl:=zyj f (zdz ts[i]);rw [z05,zbp,z9k hi,z00,zep,v0t,z00,zah hi,v0i hi];refine (zm4 N f ts (i:Int) (zdz ts[i]) hw _ (zdz ts[i]).length 0 N O (by omega) (by omega) (by omega)).trans ?_
  rw [zfk,ei,v11];have ih:=y0s N hN f ts hts hW K m (i+1) n (O++iZ ((zdz ts[i]).flatMap (yet f))) (by omega) (by omega) (by rw [v08,zhs]; omega)
  have e:zdr (ts[i] :: ts.drop (i+1)) f=(zdz ts[i]).flatMap (yet f)++zdr (ts.drop (i+1)) f:=by unfold zdr; rw [v3f]
  rw [e];have e2:iZ ((zdz ts[i]).flatMap (yet f)++zdr (ts.drop (i+1)) f)=iZ ((zdz ts[i]).flatMap (yet f))++iZ (zdr (ts.drop (i+1)) f):=by unfold iZ; rw [v3p]
  rw [e2,← v33];exact ih
theorem zip:z2y PR B0 168 z5d:=by
 refine ybf [(53,z1z),(55,z1y)] [(202,zl7),(201,y7m)] [(5,ylg),(8,ylp)] z5d [] Tryz.func168 zkp ⟨z5w,z5t,trivial⟩ ⟨zyh,y9y,trivial⟩ ?_;intro vs r hwf h;unfold z5d at h
 split at h
 ·rename_i m f
  replace h:=z3n h;obtain ⟨m,rfl,h⟩:=h;cases hm:z2b m with
  | false=>rw [hm] at h; simp [R.get] at h
  | true=>
   rw [hm,R.get_br,z00,R.get_ok] at h;refine ⟨40,?_⟩;rw [← h];refine (zk3 40 m f).trans ?_;have hmp:=z28 hm;rw [hm,v0c,z02];refine (y0s 40 (by omega) f m.ts hmp.2.2.1 (fun t ht=>y8p hmp.2.2.2.2 ht) _ m.ts.length 0 40 [] (by omega) (by have:=hmp.2.2.1; omega) (v0y _)).trans ?_
   rw [v11,v2r,zey,v3b,z00,y05];have e1:(iZ (zgd (zdr m.ts f))).length=(iZ (zdr m.ts f)).length:=by rw [zhs,zhs]; exact (zci _).length_eq
   have e2:(iZ (y3w (zgd (zdr m.ts f)))).length≤(iZ (zdr m.ts f)).length:=by rw [← e1,zhs,zhs]; exact zxs _
   rw [e1,v3b,z00,z00,y05,v1i e2,z00,v0w]
   rfl
 ·simp [R.get] at h
theorem zzz:z2y PR B0 126 zcp:=by
 refine ybf [(166,z8l),(168,z5d)] [(167,zqc)] [] zcp [[.list false [.int .i64]]] Tryz.func126 y77 ⟨zq4,zip,trivial⟩ ⟨y1g,trivial⟩ ?_;intro vs r hwf h;unfold zcp at h
 split at h
 ·rename_i m q b i
  replace h:=z3n h;obtain ⟨m,rfl,h⟩:=h;replace h:=z38 h;obtain ⟨q,rfl,h⟩:=h;replace h:=z2r h;obtain ⟨b,rfl,h⟩:=h;cases hg:(z2b m&&zmk i) with
  | false=>rw [hg] at h; simp [R.get] at h
  | true=>
  rw [hg,R.get_br,z00,R.get_ok] at h;rw [v02] at hg;refine ⟨0,?_⟩;rw [← h];have key:∀ k:Nat,k < 5→z11 (zr6 0) zjo [.tmp 8] [[.list false [.int .i64]]] [m.V,q.V,b.V,.int .i64 (k:Int)]=some (.list false [.int .i64] (iZ (zk4 m q b k)),[]):=fun k hk=>by
   rw [zyi m q b k hk,yfx hg.1]
   rfl
  rcases zvo hg.2 with rfl | rfl | rfl | rfl | rfl
  ·exact key 0 (by omega)
  ·exact key 1 (by omega)
  ·exact key 2 (by omega)
  ·exact key 3 (by omega)
  ·exact key 4 (by omega)
 ·simp [R.get] at h
abbrev ylz (m:Md) (q:Qy) (b:Bx) (i:Int):St:=⟨[(3,(.ptr 3 0 0)),(4,(.ptr 4 0 0)),(5,(.ptr 5 0 0)),(6,(.int .i64 0)),(7,(.int .i64 0)),(8,(.bool false)),(11,(.int .i64 i))],[(3,(some (.box (Md.cs m)))),(4,(some (.box (Qy.cs q)))),(5,(some (.box (Bx.cs b))))]⟩
theorem yel {m:Md} (hm:z2b m=true) (q:Qy) (b:Bx) (i:Nat):(zk4 m q b i).length≤248:=by
 have key:∀ (ts:List IV) (f:Int),(∀ t∈ts,(zdz t).length≤31)→(zdr ts f).length≤31*ts.length:=by
  intro ts f
  induction ts with
  | nil=>intro _; exact v09 _
  | cons t r ih=>
   intro ht;have h1:=ih fun u hu=>ht u (v0b _ hu)
   have h2:=zyj f (zdz t);have h3:=ht t (v0a ..);unfold zdr at h1 ⊢
   rw [v3f,v08,v05];omega
 have hmp:=z28 hm;have h1:=key m.ts (zsz q (i:Int)) fun t ht=>y8p hmp.2.2.2.2 ht
 unfold zk4;cases decide (zsz q (i:Int) < 0) with
 | true=>exact v0y _
 | false=>
  rw [z02];have h2:(znl (b.g i).lo (b.g i).hi (y6l m.ts (zsz q (i:Int)))).length≤(y6l m.ts (zsz q (i:Int))).length:=v43 ..
  have h3:(y6l m.ts (zsz q (i:Int))).length≤(zdr m.ts (zsz q (i:Int))).length:=by
   unfold y6l;exact v1p (zxs _) (Nat.le_of_eq (zci _).length_eq)
  have:=hmp.2.2.1
  omega
theorem y1s (N:Nat) (m:Md) (hm:z2b m=true) (q:Qy) (b:Bx):∀ (d i n:Nat),i+d=5→d < n →
  lpE (z3h N) (z0j z57 [1,0,1,0,0]) ⟨[3,4,5,6,7,8,11],[3,4,5],[]⟩ n (ylz m q b (i:Int)) (z06 0 (kSq (z3h N) (z0j z57 [1,1]) (z30 (z3h N) none [(ResultVar.tmp 6),(ResultVar.tmp 7),(ResultVar.tmp 8)] [[(.int .i64)],[(.int .i64)],[.bool]]))) =
   some (.tup [.int .i64 (spI (spR m q b d i)),.int .i64 (yc1 (spR m q b d i)),.bool (spR m q b d i).isSome],[])
 | d,i,0,_,h=>absurd h (by omega)
 | 0,i,n+1,hd,_=>by
  have hi:i=5:=by omega
  subst hi;rw [z05,zgm,v07 (show ¬ ((5:Nat):Int) < 5 by omega),z02]
  exact znc N m q b _ _ _ _
 | d+1,i,n+1,hd,hn=>by
  have hp:zmk (i:Int)=true:=by unfold zmk; rw [v01 (show (0:Int)≤(i:Int) by omega),v01 (show (i:Int) < 5 by omega)]; rfl
  have ei:IntKind.wrap IntKind.i64 ((i:Int)+1)=((i+1:Nat):Int):=z82 (by omega)
  have hc:=yel hm q b i;rw [z05,zgm,ei,v01 (show (i:Int) < 5 by omega),z00,hm,hp,v0t,z00,v0l,spR,zhs]
  generalize zk4 m q b i=cs at hc ⊢
  have ed:decide (ic cs.length > 0)=decide (cs.length > 0):=by rw [v2w]; simp
  rw [ed];cases hpos:decide (cs.length > 0) with
  | true=>
   have hpos:=v0f hpos;have ew:IntKind.wrap IntKind.i64 (Int.tdiv (IntKind.wrap IntKind.i64 (ic cs.length - 1)) 2)=(((cs.length - 1) / 2:Nat):Int):=by
    have e1:IntKind.wrap IntKind.i64 (ic cs.length - 1)=((cs.length - 1:Nat):Int):=by rw [z19 (by simp only [ic]; omega) (by simp only [ic]; omega)]; simp only [ic]; omega
    have e2:Int.tdiv ((cs.length - 1:Nat):Int) 2=(((cs.length - 1) / 2:Nat):Int):=by
     rw [Int.tdiv_eq_ediv_of_nonneg (by omega)]
     omega
    rw [e1,e2,z19 (by omega) (by omega)]
   have hlt:(cs.length - 1) / 2 < cs.length:=by omega
   rw [z00,ew,zep,v01 (show (((cs.length - 1) / 2:Nat):Int) < ic cs.length by simp only [ic]; omega),v0t,z00,z00,v0l]
   have eg:IV.toInt (List.getD (iZ cs) ((cs.length - 1) / 2) default)=cs.getD ((cs.length - 1) / 2) 0:=by
    unfold iZ;rw [v0m,v0m,v0x,v0e hlt]
    rfl
   rw [eg];exact znj N m q b _ _ _ _
  | false=>
   rw [z02,z02];exact y1s N m hm q b d (i+1) n (by omega) (by omega)
theorem ztp:z2y PR B0 124 zbs:=by
 refine z0i [(126,zcp)] [(2,⟨[3,4,5,6,7,8,11],[3,4,5],[]⟩)] zbs [[.int .i64],[.int .i64],[.bool]] Tryz.func124 y1d ⟨zzz,trivial⟩ ?_;intro vs r hwf h;unfold zbs at h
 split at h
 ·rename_i m q b
  replace h:=z3n h;obtain ⟨m,rfl,h⟩:=h;replace h:=z38 h;obtain ⟨q,rfl,h⟩:=h;replace h:=z2r h;obtain ⟨b,rfl,h⟩:=h;cases hg:(z2b m) with
  | false=>rw [hg] at h; simp [R.get] at h
  | true=>
  rw [hg,R.get_br,z00,R.get_ok] at h;refine ⟨10,?_⟩;rw [← h];exact (y00 10 m q b).trans (y1s 10 m hg q b 5 0 10 rfl (by omega))
 ·simp [R.get] at h
open Go Go.Proofs
def y4i (N:Nat):Env:=mkE [(65,z2j),(66,z6k)] [] 26 N
theorem zzj (N:Nat) (m:Md) (q:Qy):z11 (y4i N) zos [.tmp 4] [[.list false []]] [(Md.V m),(Qy.V q)]=(cond (!z3f m q) (some ((.bor (ze1 m q [.zs,.zs,(.i 4),.zs,(.i 0),(.i 0),(.i 0),(.i 0),(.i 0),(.i 0),(.i 0)])),[])) (some ((.bor (ze1 m q [(.vec 36 true zac [(Bx.I (z9x q))]),.zs,(.i 0),.zs,(.i 0),(.i 0),(.i 0),(.i 0),(.i 0),(.i 0),(.i 0)])),[]))):=by kernel_rfl
def z4d (N:Nat):Env:=mkE [(125,z2s)] [] 22 N
theorem zdi (N:Nat) (m:Md) (q:Qy) (left u00:List IV) (k w0 w1 w2 w3 tw vs sp:Int):z11 (z4d N) z3c [.cell 2 55] [[.int .i64,.list true [.bool,.int .i64,.int .i64],.int .i64,.int .i64,.int .i64,.int .i64,.int .i64,.int .i64]] [(.bor (ze1 m q [.vec 36 true zac left,.vec 127 true z2x u00,.int .i64 k,.zs,.int .i64 w0,.int .i64 w1,.int .i64 w2,.int .i64 w3,.int .i64 tw,.int .i64 vs,.int .i64 sp]))]=(cond (k==0) (some ((.agg [(.i 3),(.list true z2x []),(.i w0),(.i w1),(.i w2),(.i w3),(.i tw),(.i sp)]),[(ze1 m q [(.vec 36 true zac (List.take (List.length left) left)),(.vec 127 true z2x (List.take (List.length u00) u00)),(.i k),.zs,(.i w0),(.i w1),(.i w2),(.i w3),(.i tw),(.i vs),(.i sp)])])) (some ((.agg [(.i k),(.list true z2x []),(.i w0),(.i w1),(.i w2),(.i w3),(.i tw),(.i sp)]),[(ze1 m q [(.vec 36 true zac (List.take (List.length left) left)),(.vec 127 true z2x (List.take (List.length u00) u00)),(.i k),.zs,(.i w0),(.i w1),(.i w2),(.i w3),(.i tw),(.i vs),(.i sp)])]))):=by kernel_rfl
theorem zde (N:Nat) (m:Md) (q:Qy) (left:List IV) (k w0 w1 w2 w3 tw vs sp:Int):z11 (z4d N) z3c [.cell 2 55] [[.int .i64,.list true [.bool,.int .i64,.int .i64],.int .i64,.int .i64,.int .i64,.int .i64,.int .i64,.int .i64]] [(.bor (ze1 m q [.vec 36 true zac left,.zs,.int .i64 k,.zs,.int .i64 w0,.int .i64 w1,.int .i64 w2,.int .i64 w3,.int .i64 tw,.int .i64 vs,.int .i64 sp]))]=(cond (k==0) (some ((.agg [(.i 3),(.list true z2x []),(.i w0),(.i w1),(.i w2),(.i w3),(.i tw),(.i sp)]),[(ze1 m q [(.vec 36 true zac (List.take (List.length left) left)),.zs,(.i k),.zs,(.i w0),(.i w1),(.i w2),(.i w3),(.i tw),(.i vs),(.i sp)])])) (some ((.agg [(.i k),(.list true z2x []),(.i w0),(.i w1),(.i w2),(.i w3),(.i tw),(.i sp)]),[(ze1 m q [(.vec 36 true zac (List.take (List.length left) left)),.zs,(.i k),.zs,(.i w0),(.i w1),(.i w2),(.i w3),(.i tw),(.i vs),(.i sp)])]))):=by kernel_rfl
theorem zdd (N:Nat) (m:Md) (q:Qy) (left u00 vp:List IV) (k w0 w1 w2 w3 tw vs sp:Int):z11 (z4d N) z3c [.cell 2 55] [[.int .i64,.list true [.bool,.int .i64,.int .i64],.int .i64,.int .i64,.int .i64,.int .i64,.int .i64,.int .i64]] [(.bor (ze1 m q [.vec 36 true zac left,.list true z2x u00,.int .i64 k,.list true z2x vp,.int .i64 w0,.int .i64 w1,.int .i64 w2,.int .i64 w3,.int .i64 tw,.int .i64 vs,.int .i64 sp]))]=(cond (k==0) (cond (Nat.ble (List.length vp) 100000) (some ((.agg [(.i 3),(.list true z2x (List.drop 0 (List.take (List.length vp) vp))),(.i w0),(.i w1),(.i w2),(.i w3),(.i tw),(.i sp)]),[(ze1 m q [(.vec 36 true zac (List.take (List.length left) left)),(.list true z2x u00),(.i k),(.list true z2x vp),(.i w0),(.i w1),(.i w2),(.i w3),(.i tw),(.i vs),(.i sp)])])) none) (cond (Nat.ble (List.length vp) 100000) (some ((.agg [(.i k),(.list true z2x (List.drop 0 (List.take (List.length vp) vp))),(.i w0),(.i w1),(.i w2),(.i w3),(.i tw),(.i sp)]),[(ze1 m q [(.vec 36 true zac (List.take (List.length left) left)),(.list true z2x u00),(.i k),(.list true z2x vp),(.i w0),(.i w1),(.i w2),(.i w3),(.i tw),(.i vs),(.i sp)])])) none)):=by kernel_rfl
theorem zdc (N:Nat) (m:Md) (q:Qy) (k w0 w1 w2 w3 tw vs sp:Int):z11 (z4d N) z3c [.cell 2 55] [[.int .i64,.list true [.bool,.int .i64,.int .i64],.int .i64,.int .i64,.int .i64,.int .i64,.int .i64,.int .i64]] [(.bor (ze1 m q [.zs,.zs,.int .i64 k,.zs,.int .i64 w0,.int .i64 w1,.int .i64 w2,.int .i64 w3,.int .i64 tw,.int .i64 vs,.int .i64 sp]))]=(cond (k==0) (some ((.agg [(.i 3),(.list true z2x []),(.i w0),(.i w1),(.i w2),(.i w3),(.i tw),(.i sp)]),[(ze1 m q [.zs,.zs,(.i k),.zs,(.i w0),(.i w1),(.i w2),(.i w3),(.i tw),(.i vs),(.i sp)])])) (some ((.agg [(.i k),(.list true z2x []),(.i w0),(.i w1),(.i w2),(.i w3),(.i tw),(.i sp)]),[(ze1 m q [.zs,.zs,(.i k),.zs,(.i w0),(.i w1),(.i w2),(.i w3),(.i tw),(.i vs),(.i sp)])]))):=by kernel_rfl
def z5s (N:Nat):Env:=mkE [(111,z7e),(122,z9r),(123,z9v),(124,zbs),(70,z5i)] [] 165 N
theorem za7 (N:Nat) (m:Md) (q:Qy) (left u00:List IV) (k w0 w1 w2 w3 tw vs sp:Int):z11 (z5s N) z49 [.tmp 2] [[.bool]] [(.bor (ze1 m q [.vec 36 true zac left,.vec 127 true z2x u00,.int .i64 k,.zs,.int .i64 w0,.int .i64 w1,.int .i64 w2,.int .i64 w3,.int .i64 tw,.int .i64 vs,.int .i64 sp]))]=(cond (k != 0) (some ((.bool false),[(ze1 m q [(.vec 36 true zac (List.take (List.length left) left)),(.vec 127 true z2x (List.take (List.length u00) u00)),(.i k),.zs,(.i w0),(.i w1),(.i w2),(.i w3),(.i tw),(.i vs),(.i sp)])])) (cond (decide (sp≥Qy.bu q)) (some ((.bool false),[(ze1 m q [(.vec 36 true zac (List.take (List.length left) left)),(.vec 127 true z2x (List.take (List.length u00) u00)),(.i k),.zs,(.i w0),(.i w1),(.i w2),(.i w3),(.i tw),(.i vs),(.i sp)])])) (cond (decide (0≤IntKind.wrap IntKind.i64 (ic (List.length left - 0) - 1))&&decide (IntKind.wrap IntKind.i64 (ic (List.length left - 0) - 1) < ic (List.length left - 0))) (cond (decide (0≤IntKind.wrap IntKind.i64 (ic (List.length left - 0) - 1))&&decide (IntKind.wrap IntKind.i64 (ic (List.length left - 0) - 1)≤ic (List.length left - 0))) (cond (z4e m q (bxI (List.getD left (0+Int.toNat (IntKind.wrap IntKind.i64 (ic (List.length left - 0) - 1))) default))) (cond (decide ((List.length u00+1)*24≤z0c)) (cond (ic (0+Int.toNat (IntKind.wrap IntKind.i64 (ic (List.length left - 0) - 1)) - 0)==0) (some ((.bool true),[(ze1 m q [(.vec 36 true zac (List.take (0+Int.toNat (IntKind.wrap IntKind.i64 (ic (List.length left - 0) - 1))) left)),(.list true z2x (List.drop 0 (List.take (List.length u00+1) (List.take (List.length u00) u00++[IV.agg [IV.bool true,IV.int 0,IV.int 0]])))),(.i 1),(.list true z2x (List.drop 0 (List.take (List.length u00+1) (List.take (List.length u00) u00++[IV.agg [IV.bool true,IV.int 0,IV.int 0]])))),(.i 0),(.i 0),(.i 0),(.i 0),(.i 0),(.i 0),(.i (IntKind.wrap IntKind.i64 (sp+1)))])])) (some ((.bool true),[(ze1 m q [(.vec 36 true zac (List.take (0+Int.toNat (IntKind.wrap IntKind.i64 (ic (List.length left - 0) - 1))) left)),(.vec 127 true z2x (List.take (List.length u00+1) (List.take (List.length u00) u00++[IV.agg [IV.bool true,IV.int 0,IV.int 0]]))),(.i k),.zs,(.i w0),(.i w1),(.i w2),(.i w3),(.i tw),(.i vs),(.i (IntKind.wrap IntKind.i64 (sp+1)))])]))) none) (cond (z5u m q (Bx.low (bxI (List.getD left (0+Int.toNat (IntKind.wrap IntKind.i64 (ic (List.length left - 0) - 1))) default))) (Sp.hi (Bx.s4 (bxI (List.getD left (0+Int.toNat (IntKind.wrap IntKind.i64 (ic (List.length left - 0) - 1))) default))))) (some ((.bool true),[(ze1 m q [(.vec 36 true zac (List.take (0+Int.toNat (IntKind.wrap IntKind.i64 (ic (List.length left - 0) - 1))) left)),(.vec 127 true z2x (List.take (List.length u00) u00)),(.i 2),.zs,(.i (Pt.p0 (Bx.low (bxI (List.getD left (0+Int.toNat (IntKind.wrap IntKind.i64 (ic (List.length left - 0) - 1))) default))))),(.i (Pt.p1 (Bx.low (bxI (List.getD left (0+Int.toNat (IntKind.wrap IntKind.i64 (ic (List.length left - 0) - 1))) default))))),(.i (Pt.p2 (Bx.low (bxI (List.getD left (0+Int.toNat (IntKind.wrap IntKind.i64 (ic (List.length left - 0) - 1))) default))))),(.i (Pt.p3 (Bx.low (bxI (List.getD left (0+Int.toNat (IntKind.wrap IntKind.i64 (ic (List.length left - 0) - 1))) default))))),(.i (Sp.hi (Bx.s4 (bxI (List.getD left (0+Int.toNat (IntKind.wrap IntKind.i64 (ic (List.length left - 0) - 1))) default))))),(.i 0),(.i (IntKind.wrap IntKind.i64 (sp+1)))])])) (cond (z2b m) (cond (!Option.isSome (z2u m q (bxI (List.getD left (0+Int.toNat (IntKind.wrap IntKind.i64 (ic (List.length left - 0) - 1))) default)))) (some ((.bool true),[(ze1 m q [(.vec 36 true zac (List.take (0+Int.toNat (IntKind.wrap IntKind.i64 (ic (List.length left - 0) - 1))) left)),(.vec 127 true z2x (List.take (List.length u00) u00)),(.i 3),.zs,(.i 0),(.i 0),(.i 0),(.i 0),(.i 0),(.i 0),(.i (IntKind.wrap IntKind.i64 (sp+1)))])])) (cond (zmk (spI (z2u m q (bxI (List.getD left (0+Int.toNat (IntKind.wrap IntKind.i64 (ic (List.length left - 0) - 1))) default))))) (cond (decide ((0+Int.toNat (IntKind.wrap IntKind.i64 (ic (List.length left - 0) - 1))+2)*80≤z0c)) (cond (decide ((List.length u00+1)*24≤z0c)) (some ((.bool true),[(ze1 m q [(.vec 36 true zac (List.take (0+Int.toNat (IntKind.wrap IntKind.i64 (ic (List.length left - 0) - 1))+2) (List.take (0+Int.toNat (IntKind.wrap IntKind.i64 (ic (List.length left - 0) - 1))) left++[(Bx.I (Bx.cutH (bxI (List.getD left (0+Int.toNat (IntKind.wrap IntKind.i64 (ic (List.length left - 0) - 1))) default)) (spI (z2u m q (bxI (List.getD left (0+Int.toNat (IntKind.wrap IntKind.i64 (ic (List.length left - 0) - 1))) default)))) (yc1 (z2u m q (bxI (List.getD left (0+Int.toNat (IntKind.wrap IntKind.i64 (ic (List.length left - 0) - 1))) default)))))),(Bx.I (Bx.cutL (bxI (List.getD left (0+Int.toNat (IntKind.wrap IntKind.i64 (ic (List.length left - 0) - 1))) default)) (spI (z2u m q (bxI (List.getD left (0+Int.toNat (IntKind.wrap IntKind.i64 (ic (List.length left - 0) - 1))) default)))) (yc1 (z2u m q (bxI (List.getD left (0+Int.toNat (IntKind.wrap IntKind.i64 (ic (List.length left - 0) - 1))) default))))))]))),(.vec 127 true z2x (List.take (List.length u00+1) (List.take (List.length u00) u00++[IV.agg [IV.bool false,IV.int (spI (z2u m q (bxI (List.getD left (0+Int.toNat (IntKind.wrap IntKind.i64 (ic (List.length left - 0) - 1))) default)))),IV.int (yc1 (z2u m q (bxI (List.getD left (0+Int.toNat (IntKind.wrap IntKind.i64 (ic (List.length left - 0) - 1))) default))))]]))),(.i k),.zs,(.i w0),(.i w1),(.i w2),(.i w3),(.i tw),(.i vs),(.i (IntKind.wrap IntKind.i64 (sp+1)))])])) none) none) none)) none))) none) none))):=by kernel_rfl
theorem z9u (N:Nat) (m:Md) (q:Qy) (left:List IV) (k w0 w1 w2 w3 tw vs sp:Int):z11 (z5s N) z49 [.tmp 2] [[.bool]] [(.bor (ze1 m q [.vec 36 true zac left,.zs,.int .i64 k,.zs,.int .i64 w0,.int .i64 w1,.int .i64 w2,.int .i64 w3,.int .i64 tw,.int .i64 vs,.int .i64 sp]))]=(cond (k != 0) (some ((.bool false),[(ze1 m q [(.vec 36 true zac (List.take (List.length left) left)),.zs,(.i k),.zs,(.i w0),(.i w1),(.i w2),(.i w3),(.i tw),(.i vs),(.i sp)])])) (cond (decide (sp≥Qy.bu q)) (some ((.bool false),[(ze1 m q [(.vec 36 true zac (List.take (List.length left) left)),.zs,(.i k),.zs,(.i w0),(.i w1),(.i w2),(.i w3),(.i tw),(.i vs),(.i sp)])])) (cond (decide (0≤IntKind.wrap IntKind.i64 (ic (List.length left - 0) - 1))&&decide (IntKind.wrap IntKind.i64 (ic (List.length left - 0) - 1) < ic (List.length left - 0))) (cond (decide (0≤IntKind.wrap IntKind.i64 (ic (List.length left - 0) - 1))&&decide (IntKind.wrap IntKind.i64 (ic (List.length left - 0) - 1)≤ic (List.length left - 0))) (cond (z4e m q (bxI (List.getD left (0+Int.toNat (IntKind.wrap IntKind.i64 (ic (List.length left - 0) - 1))) default))) (cond (ic (0+Int.toNat (IntKind.wrap IntKind.i64 (ic (List.length left - 0) - 1)) - 0)==0) (some ((.bool true),[(ze1 m q [(.vec 36 true zac (List.take (0+Int.toNat (IntKind.wrap IntKind.i64 (ic (List.length left - 0) - 1))) left)),(.list true z2x [(IV.agg [IV.bool true,IV.int 0,IV.int 0])]),(.i 1),(.list true z2x [(IV.agg [IV.bool true,IV.int 0,IV.int 0])]),(.i 0),(.i 0),(.i 0),(.i 0),(.i 0),(.i 0),(.i (IntKind.wrap IntKind.i64 (sp+1)))])])) (some ((.bool true),[(ze1 m q [(.vec 36 true zac (List.take (0+Int.toNat (IntKind.wrap IntKind.i64 (ic (List.length left - 0) - 1))) left)),(.vec 127 true z2x [(IV.agg [IV.bool true,IV.int 0,IV.int 0])]),(.i k),.zs,(.i w0),(.i w1),(.i w2),(.i w3),(.i tw),(.i vs),(.i (IntKind.wrap IntKind.i64 (sp+1)))])]))) (cond (z5u m q (Bx.low (bxI (List.getD left (0+Int.toNat (IntKind.wrap IntKind.i64 (ic (List.length left - 0) - 1))) default))) (Sp.hi (Bx.s4 (bxI (List.getD left (0+Int.toNat (IntKind.wrap IntKind.i64 (ic (List.length left - 0) - 1))) default))))) (some ((.bool true),[(ze1 m q [(.vec 36 true zac (List.take (0+Int.toNat (IntKind.wrap IntKind.i64 (ic (List.length left - 0) - 1))) left)),.zs,(.i 2),.zs,(.i (Pt.p0 (Bx.low (bxI (List.getD left (0+Int.toNat (IntKind.wrap IntKind.i64 (ic (List.length left - 0) - 1))) default))))),(.i (Pt.p1 (Bx.low (bxI (List.getD left (0+Int.toNat (IntKind.wrap IntKind.i64 (ic (List.length left - 0) - 1))) default))))),(.i (Pt.p2 (Bx.low (bxI (List.getD left (0+Int.toNat (IntKind.wrap IntKind.i64 (ic (List.length left - 0) - 1))) default))))),(.i (Pt.p3 (Bx.low (bxI (List.getD left (0+Int.toNat (IntKind.wrap IntKind.i64 (ic (List.length left - 0) - 1))) default))))),(.i (Sp.hi (Bx.s4 (bxI (List.getD left (0+Int.toNat (IntKind.wrap IntKind.i64 (ic (List.length left - 0) - 1))) default))))),(.i 0),(.i (IntKind.wrap IntKind.i64 (sp+1)))])])) (cond (z2b m) (cond (!Option.isSome (z2u m q (bxI (List.getD left (0+Int.toNat (IntKind.wrap IntKind.i64 (ic (List.length left - 0) - 1))) default)))) (some ((.bool true),[(ze1 m q [(.vec 36 true zac (List.take (0+Int.toNat (IntKind.wrap IntKind.i64 (ic (List.length left - 0) - 1))) left)),.zs,(.i 3),.zs,(.i 0),(.i 0),(.i 0),(.i 0),(.i 0),(.i 0),(.i (IntKind.wrap IntKind.i64 (sp+1)))])])) (cond (zmk (spI (z2u m q (bxI (List.getD left (0+Int.toNat (IntKind.wrap IntKind.i64 (ic (List.length left - 0) - 1))) default))))) (cond (decide ((0+Int.toNat (IntKind.wrap IntKind.i64 (ic (List.length left - 0) - 1))+2)*80≤z0c)) (some ((.bool true),[(ze1 m q [(.vec 36 true zac (List.take (0+Int.toNat (IntKind.wrap IntKind.i64 (ic (List.length left - 0) - 1))+2) (List.take (0+Int.toNat (IntKind.wrap IntKind.i64 (ic (List.length left - 0) - 1))) left++[(Bx.I (Bx.cutH (bxI (List.getD left (0+Int.toNat (IntKind.wrap IntKind.i64 (ic (List.length left - 0) - 1))) default)) (spI (z2u m q (bxI (List.getD left (0+Int.toNat (IntKind.wrap IntKind.i64 (ic (List.length left - 0) - 1))) default)))) (yc1 (z2u m q (bxI (List.getD left (0+Int.toNat (IntKind.wrap IntKind.i64 (ic (List.length left - 0) - 1))) default)))))),(Bx.I (Bx.cutL (bxI (List.getD left (0+Int.toNat (IntKind.wrap IntKind.i64 (ic (List.length left - 0) - 1))) default)) (spI (z2u m q (bxI (List.getD left (0+Int.toNat (IntKind.wrap IntKind.i64 (ic (List.length left - 0) - 1))) default)))) (yc1 (z2u m q (bxI (List.getD left (0+Int.toNat (IntKind.wrap IntKind.i64 (ic (List.length left - 0) - 1))) default))))))]))),(.vec 127 true z2x [(IV.agg [IV.bool false,IV.int (spI (z2u m q (bxI (List.getD left (0+Int.toNat (IntKind.wrap IntKind.i64 (ic (List.length left - 0) - 1))) default)))),IV.int (yc1 (z2u m q (bxI (List.getD left (0+Int.toNat (IntKind.wrap IntKind.i64 (ic (List.length left - 0) - 1))) default))))])]),(.i k),.zs,(.i w0),(.i w1),(.i w2),(.i w3),(.i tw),(.i vs),(.i (IntKind.wrap IntKind.i64 (sp+1)))])])) none) none)) none))) none) none))):=by kernel_rfl
theorem zeu (N:Nat) (m:Md) (q:Qy) (left u00 vp:List IV) (k w0 w1 w2 w3 tw vs sp:Int):z11 (z5s N) z49 [.tmp 2] [[.bool]] [(.bor (ze1 m q [.vec 36 true zac left,.list true z2x u00,.int .i64 k,.list true z2x vp,.int .i64 w0,.int .i64 w1,.int .i64 w2,.int .i64 w3,.int .i64 tw,.int .i64 vs,.int .i64 sp]))]=(cond (k != 0) (some ((.bool false),[(ze1 m q [(.vec 36 true zac (List.take (List.length left) left)),(.list true z2x u00),(.i k),(.list true z2x vp),(.i w0),(.i w1),(.i w2),(.i w3),(.i tw),(.i vs),(.i sp)])])) (cond (decide (sp≥Qy.bu q)) (some ((.bool false),[(ze1 m q [(.vec 36 true zac (List.take (List.length left) left)),(.list true z2x u00),(.i k),(.list true z2x vp),(.i w0),(.i w1),(.i w2),(.i w3),(.i tw),(.i vs),(.i sp)])])) (cond (decide (0≤IntKind.wrap IntKind.i64 (ic (List.length left - 0) - 1))&&decide (IntKind.wrap IntKind.i64 (ic (List.length left - 0) - 1) < ic (List.length left - 0))) (cond (decide (0≤IntKind.wrap IntKind.i64 (ic (List.length left - 0) - 1))&&decide (IntKind.wrap IntKind.i64 (ic (List.length left - 0) - 1)≤ic (List.length left - 0))) (cond (z4e m q (bxI (List.getD left (0+Int.toNat (IntKind.wrap IntKind.i64 (ic (List.length left - 0) - 1))) default))) none (cond (z5u m q (Bx.low (bxI (List.getD left (0+Int.toNat (IntKind.wrap IntKind.i64 (ic (List.length left - 0) - 1))) default))) (Sp.hi (Bx.s4 (bxI (List.getD left (0+Int.toNat (IntKind.wrap IntKind.i64 (ic (List.length left - 0) - 1))) default))))) (some ((.bool true),[(ze1 m q [(.vec 36 true zac (List.take (0+Int.toNat (IntKind.wrap IntKind.i64 (ic (List.length left - 0) - 1))) left)),(.list true z2x u00),(.i 2),.zs,(.i (Pt.p0 (Bx.low (bxI (List.getD left (0+Int.toNat (IntKind.wrap IntKind.i64 (ic (List.length left - 0) - 1))) default))))),(.i (Pt.p1 (Bx.low (bxI (List.getD left (0+Int.toNat (IntKind.wrap IntKind.i64 (ic (List.length left - 0) - 1))) default))))),(.i (Pt.p2 (Bx.low (bxI (List.getD left (0+Int.toNat (IntKind.wrap IntKind.i64 (ic (List.length left - 0) - 1))) default))))),(.i (Pt.p3 (Bx.low (bxI (List.getD left (0+Int.toNat (IntKind.wrap IntKind.i64 (ic (List.length left - 0) - 1))) default))))),(.i (Sp.hi (Bx.s4 (bxI (List.getD left (0+Int.toNat (IntKind.wrap IntKind.i64 (ic (List.length left - 0) - 1))) default))))),(.i 0),(.i (IntKind.wrap IntKind.i64 (sp+1)))])])) (cond (z2b m) (cond (!Option.isSome (z2u m q (bxI (List.getD left (0+Int.toNat (IntKind.wrap IntKind.i64 (ic (List.length left - 0) - 1))) default)))) (some ((.bool true),[(ze1 m q [(.vec 36 true zac (List.take (0+Int.toNat (IntKind.wrap IntKind.i64 (ic (List.length left - 0) - 1))) left)),(.list true z2x u00),(.i 3),.zs,(.i 0),(.i 0),(.i 0),(.i 0),(.i 0),(.i 0),(.i (IntKind.wrap IntKind.i64 (sp+1)))])])) (cond (zmk (spI (z2u m q (bxI (List.getD left (0+Int.toNat (IntKind.wrap IntKind.i64 (ic (List.length left - 0) - 1))) default))))) (cond (decide ((0+Int.toNat (IntKind.wrap IntKind.i64 (ic (List.length left - 0) - 1))+2)*80≤z0c)) none none) none)) none))) none) none))):=by kernel_rfl
theorem zfj (N:Nat) (m:Md) (q:Qy) (k w0 w1 w2 w3 tw vs sp:Int):z11 (z5s N) z49 [.tmp 2] [[.bool]] [(.bor (ze1 m q [.zs,.zs,.int .i64 k,.zs,.int .i64 w0,.int .i64 w1,.int .i64 w2,.int .i64 w3,.int .i64 tw,.int .i64 vs,.int .i64 sp]))]=(cond (k != 0) (some ((.bool false),[(ze1 m q [.zs,.zs,(.i k),.zs,(.i w0),(.i w1),(.i w2),(.i w3),(.i tw),(.i vs),(.i sp)])])) (cond (decide (sp≥Qy.bu q)) (some ((.bool false),[(ze1 m q [.zs,.zs,(.i k),.zs,(.i w0),(.i w1),(.i w2),(.i w3),(.i tw),(.i vs),(.i sp)])])) none)):=by kernel_rfl
open Go Go.Proofs Go.RowKit Go.Sort Go.Lib
theorem ye9:(PR.info? 127).map (fun i=>(i.zero,i.size,i.bytes))=some (some (.agg #[.bool false,.int .i64 0,.int .i64 0]),3,24):=by kernel_rfl
set_option maxHeartbeats 4000000 in
theorem y97 (b:Addr) (n c:Nat) (news:List Value) (w:World) (hl:news.length=n*3) (hn:n≤maxLen) (hbig:n*24≤140737488355328)
  (hc:∀ j u,news[j]?=some u→w.cell? (b.add j)=some u) (h1:∀ u∈news,u.oneCell'=true) :
  Calls Tryz.prog 125 #[.slice (some b) n c] w fun e w'=>∃ v',e = .returned v'∧w'.ownsRow w.heap.size 127 3 v' n news∧Below w.heap.size w w':=by
 obtain ⟨i0,hi,hz0,hz1,hz2⟩:∃ i,PR.info? 127=some i∧i.zero=some (.agg #[.bool false,.int .i64 0,.int .i64 0])∧i.size=3∧i.bytes=24:=by
  have h:=ye9;rw [v1d] at h;obtain ⟨i,hi,he⟩:=h;simp only [v04] at he;exact ⟨i,hi,he⟩
 have qS:∀ (w:World) (a:Option Addr) (n c n' c':Nat),(binOp .eql 51 (.slice a n c) (.slice none n' c')).run Tryz.prog w = .ok (.bool a.isNone) w:=fun w a n c n' c'=>Lib.run_eql_slice_nil w _ _ a n c n' c' Tryz.underlying51
 have A:Aside (∀ j u,news[j]?=some u→w.cell? (b.add j)=some u):=hc;clear hc
 go_enter Tryz.func125,Tryz.ntmps125
 go_wp2_with (at_builtin; refine wpList_append_own _ rfl _ _ 51 rfl w.heap.size 127 i0 (.agg #[.bool false,.int .i64 0,.int .i64 0]) 3 24 Tryz.underlying51 hi hz0 hz1 hz2 rfl (by decide) _ _ _ rfl (World.ownsRow_made w #[] 0 (v09 _) (v0y _) (by simp)) b n c news rfl ?qc1 ?qc2 ?qc3 ?qc4 ?qc5 ?qc6 ?_)
 case qc1=>exact hl
 case qc2=>
  intro j u hj;exact Lib.cell?_alloc_some _ (A.out j u hj)
 case qc3=>exact h1
 case qc4=>rw [v0n]; exact hn
 case qc5=>rw [v0n]; exact hbig
 case qc6=>simp
 intro v' w1 hown hgrow hnil
 go_wp2
 go_ret
 refine ⟨v',rfl,by simpa using hown,?_⟩
 exact ((Below.refl _ w).alloc (v09 _) _).grown hgrow (by simp) (by intro k hk; simp [Value.ownBlock] at hk; omega)
set_option maxHeartbeats 1000000 in
theorem zu0 (n c:Nat) (w:World):Calls Tryz.prog 125 #[.slice none n c] w fun e w'=>e = .returned (.slice none 0 0)∧w'=w:=by
 have qS:∀ (w:World) (a:Option Addr) (n c n' c':Nat),(binOp .eql 51 (.slice a n c) (.slice none n' c')).run Tryz.prog w = .ok (.bool a.isNone) w:=fun w a n c n' c'=>Lib.run_eql_slice_nil w _ _ a n c n' c' Tryz.underlying51
 go_enter Tryz.func125,Tryz.ntmps125
 go_wp2
 go_ret
 exact ⟨rfl,rfl⟩
def zg1 (y:IV):Nat→Value
 | 0=>.bool (zcb y)
 | 1=>.int .i64 (z1n y)
 | _=>.int .i64 (zi2 y)
def zcv (l:List IV):List Value:=l.flatMap fun y=>[zg1 y 0,zg1 y 1,zg1 y 2]
theorem zjn:∀ l:List IV,(zcv l).length=l.length*3
 | []=>rfl
 | y :: r=>by
  have:=zjn r
  unfold zcv at this ⊢
  rw [v3f,v08,this,v05];simp;omega
theorem zhy:∀ (l:List IV) (j:Nat) (u:Value),(zcv l)[j]?=some u→∃ i y k,j=i*3+k∧k < 3∧l[i]?=some y∧u=zg1 y k
 | [],j,u,h=>by simp [zcv] at h
 | y :: r,j,u,h=>by
  have e:zcv (y :: r)=[zg1 y 0,zg1 y 1,zg1 y 2]++zcv r:=by unfold zcv; rw [v3f]
  rw [e] at h
  match j,h with
  | 0,h=>exact ⟨0,y,0,rfl,by omega,rfl,by simpa using h.symm⟩
  | 1,h=>exact ⟨0,y,1,rfl,by omega,rfl,by simpa using h.symm⟩
  | 2,h=>exact ⟨0,y,2,rfl,by omega,rfl,by simpa using h.symm⟩
  | j+3,h=>
   obtain ⟨i,z,k,rfl,hk,hi,hu⟩:=zhy r j u (by simpa using h)
   exact ⟨i+1,z,k,by omega,hk,by simpa using hi,hu⟩
theorem y65 (l:List IV) (i:Nat) (y:IV) (hy:l[i]?=some y) (k:Nat) (hk:k < 3):(zcv l)[i*3+k]?=some (zg1 y k):=by
 have hi:i < l.length:=(List.getElem?_eq_some_iff.1 hy).1;have hlt:i*3+k < (zcv l).length:=by rw [zjn]; omega
 obtain ⟨i',y',k',h1,h2,h3,h4⟩:=zhy l (i*3+k) _ (v0e hlt);obtain rfl:i'=i:=by omega
 obtain rfl:k'=k:=by omega
 rw [hy] at h3;simp only [v00] at h3;subst h3;rw [v0e hlt,h4]
theorem zan:z2y PR B0 125 z2s:=by
 intro w X γ vs xs r out hsp hg hx hR hV;unfold z2s at hsp;simp only at hsp
 split at hsp
 ·rename_i l
  cases hc:Nat.ble l.length 100000 with
  | false=>rw [hc] at hsp; simp [R.get] at hsp
  | true=>
   rw [hc] at hsp;have hc:=v03 hc;simp only [R.get,v00,v04] at hsp;obtain ⟨rfl,rfl⟩:=hsp;obtain ⟨x0,rfl⟩:∃ x0,xs=[x0]:=by
    have:=hV.length
    simp at this
    match xs,this with
    | [a],_=>exact ⟨a,rfl⟩
   simp only [v0d,v16,z8s,VRels,VRel,v18] at hV;simp only [Kd.Rel,IV.toList] at hV;obtain ⟨p,c,rfl,hc1,hc2,hc3,hcell⟩:=hV;have key:∀ i y,l[i]?=some y→∃ b o,p=some ⟨b,o,none⟩∧(∀ k,k < 3→w.cell? ⟨b,o+i*3+k,none⟩=some (zg1 y k))∧(IntKind.i64.min≤z1n y∧z1n y≤IntKind.i64.max)∧(IntKind.i64.min≤zi2 y∧zi2 y≤IntKind.i64.max):=fun i y hy=>by
    obtain ⟨b,o,rfl,_,_,hr⟩:=hcell i y hy;simp only [Kd.RelAll,v18,v05,v0o,v0n,v1m] at hr;obtain ⟨⟨u0,a0,b0⟩,⟨u1,a1,b1⟩,⟨u2,a2,b2⟩⟩:=hr;simp only [Kd.Rel,z2w] at b0 b1 b2;refine ⟨b,o,rfl,fun k hk=>?_,b1.2,b2.2⟩
    match k,hk with
    | 0,_=>rw [b0] at a0; exact a0
    | 1,_=>rw [b1.1] at a1; exact a1
    | 2,_=>rw [b2.1] at a2; exact a2
   have hel:∀ (w':World) (O:Nat→Prop) i y,l[i]?=some y→Kd.RelAll w' O z2x (z2w true y) 0 (fun j u=>(zcv l)[i*z2x.length+j]?=some u):=fun w' O i y hy=>by
    obtain ⟨_,_,_,_,k1,k2⟩:=key i y hy;simp only [Kd.RelAll,v05,v0o,v0n,v1m,v18];have g:=y65 l i y hy;refine ⟨⟨_,g 0 (by omega),?_⟩,⟨_,g 1 (by omega),?_⟩,⟨_,g 2 (by omega),?_⟩⟩
    ·simp only [Kd.Rel,z2w,zg1,zcb]
    ·simp only [Kd.Rel,z2w,zg1,z1n]; exact ⟨trivial,k1⟩
    ·simp only [Kd.Rel,z2w,zg1,zi2]; exact ⟨trivial,k2⟩
   refine y1r hR rfl (by decide) (by decide) hc3 (Does.of_calls Tryz.func125 (by kernel_rfl) (by kernel_rfl) ?_)
   cases p with
   | none=>
    have h0:l=[]:=by
     cases l with
     | nil=>rfl
     | cons y r=>
      obtain ⟨b,o,hp,_⟩:=key 0 y rfl;cases hp
    subst h0;refine (zu0 _ c w).mono ?_
    rintro e w' ⟨rfl,rfl⟩
    exact ⟨_,[],rfl,Keep.refl _ _,⟨rfl,.inl ⟨rfl,rfl⟩⟩,hel _⟩
   | some a=>
    refine (y97 a l.length c (zcv l) w (zjn l) (by unfold maxLen; omega) (by omega) (fun j u hj=>?_) (fun u hu=>?_)).mono ?_
    ·obtain ⟨i,y,k,rfl,hk,hi,rfl⟩:=zhy l j u hj
     obtain ⟨b,o,hp,hu,_⟩:=key i y hi;simp only [v00] at hp;subst hp;rw [Addr.add_lit,← v2l];exact hu k hk
    ·obtain ⟨j,hj⟩:=v2y hu
     obtain ⟨i,y,k,_,hk,_,rfl⟩:=zhy l j u hj
     match k,hk with
     | 0,_=>rfl
     | 1,_=>rfl
     | 2,_=>rfl
    ·rintro e w' ⟨v',rfl,hown,hw⟩
     exact ⟨v',_,rfl,Keep.below hw,hown,hel _⟩
 ·simp [R.get] at hsp
open Go Go.Proofs
set_option maxRecDepth 100000
theorem yhz {l:List V} {m:Md} (h:mdOf? l=some m):l=m.cs:=by
 unfold mdOf? at h
 split at h
 ·simp only [v00] at h
  subst h
  rfl
 ·cases h
theorem yio {l:List V} {q:Qy} (h:qyOf? l=some q):l=q.cs:=by
 unfold qyOf? at h
 split at h
 ·simp only [v00] at h
  subst h
  rfl
 ·cases h
theorem yho {l r:List V} {m:Md} {q:Qy} (h:seOf? l=some (m,q,r)):l=ze1 m q r:=by
 unfold seOf? at h
 split at h
 ·rename_i m' q' h1 h2
  simp only [v00,v04] at h;obtain ⟨rfl,rfl,rfl⟩:=h;unfold ze1;rw [← yhz h1,← yio h2,v3o,v3o]
 ·cases h
def ylk (t:Nat) (s:Sr):Prop:=t≤3∧(t=3→s.left=[])∧(t=1∨t=3→s.proof=[])∧(t≠2→s.v.proof=[])
theorem yk6 {r:List V} {t:Nat} {s:Sr} (h:srT? r=some (t,s)) (m:Md) (q:Qy):ze1 m q r=srV t m q s∧ylk t s:=by
 unfold srT? at h
 split at h
 case h_5=>cases h
 all_goals
  simp only [v00,v04] at h;obtain ⟨rfl,rfl⟩:=h;refine ⟨rfl,by omega,?_,?_,?_⟩ <;> intro h <;> first | rfl | (exfalso; omega)
theorem zw3 {v:V} {k:Nat→Md→Qy→Sr→R} {z:V × List (List V)} (h:(y7p v k).get=some z):∃ t m q s,v = .bor (srV t m q s)∧ylk t s∧(k t m q s).get=some z:=by
 unfold y7p at h
 split at h
 ·rename_i l
  split at h
  ·rename_i m q r hl
   split at h
   ·rename_i t s hr
    obtain ⟨e,hw⟩:=yk6 hr m q;exact ⟨t,m,q,s,by rw [yho hl,e],hw,h⟩
   ·simp [R.get] at h
  ·simp [R.get] at h
 ·simp [R.get] at h
theorem zuy:z2y PR B0 74 zb3:=by
 refine z0i [(65,z2j),(66,z6k)] [] zb3 [[.list false []]] Tryz.func74 y44 ⟨z7h,zhu,trivial⟩ ?_;intro vs r hwf h;unfold zb3 at h
 split at h
 ·rename_i m q
  replace h:=z3n h;obtain ⟨m,rfl,h⟩:=h;replace h:=z38 h;obtain ⟨q,rfl,h⟩:=h;refine ⟨0,(zzj 0 m q).trans ?_⟩;cases hr:z3f m q with
  | true=>rw [hr,R.get_br,z00,R.get_ok] at h; exact h
  | false=>rw [hr,R.get_br,z02,R.get_ok] at h; exact h
 ·simp [R.get] at h
theorem ze4:z2y PR B0 76 z3b:=by
 refine z0i [(125,z2s)] [] z3b [[.int .i64,.list true [.bool,.int .i64,.int .i64],.int .i64,.int .i64,.int .i64,.int .i64,.int .i64,.int .i64]] Tryz.func76 zf7 ⟨zan,trivial⟩ ?_;intro vs r hwf h;unfold z3b at h
 split at h
 ·replace h:=zw3 h
  obtain ⟨t,m,q,s,rfl,hw,h⟩:=h;cases hg:Nat.ble s.v.proof.length 100000 with
  | false=>rw [hg] at h; simp [R.get] at h
  | true=>
   rw [hg,R.get_br,z00,R.get_ok] at h;refine ⟨0,?_⟩;rw [← h];obtain ⟨left,proof,⟨k,vp,a,b,c,d,tw,vs⟩,sp⟩:=s;replace hg:Nat.ble vp.length 100000=true:=hg
   match t,hw with
   | 0,hw=>
    obtain rfl:vp=[]:=hw.2.2.2 (by omega)
    refine (zdi 0 m q left proof k a b c d tw vs sp).trans ?_;rw [v0w,v0w];unfold y2l;cases (k==0) <;> rfl
   | 1,hw=>
    obtain rfl:vp=[]:=hw.2.2.2 (by omega)
    refine (zde 0 m q left k a b c d tw vs sp).trans ?_;rw [v0w];unfold y2l;cases (k==0) <;> rfl
   | 2,_=>
    refine (zdd 0 m q left proof vp k a b c d tw vs sp).trans ?_;rw [v0w,hg,z00,z00,v11,v0w];unfold y2l;cases (k==0) <;> rfl
   | 3,hw=>
    obtain rfl:vp=[]:=hw.2.2.2 (by omega)
    refine (zdc 0 m q k a b c d tw vs sp).trans ?_;unfold y2l;cases (k==0) <;> rfl
   | t+4,hw=>exact absurd hw.1 (by omega)
 ·simp [R.get] at h
theorem ygl (m:Md) (q:Qy) (b:Bx):∀ (d i:Nat),i+d=5→(spR m q b d i).isSome=true→zmk (spI (spR m q b d i))=true
 | 0,i,_,h=>by rw [spR] at h; cases h
 | d+1,i,hd,h=>by
  rw [spR] at h ⊢
  cases hc:decide ((zk4 m q b i).length > 0) with
  | true=>
   rw [z00];show zmk (i:Int)=true;unfold zmk;rw [v01 (show (0:Int)≤(i:Int) by omega),v01 (show (i:Int) < 5 by omega)]
   rfl
  | false=>
   rw [hc,z02] at h;rw [z02];exact ygl m q b d (i+1) (by omega) h
theorem zge:z2y PR B0 75 z45:=by
 refine z0i [(111,z7e),(122,z9r),(123,z9v),(124,zbs),(70,z5i)] [] z45 [[.bool]] Tryz.func75 zir ⟨zfg,zso,zsy,ztp,zg2,trivial⟩ ?_;intro vs r hwf h;unfold z45 at h
 split at h
 ·replace h:=zw3 h
  obtain ⟨t,m,q,s,rfl,hw,h⟩:=h;refine ⟨0,?_⟩;obtain ⟨left,proof,⟨k,vp,a,b,c,d,tw,vs⟩,sp⟩:=s;cases ho:znv q ⟨left,proof,⟨k,vp,a,b,c,d,tw,vs⟩,sp⟩ with
  | true=>
   rw [ho,R.get_br,z00,R.get_ok] at h;rw [← h];have hk:(k != 0)=true∨(k != 0)=false∧decide (sp≥q.bu)=true:=by
    unfold znv at ho;have e:(k != 0)=!(k==0):=rfl;rw [e];cases hk:(k==0) with
    | false=>exact .inl rfl
    | true=>
     replace ho:(!(k==0)||decide (sp≥q.bu))=true:=ho;rw [hk,v0c,v2i] at ho;exact .inr ⟨rfl,ho⟩
   match t,hw with
   | 0,hw=>
    refine (za7 0 m q left proof k a b c d tw vs sp).trans ?_;rcases hk with hk | ⟨hk,hs⟩
    ·rw [hk,z00,v0w,v0w]; rfl
    ·rw [hk,z02,hs,z00,v0w,v0w]; rfl
   | 1,hw=>
    refine (z9u 0 m q left k a b c d tw vs sp).trans ?_;rcases hk with hk | ⟨hk,hs⟩
    ·rw [hk,z00,v0w]; rfl
    ·rw [hk,z02,hs,z00,v0w]; rfl
   | 2,hw=>
    refine (zeu 0 m q left proof vp k a b c d tw vs sp).trans ?_;rcases hk with hk | ⟨hk,hs⟩
    ·rw [hk,z00,v0w]; rfl
    ·rw [hk,z02,hs,z00,v0w]; rfl
   | 3,hw=>
    refine (zfj 0 m q k a b c d tw vs sp).trans ?_;rcases hk with hk | ⟨hk,hs⟩
    ·rw [hk,z00]; rfl
    ·rw [hk,z02,hs,z00]; rfl
   | t+4,hw=>exact absurd hw.1 (by omega)
  | false=>
   rw [ho,R.get_br,z02] at h;unfold znv at ho;replace ho:(!(k==0)||decide (sp≥q.bu))=false:=ho;rw [v30] at ho;have hk:(k != 0)=false:=ho.1;have hsp:decide (sp≥q.bu)=false:=ho.2;cases hg:(Nat.ble t 1&&(z3f m q&&(decide (0≤sp)&&(Nat.blt 0 left.length&&(Nat.ble left.length 100000&&Nat.ble proof.length 100000))))) with
   | false=>
    replace h:(R.br (Nat.ble t 1&&(z3f m q&&(decide (0≤sp)&&(Nat.blt 0 left.length&&(Nat.ble left.length 100000&&Nat.ble proof.length 100000))))) _ R.no).get=some r:=h;rw [hg] at h;simp [R.get] at h
   | true=>
    replace h:(R.br (Nat.ble t 1&&(z3f m q&&(decide (0≤sp)&&(Nat.blt 0 left.length&&(Nat.ble left.length 100000&&Nat.ble proof.length 100000))))) _ R.no).get=some r:=h;rw [hg,R.get_br,z00] at h;have hst:some (.bool true,[srV (yev m q t ⟨left,proof,⟨k,vp,a,b,c,d,tw,vs⟩,sp⟩) m q (zgc m q ⟨left,proof,⟨k,vp,a,b,c,d,tw,vs⟩,sp⟩)])=some r:=by
     rw [← h];unfold yev;simp only [R.get_br,R.get_ok];cases z4e m q (z73 left) with
     | true=>cases (ic (left.length - 1)==0) <;> rfl
     | false=>
      cases z5u m q (z73 left).low (z73 left).s4.hi with
      | true=>rfl
      | false=>cases (z2u m q (z73 left)).isSome <;> rfl
    rw [← hst];simp only [v02] at hg;obtain ⟨ht,hr,h0,hl,hl5,hp5⟩:=hg;obtain ⟨hm,_,⟨_,hbu⟩,_,_⟩:=z9e hr;have h0:=v0f h0;have hs1:=v0s hsp;have hl:0 < left.length:=v03 hl;have hl5:=v03 hl5;have hp5:=v03 hp5;have esp:IntKind.wrap IntKind.i64 (sp+1)=sp+1:=z19 (by omega) (by omega)
    have etop:IntKind.wrap IntKind.i64 (ic (left.length - 0) - 1)=((left.length - 1:Nat):Int):=by
     rw [z19 (by simp only [ic]; omega) (by simp only [ic]; omega)]
     simp only [ic];omega
    have ed:(decide (0≤((left.length - 1:Nat):Int))&&decide (((left.length - 1:Nat):Int) < ic (left.length - 0)))=true:=by
     rw [v01 (by omega),v01 (by simp only [ic]; omega)]
     rfl
    have ee:(decide (0≤((left.length - 1:Nat):Int))&&decide (((left.length - 1:Nat):Int)≤ic (left.length - 0)))=true:=by
     rw [v01 (by omega),v01 (by simp only [ic]; omega)]
     rfl
    have epop:left.take (left.length - 1+2)=left.take (left.length - 1+2):=rfl;have hlen:(zi1 left).length=left.length - 1:=by unfold zi1; rw [v0j]; omega
    have htk:∀ (x y:IV),List.take (left.length - 1+2) (List.take (left.length - 1) left++[x,y])=zi1 left++[x,y]:=fun x y=>v0z (by rw [v08]; unfold zi1 at hlen; rw [hlen]; simp)
    have hb80:decide ((left.length - 1+2)*80≤z0c)=true:=v01 (by unfold z0c; omega)
    have hin:=ygl m q (z73 left) 5 0 rfl;replace hin:(z2u m q (z73 left)).isSome=true→zmk (spI (z2u m q (z73 left)))=true:=hin
    match t,ht,hw with
    | 0,_,_=>
     have hb24:decide ((proof.length+1)*24≤z0c)=true:=v01 (by unfold z0c; omega)
     have htp:∀ x:IV,List.take (proof.length+1) (proof++[x])=proof++[x]:=fun x=>v0z (by rw [v08]; simp)
     refine (za7 0 m q left proof k a b c d tw vs sp).trans ?_;rw [hk,z02,hsp,z02,etop,ed,z00,ee,z00,esp,v0l];simp only [v0n,v2q,v0w];rw [hb24,hb80,hm];unfold zgc yev;show cond (z4e m q (z73 left)) _ (cond (z5u m q (z73 left).low (z73 left).s4.hi) _ _)=_;cases z4e m q (z73 left) with
     | true=>
      simp only [htp,v11];rw [z00,z00];show cond (ic (left.length - 1)==0) _ _=_;cases (ic (left.length - 1)==0) <;> rfl
     | false=>
      rw [z02];cases z5u m q (z73 left).low (z73 left).s4.hi with
      | true=>rfl
      | false=>
       rw [z02,z00];show cond (!(z2u m q (z73 left)).isSome) _ (cond (zmk (spI (z2u m q (z73 left)))) _ _)=_;cases hs:(z2u m q (z73 left)).isSome with
       | false=>rfl
       | true=>
        rw [v0c,z02,hin hs,z00,z00,z00];simp only [htp,htk]
        rfl
    | 1,_,hw=>
     obtain rfl:proof=[]:=hw.2.2.1 (.inl rfl);refine (z9u 0 m q left k a b c d tw vs sp).trans ?_;rw [hk,z02,hsp,z02,etop,ed,z00,ee,z00,esp,v0l];simp only [v0n,v2q];rw [hb80,hm];unfold zgc yev;show cond (z4e m q (z73 left)) _ (cond (z5u m q (z73 left).low (z73 left).s4.hi) _ _)=_;cases z4e m q (z73 left) with
     | true=>
      rw [z00];show cond (ic (left.length - 1)==0) _ _=_;cases (ic (left.length - 1)==0) <;> rfl
     | false=>
      rw [z02];cases z5u m q (z73 left).low (z73 left).s4.hi with
      | true=>rfl
      | false=>
       rw [z02,z00];show cond (!(z2u m q (z73 left)).isSome) _ (cond (zmk (spI (z2u m q (z73 left)))) _ _)=_;cases hs:(z2u m q (z73 left)).isSome with
       | false=>rfl
       | true=>
        rw [v0c,z02,hin hs,z00,z00];simp only [htk]
        rfl
    | t+2,ht,_=>exact absurd (v03 ht) (by omega)
 ·simp [R.get] at h
open Go Go.Proofs
def z62 (N:Nat):Env:=mkE [(74,zb3),(75,z45),(76,z3b)] [(2,⟨[4,5],[4,8,500,501],[⟨.cell 8 23,500,36,true,zac⟩,⟨.cell 8 24,501,127,true,z2x⟩]⟩)] 13 N
open Go Go.Proofs
set_option maxRecDepth 100000
abbrev kpR:KP:=⟨[4,5],[4,8,500,501],[⟨.cell 8 23,500,36,true,zac⟩,⟨.cell 8 24,501,127,true,z2x⟩]⟩
def ylq (sh:Bool) (s:Sr):List V:=match sh with
 | false=>.row 500 0 s.left.length :: .row 501 0 s.proof.length :: vdT s.v .zs s.spent
 | true=>.row 500 0 s.left.length :: yf2 s.proof :: vdT s.v (yf2 s.v.proof) s.spent
def ylt (sh:Bool) (s:Sr):Option Ob:=match sh with
 | false=>some (.row true 127 true z2x s.proof)
 | true=>none
def zjj (m:Md) (q:Qy) (sh:Bool) (s:Sr):St:=
 ⟨[(4,.ptr 4 0 0),(5,.ptr 8 0 0)],[(4,some (.box [.int .i64 0,.zs,.int .i64 0,.int .i64 0,.int .i64 0,.int .i64 0,.int .i64 0,.int .i64 0])),(8,some (.box (ze1 m q (ylq sh s)))),(500,some (.row true 36 true zac s.left)),(501,ylt sh s)]⟩
def tkS (s:Sr):Sr:=⟨s.left.take s.left.length,s.proof.take s.proof.length,⟨s.v.kind,[],s.v.w0,s.v.w1,s.v.w2,s.v.w3,s.v.twin,s.v.spent⟩,s.spent⟩
def yjv (s:Sr):Sr:=⟨s.left.take s.left.length,s.proof,s.v,s.spent⟩
theorem y1a {s:Sr} (h:s.v.proof=[]):tkS s=s:=by
 obtain ⟨left,proof,⟨k,vp,a,b,c,d,tw,vs⟩,sp⟩:=s;obtain rfl:vp=[]:=h;unfold tkS;simp only [v0w]
theorem ych (s:Sr):yjv s=s:=by
 obtain ⟨left,proof,v,sp⟩:=s;unfold yjv;simp only [v0w]
def okS (m:Md) (q:Qy) (s:Sr):Bool:=z3f m q&&(decide (0≤s.spent)&&(Nat.blt 0 s.left.length&&(Nat.ble s.left.length 100000&&Nat.ble s.proof.length 100000)))
noncomputable abbrev yjr (N:Nat):Out→St→Res:=z06 0 (kSq (z62 N) (z0j z64 [1,1,1]) (z30 (z62 N) none [.cell 4 55] [[.int .i64,.list true z2x,.int .i64,.int .i64,.int .i64,.int .i64,.int .i64,.int .i64]]))
theorem zxd (N:Nat) (m:Md) (q:Qy):z11 (z62 N) z64 [.cell 4 55] [[.int .i64,.list true [.bool,.int .i64,.int .i64],.int .i64,.int .i64,.int .i64,.int .i64,.int .i64,.int .i64]] [m.V,q.V] =
 cond (z3f m q) (lpE (z62 N) (z0j z64 [1,1,0,0,0]) kpR N (zjj m q false ⟨[(z9x q).I],[],Vd.none,0⟩) (yjr N))
 (lpE (z62 N) (z0j z64 [1,1,0,0,0]) kpR N (zjj m q false ⟨[],[],⟨4,[],0,0,0,0,0,0⟩,0⟩) (yjr N)):=by kernel_rfl
theorem znh (N:Nat) (m:Md) (q:Qy) (s:Sr) (again:St→Res) (k:Out→St→Res):rnd (z62 N) (z0j z64 [1,1,0,0,0]) (zjj m q false s) (z3t again kpR k) =
 cond (znv q (tkS s)) (k (.exit 0) (zjj m q false (tkS s)))
 (cond (okS m q (tkS s))
 (cond (z4e m q (z73 (tkS s).left)) (cond (ic ((tkS s).left.length - 1)==0) (again (zjj m q true (zgc m q (tkS s)))) (again (zjj m q false (zgc m q (tkS s)))))
 (cond (z5u m q (z73 (tkS s).left).low (z73 (tkS s).left).s4.hi) (again (zjj m q false (zgc m q (tkS s))))
 (cond (z2u m q (z73 (tkS s).left)).isSome (again (zjj m q false (zgc m q (tkS s)))) (again (zjj m q false (zgc m q (tkS s))))))) none):=by kernel_rfl
theorem zyw (N:Nat) (m:Md) (q:Qy) (s:Sr) (again:St→Res) (k:Out→St→Res):rnd (z62 N) (z0j z64 [1,1,0,0,0]) (zjj m q true s) (z3t again kpR k) =
 cond (znv q (yjv s)) (k (.exit 0) (zjj m q true (yjv s))) none:=by kernel_rfl
theorem zw6 (N:Nat) (m:Md) (q:Qy) (s:Sr):yjr N (.exit 0) (zjj m q false s)=some ((y2l (tkS s)).V,[]):=by kernel_rfl
theorem zyo (N:Nat) (m:Md) (q:Qy) (s:Sr):yjr N (.exit 0) (zjj m q true s)=cond (Nat.ble s.v.proof.length 100000) (some ((y2l (yjv s)).V,[])) none:=by kernel_rfl
structure SrInv (q:Qy) (sh:Bool) (s:Sr):Prop where
 sp0:0≤s.spent
 sp1:s.spent≤max 0 q.bu
 left:(s.left.length:Int)≤s.spent+1
 proof:(s.proof.length:Int)≤s.spent
 vp:(s.v.proof.length:Int)≤s.spent
 own:sh=false→s.v.proof=[]
 open_:s.v.kind=0→0 < s.left.length
 shut:sh=true→s.v.kind≠0
theorem yfs (l:List IV):(zi1 l).length=l.length - 1:=by
 unfold zi1;rw [v0j];omega
theorem SrInv.step {m:Md} {q:Qy} {s:Sr} (h:SrInv q false s) (ho:znv q s=false) :
  SrInv q (z4e m q (z73 s.left)&&(ic (s.left.length - 1)==0)) (zgc m q s)∧(zgc m q s).spent=s.spent+1:=by
 unfold znv at ho;rw [v30] at ho;have hk:s.v.kind=0:=by simpa using ho.1
 have hs:=v0s ho.2;have h1:=h.sp0;have h2:=h.left;have h3:=h.proof;have h4:=h.vp;have h5:=h.own rfl;have h6:=h.open_ hk;have hp:=yfs s.left;have h5':s.v.proof.length=0:=by rw [h5]; rfl
 unfold zgc;cases z4e m q (z73 s.left) with
 | true=>
  rw [z00];cases he:(ic (s.left.length - 1)==0) with
  | true=>
   refine ⟨⟨?_,?_,?_,?_,?_,fun h=>(by cases h),fun h=>(by cases h),fun _=>(show (1:Int)≠0 by decide)⟩,rfl⟩ <;> simp only [v2h,v08,v2k] <;> omega
  | false=>
   have hne:s.left.length - 1≠0:=by simpa [ic] using he
   refine ⟨⟨?_,?_,?_,?_,?_,fun _=>h5,fun _=>?_,fun h=>(by cases h)⟩,rfl⟩ <;> simp only [v1q,v08,v2k] <;> omega
 | false=>
  rw [z02,v0v];cases z5u m q (z73 s.left).low (z73 s.left).s4.hi with
  | true=>refine ⟨⟨?_,?_,?_,?_,?_,fun _=>rfl,fun h=>(by cases h),fun h=>(by cases h)⟩,rfl⟩ <;> simp only [v2h,v0o] <;> omega
  | false=>
   rw [z02];cases (z2u m q (z73 s.left)).isSome with
   | true=>refine ⟨⟨?_,?_,?_,?_,?_,fun _=>h5,fun _=>?_,fun h=>(by cases h)⟩,rfl⟩ <;> simp only [v2h,v08,v05,v0o] <;> omega
   | false=>refine ⟨⟨?_,?_,?_,?_,?_,fun _=>rfl,fun h=>(by cases h),fun h=>(by cases h)⟩,rfl⟩ <;> simp only [v1q,v0o] <;> omega
theorem yk3 {m:Md} {q:Qy} {s:Sr} (hr:z3f m q=true) (h:SrInv q false s) (hk:s.v.kind=0):okS m q s=true:=by
 have hb:=(z9e hr).2.2.1;have h1:=h.sp0;have h2:=h.left;have h3:=h.proof;have h6:=h.open_ hk;have h7:=h.sp1;unfold okS;rw [hr,v01 h1,v1i (show s.left.length≤100000 by omega),v1i (show s.proof.length≤100000 by omega)]
 have:Nat.blt 0 s.left.length=true:=v1i h6
 rw [this]
 rfl
theorem yb7 (N:Nat) (m:Md) (q:Qy) (hr:z3f m q=true) (K:Out→St→Res):∀ (d n:Nat) (sh:Bool) (s:Sr),SrInv q sh s→q.bu < s.spent+d→d < n →
  ∃ sh',SrInv q sh' (yil m q d s)∧lpE (z62 N) (z0j z64 [1,1,0,0,0]) kpR n (zjj m q sh s) K=K (.exit 0) (zjj m q sh' (yil m q d s))
 | d,0,sh,s,_,_,h=>absurd h (by omega)
 | 0,n+1,sh,s,hi,hd,_=>by
  have h1:=hi.sp1;have h2:=hi.sp0;have h3:=(z9e hr).2.2.1;omega
 | d+1,n+1,sh,s,hi,hd,hn=>by
  rw [yil];cases ho:znv q s with
  | true=>
   rw [z00];refine ⟨sh,hi,?_⟩;cases sh with
   | false=>rw [z05,znh,y1a (hi.own rfl),ho,z00]
   | true=>rw [z05,zyw,ych,ho,z00]
  | false=>
   rw [z02];cases sh with
   | true=>
    unfold znv at ho;rw [v30] at ho
    have:=hi.shut rfl
    simp at ho;exact absurd ho.1 this
   | false=>
    obtain ⟨hi',hs'⟩:=hi.step (m:=m) ho;have hk:s.v.kind=0:=by
     unfold znv at ho;rw [v30] at ho
     simpa using ho.1
    obtain ⟨sh',hi2,hrun⟩:=yb7 N m q hr K d n _ (zgc m q s) hi' (by rw [hs']; omega) (by omega)
    refine ⟨sh',hi2,?_⟩;rw [← hrun,z05,znh,y1a (hi.own rfl),ho,z02,yk3 hr hi hk,z00];cases z4e m q (z73 s.left) with
    | true=>
     rw [z00,v0r];cases (ic (s.left.length - 1)==0) <;> rfl
    | false=>
     rw [z02,v0v];cases z5u m q (z73 s.left).low (z73 s.left).s4.hi with
     | true=>rfl
     | false=>cases (z2u m q (z73 s.left)).isSome <;> rfl
theorem yii {m:Md} {q:Qy} (hr:z3f m q=true):SrInv q false ⟨[(z9x q).I],[],Vd.none,0⟩:=
 ⟨v2x _,by have:=(z9e hr).2.2.1; show (0:Int)≤_; omega,by simp,by simp,by simp [Vd.none],fun _=>rfl,fun _=>by simp,fun h=>by cases h⟩
theorem zub:z2y PR B0 35 zb6:=by
 refine z0i [(74,zb3),(75,z45),(76,z3b)] [(2,⟨[4,5],[4,8,500,501],[⟨.cell 8 23,500,36,true,zac⟩,⟨.cell 8 24,501,127,true,z2x⟩]⟩)] zb6 [[.int .i64,.list true [.bool,.int .i64,.int .i64],.int .i64,.int .i64,.int .i64,.int .i64,.int .i64,.int .i64]] Tryz.func35 y43 ⟨zuy,zge,ze4,trivial⟩ ?_;intro vs r hwf h;unfold zb6 at h
 split at h
 ·rename_i m q
  replace h:=z3n h;obtain ⟨m,rfl,h⟩:=h;replace h:=z38 h;obtain ⟨q,rfl,h⟩:=h;rw [R.get_ok] at h;refine ⟨70000,?_⟩;rw [← h];refine (zxd 70000 m q).trans ?_;unfold yd5 yli;cases hr:z3f m q with
  | true=>
   have hb:=(z9e hr).2.2.1;rw [z00,z00];obtain ⟨sh',hi,hrun⟩:=yb7 70000 m q hr (yjr 70000) (q.bu.toNat+1) 70000 false _ (yii hr) (by show q.bu < 0+_; omega) (by omega)
   rw [hrun];generalize yil m q (q.bu.toNat+1) _=s at hi ⊢
   cases sh' with
   | false=>rw [zw6,y1a (hi.own rfl)]
   | true=>
    have h1:=hi.vp;have h2:=hi.sp1;rw [zyo,ych,v1i (show s.v.proof.length≤100000 by omega),z00]
  | false=>
   rw [z02,z02];have e:znv q ⟨[],[],⟨4,[],0,0,0,0,0,0⟩,0⟩=true:=rfl;rw [z05,znh,y1a rfl,e,z00,zw6,y1a rfl,yil,e,z00]
 ·simp [R.get] at h
open Go
def yjb:Md:=⟨1,1,3,0,0,[.agg [.int 0,.list [.int (zym false 0 0 5 1 2),.int (zym true 10 0 0 0 0),.int (zym true 20 0 0 0 0)]]]⟩
def z5x:z0q
 | []=>.ok yjb.V []
 | _=>.no
open Go
def zqe (s:Sp):Bool:=decide (-2147483648≤s.lo)&&(decide (s.lo≤s.hi)&&decide (s.hi≤2147483647))
def z5q (b:Bx):Bool:=zqe b.s0&&(zqe b.s1&&(zqe b.s2&&(zqe b.s3&&zqe b.s4)))
def zb2:z0q
 | [.list false [.int .u64] l,b]=>zdh b fun b=>.br (z94 l 4&&z5q b) (.ok (.tup [.int .i64 (tLo l b),.int .i64 (tHi l b)]) []) .no
 | _=>.no
def zbe:z0q
 | [m,.int .i64 k,b]=>zf6 m fun m=>zdh b fun b=>.br (b.emp||z5q b) (.ok (.tup [.int .i64 (sLo m k b),.int .i64 (sHi m k b)]) []) .no
 | _=>.no
def z9j:z0q
 | [m,q,b]=>zf6 m fun m=>zen q fun q=>zdh b fun b=>.br (z3f m q&&(b.emp||z5q b)) (.ok (.bool (z4e m q b)) []) .no
 | _=>.no
def zd0 (x:IV):Bool:=cond (zcb x) (z1n x==0&&zi2 x==0) (decide (0≤z1n x)&&decide (z1n x≤4))
def za6:z0q
 | [.agg [.bool s,.int .i64 p,.int .i64 a]]=>.ok (.bool (zd0 (stI s p a))) []
 | _=>.no
def zr8 (st:Int × Int) (x:IV):Option (Int × Int):=
 cond (st.1==0||!(zd0 x)) none (cond (zcb x) (some (st.1 - 1,st.2)) (some (st.1+1,max st.2 (st.1+1))))
def yee:List IV→Int × Int→Option (Int × Int)
 | [],st=>some st
 | x :: r,st=>match zr8 st x with
  | some st'=>yee r st'
  | none=>none
def zmy (l:List IV):Int:=cond (decide (ic l.length > 65536)) 0 (match yee l (1,1) with
 | some st=>cond (!(st.1==0)||decide (st.2 > 200)) 0 st.2
 | none=>0)
def zbu:z0q
 | [.list true [.bool,.int .i64,.int .i64] l]=>.ok (.int .i64 (zmy l)) []
 | _=>.no
def z9s:z0q
 | [.list true [.bool,.int .i64,.int .i64] l]=>.ok (.bool (decide (zmy l > 0))) []
 | _=>.no
def zs8 (st:List IV × List IV) (x:IV):Option (List IV × List IV):=
 cond (zcb x) (some (zi1 st.1,st.2++[(z73 st.1).I]))
  (cond (decide (zi2 x < ((z73 st.1).g (z1n x).toNat).lo)||decide (zi2 x≥((z73 st.1).g (z1n x).toNat).hi)) none
   (some (zi1 st.1++[((z73 st.1).cutH (z1n x) (zi2 x)).I,((z73 st.1).cutL (z1n x) (zi2 x)).I],st.2)))
def y7k:List IV→List IV × List IV→Option (List IV × List IV)
 | [],st=>some st
 | x :: r,st=>match zs8 st x with
  | some st'=>y7k r st'
  | none=>none
def psF (b:Bx) (l:List IV):Option (List IV):=cond (decide (zmy l > 0)) ((y7k l ([b.I],[])).map (·.2)) none
def zb9:z0q
 | [b,.list true [.bool,.int .i64,.int .i64] l]=>zdh b fun b=>.br (psF b l).isSome (.ok (.tup [.list true zac ((psF b l).getD []),.bool true]) []) (.ok (.tup [.list true zac [],.bool false]) [])
 | _=>.no
def Vd.p (v:Vd):Pt:=⟨v.w0,v.w1,v.w2,v.w3⟩
def zs9 (m:Md) (q:Qy) (v:Vd):Bool:=
 z3f m q&&cond (v.kind==1) (match psF (z9x q) v.proof with
   | some l=>l.all fun x=>z4e m q (bxI x)
   | none=>false)
  (cond (v.kind==2) ((z9x q).has v.p v.twin&&z5u m q v.p v.twin) false)
def z8b:z0q
 | [m,q,v]=>zf6 m fun m=>zen q fun q=>yju v fun v=>.ok (.bool (zs9 m q v)) []
 | _=>.no
open Go Go.Proofs
def zzl (N:Nat):Env:=mkE [] [] 16 N
theorem zu8 (N:Nat) (u01:Bool) (u00 s_At:Int):z11 (zzl N) zlh [.tmp 2] [[.bool]] [(.agg [(.bool u01),(.i u00),(.i s_At)])]=(cond u01 (some ((.bool (u01==true&&(u00==0&&(s_At==0&&true)))),[])) (cond (decide (u00≥0)) (some ((.bool (decide (u00≤4))),[])) (some ((.bool false),[])))):=by kernel_rfl
def zxk (N:Nat):Env:=mkE [(156,zbu)] [] 6 N
theorem zvh (N:Nat) (l:List IV):z11 (zxk N) zkl [.tmp 2] [[.bool]] [(.list true [.bool,.int .i64,.int .i64] l)]=(some ((.bool (decide (zmy l > 0))),[])):=by kernel_rfl
def ycd (N:Nat):Env:=mkE [(114,zam)] [(2,⟨[2,3,6,9,10],[3],[]⟩)] 25 N
open Go Go.Proofs
def z4m (N:Nat):Env:=mkE [(192,za6)] [(5,⟨[2,3,4,10,11,12],[],[]⟩)] 40 N
abbrev z3w (x2 x3 x4:Int) (l10:List IV) (x11 x12:Int):St:=⟨[(2,(.i x2)),(3,(.i x3)),(4,(.i x4)),(10,(.list true z2x l10)),(11,(.i x11)),(12,(.i x12))],[]⟩
theorem zzu (N:Nat) (l:List IV):z11 (z4m N) z68 [.tmp 2] [[.int .i64]] [(.list true [.bool,.int .i64,.int .i64] l)]=(cond (decide (ic (List.length l) > 65536)) (some ((.i 0),[])) (lpE (z4m N) (z0j z68 [1,1,1,0,1,0,0]) ⟨[2,3,4,10,11,12],[],[]⟩ N (z3w 0 1 1 l (ic (List.length l)) 0) (z06 0 (kSq (z4m N) (z0j z68 [1,1,1,1]) (z30 (z4m N) none [(ResultVar.tmp 2)] [[(.int .i64)]]))))):=by kernel_rfl
theorem zh5 (N:Nat) (x2 x3 x4:Int) (l10:List IV) (x11 x12:Int) (again:St→Res) (k:Out→St→Res):rnd (z4m N) (z0j z68 [1,1,1,0,1,0,0]) (z3w x2 x3 x4 l10 x11 x12) (z3t again ⟨[2,3,4,10,11,12],[],[]⟩ k)=(cond (decide (x12 < x11)) (cond (decide (0≤x12)&&decide (x12 < ic (List.length l10))) (cond (x3==0) (k .ret (z3w 0 x3 x4 l10 x11 x12)) (cond (!zd0 (stI (IV.toBool (IV.cell (List.getD l10 (Int.toNat x12) default) 0)) (IV.toInt (IV.cell (List.getD l10 (Int.toNat x12) default) 1)) (IV.toInt (IV.cell (List.getD l10 (Int.toNat x12) default) 2)))) (k .ret (z3w 0 x3 x4 l10 x11 x12)) (cond (IV.toBool (IV.cell (List.getD l10 (Int.toNat x12) default) 0)) (again (z3w x2 (IntKind.wrap IntKind.i64 (x3 - 1)) x4 l10 x11 (IntKind.wrap IntKind.i64 (x12+1)))) (again (z3w x2 (IntKind.wrap IntKind.i64 (x3+1)) (max x4 (IntKind.wrap IntKind.i64 (x3+1))) l10 x11 (IntKind.wrap IntKind.i64 (x12+1))))))) none) (k (.exit 0) (z3w x2 x3 x4 l10 x11 x12))):=by kernel_rfl
theorem zo0 (N:Nat) (x2 x3 x4:Int) (l10:List IV) (x11 x12:Int):(z06 0 (kSq (z4m N) (z0j z68 [1,1,1,1]) (z30 (z4m N) none [(ResultVar.tmp 2)] [[(.int .i64)]]))) (.exit 0) (z3w x2 x3 x4 l10 x11 x12)=(cond (x3 != 0) (some ((.i 0),[])) (cond (decide (x4 > 200)) (some ((.i 0),[])) (some ((.i x4),[])))):=by kernel_rfl
theorem zo2 (N:Nat) (x2 x3 x4:Int) (l10:List IV) (x11 x12:Int):(z06 0 (kSq (z4m N) (z0j z68 [1,1,1,1]) (z30 (z4m N) none [(ResultVar.tmp 2)] [[(.int .i64)]]))) .ret (z3w x2 x3 x4 l10 x11 x12)=(some ((.i x2),[])):=by kernel_rfl
def z0f (N:Nat):Env:=mkE [(112,z2e),(158,zb2),(53,z1z)] [(5,⟨[1,5,6,7,8,9,40,41,42],[5],[]⟩)] 66 N
abbrev z1v (a2:Bx) (x1 x6 x7 x8 x9:Int) (l40:List IV) (x41 x42:Int):St:=⟨[(1,(.i x1)),(5,(.ptr 5 0 0)),(6,(.i x6)),(7,(.i x7)),(8,(.i x8)),(9,(.i x9)),(40,(.list true zjw l40)),(41,(.i x41)),(42,(.i x42))],[(5,(some (.box (Bx.cs a2))))]⟩
theorem zxj (N:Nat) (m:Md) (a1:Int) (a2:Bx):z11 (z0f N) z12 [.tmp 6,.tmp 7] [[.int .i64],[.int .i64]] [(Md.V m),(.i a1),(Bx.V a2)]=(cond (!z2b m) (some ((.tup [(.i 0),(.i 0)]),[])) (cond (decide (a1 < 0)) (some ((.tup [(.i 0),(.i 0)]),[])) (cond (decide (a1≥Md.c m)) (some ((.tup [(.i 0),(.i 0)]),[])) (cond (Bx.emp a2) (some ((.tup [(.i 0),(.i 0)]),[])) (cond (decide (a1=ic 0)) (cond (decide (a1=ic 0)) (lpE (z0f N) (z0j z12 [1,1,1,0,1,0,0]) ⟨[1,5,6,7,8,9,40,41,42],[5],[]⟩ N (z1v a2 a1 0 0 (Md.b0 m) (Md.b0 m) (Md.ts m) (ic (List.length (Md.ts m))) 0) (z06 0 (kSq (z0f N) (z0j z12 [1,1,1,1]) (z30 (z0f N) none [(ResultVar.tmp 6),(ResultVar.tmp 7)] [[(.int .i64)],[(.int .i64)]])))) (cond (decide (a1=ic 1)) (lpE (z0f N) (z0j z12 [1,1,1,0,1,0,0]) ⟨[1,5,6,7,8,9,40,41,42],[5],[]⟩ N (z1v a2 a1 0 0 (Md.b0 m) (Md.b1 m) (Md.ts m) (ic (List.length (Md.ts m))) 0) (z06 0 (kSq (z0f N) (z0j z12 [1,1,1,1]) (z30 (z0f N) none [(ResultVar.tmp 6),(ResultVar.tmp 7)] [[(.int .i64)],[(.int .i64)]])))) (cond (decide (a1=ic 2)) (lpE (z0f N) (z0j z12 [1,1,1,0,1,0,0]) ⟨[1,5,6,7,8,9,40,41,42],[5],[]⟩ N (z1v a2 a1 0 0 (Md.b0 m) (Md.b2 m) (Md.ts m) (ic (List.length (Md.ts m))) 0) (z06 0 (kSq (z0f N) (z0j z12 [1,1,1,1]) (z30 (z0f N) none [(ResultVar.tmp 6),(ResultVar.tmp 7)] [[(.int .i64)],[(.int .i64)]])))) none))) (cond (decide (a1=ic 1)) (cond (decide (a1=ic 0)) (lpE (z0f N) (z0j z12 [1,1,1,0,1,0,0]) ⟨[1,5,6,7,8,9,40,41,42],[5],[]⟩ N (z1v a2 a1 0 0 (Md.b1 m) (Md.b0 m) (Md.ts m) (ic (List.length (Md.ts m))) 0) (z06 0 (kSq (z0f N) (z0j z12 [1,1,1,1]) (z30 (z0f N) none [(ResultVar.tmp 6),(ResultVar.tmp 7)] [[(.int .i64)],[(.int .i64)]])))) (cond (decide (a1=ic 1)) (lpE (z0f N) (z0j z12 [1,1,1,0,1,0,0]) ⟨[1,5,6,7,8,9,40,41,42],[5],[]⟩ N (z1v a2 a1 0 0 (Md.b1 m) (Md.b1 m) (Md.ts m) (ic (List.length (Md.ts m))) 0) (z06 0 (kSq (z0f N) (z0j z12 [1,1,1,1]) (z30 (z0f N) none [(ResultVar.tmp 6),(ResultVar.tmp 7)] [[(.int .i64)],[(.int .i64)]])))) (cond (decide (a1=ic 2)) (lpE (z0f N) (z0j z12 [1,1,1,0,1,0,0]) ⟨[1,5,6,7,8,9,40,41,42],[5],[]⟩ N (z1v a2 a1 0 0 (Md.b1 m) (Md.b2 m) (Md.ts m) (ic (List.length (Md.ts m))) 0) (z06 0 (kSq (z0f N) (z0j z12 [1,1,1,1]) (z30 (z0f N) none [(ResultVar.tmp 6),(ResultVar.tmp 7)] [[(.int .i64)],[(.int .i64)]])))) none))) (cond (decide (a1=ic 2)) (cond (decide (a1=ic 0)) (lpE (z0f N) (z0j z12 [1,1,1,0,1,0,0]) ⟨[1,5,6,7,8,9,40,41,42],[5],[]⟩ N (z1v a2 a1 0 0 (Md.b2 m) (Md.b0 m) (Md.ts m) (ic (List.length (Md.ts m))) 0) (z06 0 (kSq (z0f N) (z0j z12 [1,1,1,1]) (z30 (z0f N) none [(ResultVar.tmp 6),(ResultVar.tmp 7)] [[(.int .i64)],[(.int .i64)]])))) (cond (decide (a1=ic 1)) (lpE (z0f N) (z0j z12 [1,1,1,0,1,0,0]) ⟨[1,5,6,7,8,9,40,41,42],[5],[]⟩ N (z1v a2 a1 0 0 (Md.b2 m) (Md.b1 m) (Md.ts m) (ic (List.length (Md.ts m))) 0) (z06 0 (kSq (z0f N) (z0j z12 [1,1,1,1]) (z30 (z0f N) none [(ResultVar.tmp 6),(ResultVar.tmp 7)] [[(.int .i64)],[(.int .i64)]])))) (cond (decide (a1=ic 2)) (lpE (z0f N) (z0j z12 [1,1,1,0,1,0,0]) ⟨[1,5,6,7,8,9,40,41,42],[5],[]⟩ N (z1v a2 a1 0 0 (Md.b2 m) (Md.b2 m) (Md.ts m) (ic (List.length (Md.ts m))) 0) (z06 0 (kSq (z0f N) (z0j z12 [1,1,1,1]) (z30 (z0f N) none [(ResultVar.tmp 6),(ResultVar.tmp 7)] [[(.int .i64)],[(.int .i64)]])))) none))) none))))))):=by kernel_rfl
theorem zgz (N:Nat) (a2:Bx) (x1 x6 x7 x8 x9:Int) (l40:List IV) (x41 x42:Int) (again:St→Res) (k:Out→St→Res):rnd (z0f N) (z0j z12 [1,1,1,0,1,0,0]) (z1v a2 x1 x6 x7 x8 x9 l40 x41 x42) (z3t again ⟨[1,5,6,7,8,9,40,41,42],[5],[]⟩ k)=(cond (decide (x42 < x41)) (cond (decide (0≤x42)&&decide (x42 < ic (List.length l40))) (cond (IV.toInt (IV.cell (List.getD l40 (Int.toNat x42) default) 0)==x1) (cond (z94 (IV.toList (IV.cell (List.getD l40 (Int.toNat x42) default) 1)) 4&&z5q a2) (again (z1v a2 x1 x6 x7 (IntKind.wrap IntKind.i64 (x8+tLo (IV.toList (IV.cell (List.getD l40 (Int.toNat x42) default) 1)) a2)) (IntKind.wrap IntKind.i64 (x9+tHi (IV.toList (IV.cell (List.getD l40 (Int.toNat x42) default) 1)) a2)) l40 x41 (IntKind.wrap IntKind.i64 (x42+1)))) none) (again (z1v a2 x1 x6 x7 x8 x9 l40 x41 (IntKind.wrap IntKind.i64 (x42+1))))) none) (k (.exit 0) (z1v a2 x1 x6 x7 x8 x9 l40 x41 x42))):=by kernel_rfl
theorem zn4 (N:Nat) (a2:Bx) (x1 x6 x7 x8 x9:Int) (l40:List IV) (x41 x42:Int):(z06 0 (kSq (z0f N) (z0j z12 [1,1,1,1]) (z30 (z0f N) none [(ResultVar.tmp 6),(ResultVar.tmp 7)] [[(.int .i64)],[(.int .i64)]]))) (.exit 0) (z1v a2 x1 x6 x7 x8 x9 l40 x41 x42)=(some ((.tup [(.i x8),(.i x9)]),[])):=by kernel_rfl
def z1r (N:Nat):Env:=mkE [(112,z2e),(113,zbe)] [(9,⟨[3,4,5,6,7,42,43],[3,4,5],[]⟩)] 94 N
abbrev z3z (m:Md) (a1:Qy) (a2:Bx) (b6:Bool) (x7 x42 x43:Int):St:=⟨[(3,(.ptr 3 0 0)),(4,(.ptr 4 0 0)),(5,(.ptr 5 0 0)),(6,(.bool b6)),(7,(.i x7)),(42,(.i x42)),(43,(.i x43))],[(3,(some (.box (Md.cs m)))),(4,(some (.box (Qy.cs a1)))),(5,(some (.box (Bx.cs a2))))]⟩
theorem zuz (N:Nat) (m:Md) (a1:Qy) (a2:Bx):z11 (z1r N) z2i [.tmp 6] [[.bool]] [(Md.V m),(Qy.V a1),(Bx.V a2)]=(cond (Bx.emp a2) (some ((.bool true),[])) (cond (Bx.emp a2||z5q a2) (cond (Qy.k a1==1) (cond (decide (Qy.lo a1≤sLo m (Qy.c a1) a2)) (some ((.bool (decide (sHi m (Qy.c a1) a2≤Qy.hi a1))),[])) (some ((.bool false),[]))) (cond (Qy.k a1==2) (lpE (z1r N) (z0j z2i [1,1,1,0,1,0,1,1,1,0,0,1,0,0]) ⟨[3,4,5,6,7,42,43],[3,4,5],[]⟩ N (z3z m a1 a2 false (sLo m (Qy.c a1) a2) (Md.c m) 0) (z06 1 (kSq (z1r N) (z0j z2i [1,1,1,0,1,0,1,1,1,0,1]) (z06 0 (kSq (z1r N) (z0j z2i [1,1,1,1]) (z30 (z1r N) none [(ResultVar.tmp 6)] [[.bool]])))))) (cond (decide (Qy.ft a1=ic 0)) (cond (decide (Sp.lo (Bx.s0 a2)≥Sp.hi (Bx.s4 a2))) (some ((.bool true),[])) (cond (decide (Qy.ft a1=ic 0)) (cond (Bx.emp {s0:=(Bx.s4 a2),s1:=(Bx.s1 a2),s2:=(Bx.s2 a2),s3:=(Bx.s3 a2),s4:=(Bx.s4 a2)}||z5q {s0:=(Bx.s4 a2),s1:=(Bx.s1 a2),s2:=(Bx.s2 a2),s3:=(Bx.s3 a2),s4:=(Bx.s4 a2)}) (cond (Qy.fl a1) (some ((.bool (decide (sHi m (Qy.c a1) {s0:=(Bx.s4 a2),s1:=(Bx.s1 a2),s2:=(Bx.s2 a2),s3:=(Bx.s3 a2),s4:=(Bx.s4 a2)}≤sLo m (Qy.c a1) a2))),[])) (some ((.bool (decide (sLo m (Qy.c a1) {s0:=(Bx.s4 a2),s1:=(Bx.s1 a2),s2:=(Bx.s2 a2),s3:=(Bx.s3 a2),s4:=(Bx.s4 a2)}≥sHi m (Qy.c a1) a2))),[]))) none) (cond (decide (Qy.ft a1=ic 1)) (cond (Bx.emp {s0:=(Bx.s0 a2),s1:=(Bx.s4 a2),s2:=(Bx.s2 a2),s3:=(Bx.s3 a2),s4:=(Bx.s4 a2)}||z5q {s0:=(Bx.s0 a2),s1:=(Bx.s4 a2),s2:=(Bx.s2 a2),s3:=(Bx.s3 a2),s4:=(Bx.s4 a2)}) (cond (Qy.fl a1) (some ((.bool (decide (sHi m (Qy.c a1) {s0:=(Bx.s0 a2),s1:=(Bx.s4 a2),s2:=(Bx.s2 a2),s3:=(Bx.s3 a2),s4:=(Bx.s4 a2)}≤sLo m (Qy.c a1) a2))),[])) (some ((.bool (decide (sLo m (Qy.c a1) {s0:=(Bx.s0 a2),s1:=(Bx.s4 a2),s2:=(Bx.s2 a2),s3:=(Bx.s3 a2),s4:=(Bx.s4 a2)}≥sHi m (Qy.c a1) a2))),[]))) none) (cond (decide (Qy.ft a1=ic 2)) (cond (Bx.emp {s0:=(Bx.s0 a2),s1:=(Bx.s1 a2),s2:=(Bx.s4 a2),s3:=(Bx.s3 a2),s4:=(Bx.s4 a2)}||z5q {s0:=(Bx.s0 a2),s1:=(Bx.s1 a2),s2:=(Bx.s4 a2),s3:=(Bx.s3 a2),s4:=(Bx.s4 a2)}) (cond (Qy.fl a1) (some ((.bool (decide (sHi m (Qy.c a1) {s0:=(Bx.s0 a2),s1:=(Bx.s1 a2),s2:=(Bx.s4 a2),s3:=(Bx.s3 a2),s4:=(Bx.s4 a2)}≤sLo m (Qy.c a1) a2))),[])) (some ((.bool (decide (sLo m (Qy.c a1) {s0:=(Bx.s0 a2),s1:=(Bx.s1 a2),s2:=(Bx.s4 a2),s3:=(Bx.s3 a2),s4:=(Bx.s4 a2)}≥sHi m (Qy.c a1) a2))),[]))) none) (cond (decide (Qy.ft a1=ic 3)) (cond (Bx.emp {s0:=(Bx.s0 a2),s1:=(Bx.s1 a2),s2:=(Bx.s2 a2),s3:=(Bx.s4 a2),s4:=(Bx.s4 a2)}||z5q {s0:=(Bx.s0 a2),s1:=(Bx.s1 a2),s2:=(Bx.s2 a2),s3:=(Bx.s4 a2),s4:=(Bx.s4 a2)}) (cond (Qy.fl a1) (some ((.bool (decide (sHi m (Qy.c a1) {s0:=(Bx.s0 a2),s1:=(Bx.s1 a2),s2:=(Bx.s2 a2),s3:=(Bx.s4 a2),s4:=(Bx.s4 a2)}≤sLo m (Qy.c a1) a2))),[])) (some ((.bool (decide (sLo m (Qy.c a1) {s0:=(Bx.s0 a2),s1:=(Bx.s1 a2),s2:=(Bx.s2 a2),s3:=(Bx.s4 a2),s4:=(Bx.s4 a2)}≥sHi m (Qy.c a1) a2))),[]))) none) (cond (decide (Qy.ft a1=ic 4)) (cond (Bx.emp a2||z5q a2) (cond (Qy.fl a1) (some ((.bool (decide (sHi m (Qy.c a1) a2≤sLo m (Qy.c a1) a2))),[])) (some ((.bool (decide (sLo m (Qy.c a1) a2≥sHi m (Qy.c a1) a2))),[]))) none) none)))))) (cond (decide (Qy.ft a1=ic 1)) (cond (decide (Sp.lo (Bx.s1 a2)≥Sp.hi (Bx.s4 a2))) (some ((.bool true),[])) (cond (decide (Qy.ft a1=ic 0)) (cond (Bx.emp {s0:=(Bx.s4 a2),s1:=(Bx.s1 a2),s2:=(Bx.s2 a2),s3:=(Bx.s3 a2),s4:=(Bx.s4 a2)}||z5q {s0:=(Bx.s4 a2),s1:=(Bx.s1 a2),s2:=(Bx.s2 a2),s3:=(Bx.s3 a2),s4:=(Bx.s4 a2)}) (cond (Qy.fl a1) (some ((.bool (decide (sHi m (Qy.c a1) {s0:=(Bx.s4 a2),s1:=(Bx.s1 a2),s2:=(Bx.s2 a2),s3:=(Bx.s3 a2),s4:=(Bx.s4 a2)}≤sLo m (Qy.c a1) a2))),[])) (some ((.bool (decide (sLo m (Qy.c a1) {s0:=(Bx.s4 a2),s1:=(Bx.s1 a2),s2:=(Bx.s2 a2),s3:=(Bx.s3 a2),s4:=(Bx.s4 a2)}≥sHi m (Qy.c a1) a2))),[]))) none) (cond (decide (Qy.ft a1=ic 1)) (cond (Bx.emp {s0:=(Bx.s0 a2),s1:=(Bx.s4 a2),s2:=(Bx.s2 a2),s3:=(Bx.s3 a2),s4:=(Bx.s4 a2)}||z5q {s0:=(Bx.s0 a2),s1:=(Bx.s4 a2),s2:=(Bx.s2 a2),s3:=(Bx.s3 a2),s4:=(Bx.s4 a2)}) (cond (Qy.fl a1) (some ((.bool (decide (sHi m (Qy.c a1) {s0:=(Bx.s0 a2),s1:=(Bx.s4 a2),s2:=(Bx.s2 a2),s3:=(Bx.s3 a2),s4:=(Bx.s4 a2)}≤sLo m (Qy.c a1) a2))),[])) (some ((.bool (decide (sLo m (Qy.c a1) {s0:=(Bx.s0 a2),s1:=(Bx.s4 a2),s2:=(Bx.s2 a2),s3:=(Bx.s3 a2),s4:=(Bx.s4 a2)}≥sHi m (Qy.c a1) a2))),[]))) none) (cond (decide (Qy.ft a1=ic 2)) (cond (Bx.emp {s0:=(Bx.s0 a2),s1:=(Bx.s1 a2),s2:=(Bx.s4 a2),s3:=(Bx.s3 a2),s4:=(Bx.s4 a2)}||z5q {s0:=(Bx.s0 a2),s1:=(Bx.s1 a2),s2:=(Bx.s4 a2),s3:=(Bx.s3 a2),s4:=(Bx.s4 a2)}) (cond (Qy.fl a1) (some ((.bool (decide (sHi m (Qy.c a1) {s0:=(Bx.s0 a2),s1:=(Bx.s1 a2),s2:=(Bx.s4 a2),s3:=(Bx.s3 a2),s4:=(Bx.s4 a2)}≤sLo m (Qy.c a1) a2))),[])) (some ((.bool (decide (sLo m (Qy.c a1) {s0:=(Bx.s0 a2),s1:=(Bx.s1 a2),s2:=(Bx.s4 a2),s3:=(Bx.s3 a2),s4:=(Bx.s4 a2)}≥sHi m (Qy.c a1) a2))),[]))) none) (cond (decide (Qy.ft a1=ic 3)) (cond (Bx.emp {s0:=(Bx.s0 a2),s1:=(Bx.s1 a2),s2:=(Bx.s2 a2),s3:=(Bx.s4 a2),s4:=(Bx.s4 a2)}||z5q {s0:=(Bx.s0 a2),s1:=(Bx.s1 a2),s2:=(Bx.s2 a2),s3:=(Bx.s4 a2),s4:=(Bx.s4 a2)}) (cond (Qy.fl a1) (some ((.bool (decide (sHi m (Qy.c a1) {s0:=(Bx.s0 a2),s1:=(Bx.s1 a2),s2:=(Bx.s2 a2),s3:=(Bx.s4 a2),s4:=(Bx.s4 a2)}≤sLo m (Qy.c a1) a2))),[])) (some ((.bool (decide (sLo m (Qy.c a1) {s0:=(Bx.s0 a2),s1:=(Bx.s1 a2),s2:=(Bx.s2 a2),s3:=(Bx.s4 a2),s4:=(Bx.s4 a2)}≥sHi m (Qy.c a1) a2))),[]))) none) (cond (decide (Qy.ft a1=ic 4)) (cond (Bx.emp a2||z5q a2) (cond (Qy.fl a1) (some ((.bool (decide (sHi m (Qy.c a1) a2≤sLo m (Qy.c a1) a2))),[])) (some ((.bool (decide (sLo m (Qy.c a1) a2≥sHi m (Qy.c a1) a2))),[]))) none) none)))))) (cond (decide (Qy.ft a1=ic 2)) (cond (decide (Sp.lo (Bx.s2 a2)≥Sp.hi (Bx.s4 a2))) (some ((.bool true),[])) (cond (decide (Qy.ft a1=ic 0)) (cond (Bx.emp {s0:=(Bx.s4 a2),s1:=(Bx.s1 a2),s2:=(Bx.s2 a2),s3:=(Bx.s3 a2),s4:=(Bx.s4 a2)}||z5q {s0:=(Bx.s4 a2),s1:=(Bx.s1 a2),s2:=(Bx.s2 a2),s3:=(Bx.s3 a2),s4:=(Bx.s4 a2)}) (cond (Qy.fl a1) (some ((.bool (decide (sHi m (Qy.c a1) {s0:=(Bx.s4 a2),s1:=(Bx.s1 a2),s2:=(Bx.s2 a2),s3:=(Bx.s3 a2),s4:=(Bx.s4 a2)}≤sLo m (Qy.c a1) a2))),[])) (some ((.bool (decide (sLo m (Qy.c a1) {s0:=(Bx.s4 a2),s1:=(Bx.s1 a2),s2:=(Bx.s2 a2),s3:=(Bx.s3 a2),s4:=(Bx.s4 a2)}≥sHi m (Qy.c a1) a2))),[]))) none) (cond (decide (Qy.ft a1=ic 1)) (cond (Bx.emp {s0:=(Bx.s0 a2),s1:=(Bx.s4 a2),s2:=(Bx.s2 a2),s3:=(Bx.s3 a2),s4:=(Bx.s4 a2)}||z5q {s0:=(Bx.s0 a2),s1:=(Bx.s4 a2),s2:=(Bx.s2 a2),s3:=(Bx.s3 a2),s4:=(Bx.s4 a2)}) (cond (Qy.fl a1) (some ((.bool (decide (sHi m (Qy.c a1) {s0:=(Bx.s0 a2),s1:=(Bx.s4 a2),s2:=(Bx.s2 a2),s3:=(Bx.s3 a2),s4:=(Bx.s4 a2)}≤sLo m (Qy.c a1) a2))),[])) (some ((.bool (decide (sLo m (Qy.c a1) {s0:=(Bx.s0 a2),s1:=(Bx.s4 a2),s2:=(Bx.s2 a2),s3:=(Bx.s3 a2),s4:=(Bx.s4 a2)}≥sHi m (Qy.c a1) a2))),[]))) none) (cond (decide (Qy.ft a1=ic 2)) (cond (Bx.emp {s0:=(Bx.s0 a2),s1:=(Bx.s1 a2),s2:=(Bx.s4 a2),s3:=(Bx.s3 a2),s4:=(Bx.s4 a2)}||z5q {s0:=(Bx.s0 a2),s1:=(Bx.s1 a2),s2:=(Bx.s4 a2),s3:=(Bx.s3 a2),s4:=(Bx.s4 a2)}) (cond (Qy.fl a1) (some ((.bool (decide (sHi m (Qy.c a1) {s0:=(Bx.s0 a2),s1:=(Bx.s1 a2),s2:=(Bx.s4 a2),s3:=(Bx.s3 a2),s4:=(Bx.s4 a2)}≤sLo m (Qy.c a1) a2))),[])) (some ((.bool (decide (sLo m (Qy.c a1) {s0:=(Bx.s0 a2),s1:=(Bx.s1 a2),s2:=(Bx.s4 a2),s3:=(Bx.s3 a2),s4:=(Bx.s4 a2)}≥sHi m (Qy.c a1) a2))),[]))) none) (cond (decide (Qy.ft a1=ic 3)) (cond (Bx.emp {s0:=(Bx.s0 a2),s1:=(Bx.s1 a2),s2:=(Bx.s2 a2),s3:=(Bx.s4 a2),s4:=(Bx.s4 a2)}||z5q {s0:=(Bx.s0 a2),s1:=(Bx.s1 a2),s2:=(Bx.s2 a2),s3:=(Bx.s4 a2),s4:=(Bx.s4 a2)}) (cond (Qy.fl a1) (some ((.bool (decide (sHi m (Qy.c a1) {s0:=(Bx.s0 a2),s1:=(Bx.s1 a2),s2:=(Bx.s2 a2),s3:=(Bx.s4 a2),s4:=(Bx.s4 a2)}≤sLo m (Qy.c a1) a2))),[])) (some ((.bool (decide (sLo m (Qy.c a1) {s0:=(Bx.s0 a2),s1:=(Bx.s1 a2),s2:=(Bx.s2 a2),s3:=(Bx.s4 a2),s4:=(Bx.s4 a2)}≥sHi m (Qy.c a1) a2))),[]))) none) (cond (decide (Qy.ft a1=ic 4)) (cond (Bx.emp a2||z5q a2) (cond (Qy.fl a1) (some ((.bool (decide (sHi m (Qy.c a1) a2≤sLo m (Qy.c a1) a2))),[])) (some ((.bool (decide (sLo m (Qy.c a1) a2≥sHi m (Qy.c a1) a2))),[]))) none) none)))))) (cond (decide (Qy.ft a1=ic 3)) (cond (decide (Sp.lo (Bx.s3 a2)≥Sp.hi (Bx.s4 a2))) (some ((.bool true),[])) (cond (decide (Qy.ft a1=ic 0)) (cond (Bx.emp {s0:=(Bx.s4 a2),s1:=(Bx.s1 a2),s2:=(Bx.s2 a2),s3:=(Bx.s3 a2),s4:=(Bx.s4 a2)}||z5q {s0:=(Bx.s4 a2),s1:=(Bx.s1 a2),s2:=(Bx.s2 a2),s3:=(Bx.s3 a2),s4:=(Bx.s4 a2)}) (cond (Qy.fl a1) (some ((.bool (decide (sHi m (Qy.c a1) {s0:=(Bx.s4 a2),s1:=(Bx.s1 a2),s2:=(Bx.s2 a2),s3:=(Bx.s3 a2),s4:=(Bx.s4 a2)}≤sLo m (Qy.c a1) a2))),[])) (some ((.bool (decide (sLo m (Qy.c a1) {s0:=(Bx.s4 a2),s1:=(Bx.s1 a2),s2:=(Bx.s2 a2),s3:=(Bx.s3 a2),s4:=(Bx.s4 a2)}≥sHi m (Qy.c a1) a2))),[]))) none) (cond (decide (Qy.ft a1=ic 1)) (cond (Bx.emp {s0:=(Bx.s0 a2),s1:=(Bx.s4 a2),s2:=(Bx.s2 a2),s3:=(Bx.s3 a2),s4:=(Bx.s4 a2)}||z5q {s0:=(Bx.s0 a2),s1:=(Bx.s4 a2),s2:=(Bx.s2 a2),s3:=(Bx.s3 a2),s4:=(Bx.s4 a2)}) (cond (Qy.fl a1) (some ((.bool (decide (sHi m (Qy.c a1) {s0:=(Bx.s0 a2),s1:=(Bx.s4 a2),s2:=(Bx.s2 a2),s3:=(Bx.s3 a2),s4:=(Bx.s4 a2)}≤sLo m (Qy.c a1) a2))),[])) (some ((.bool (decide (sLo m (Qy.c a1) {s0:=(Bx.s0 a2),s1:=(Bx.s4 a2),s2:=(Bx.s2 a2),s3:=(Bx.s3 a2),s4:=(Bx.s4 a2)}≥sHi m (Qy.c a1) a2))),[]))) none) (cond (decide (Qy.ft a1=ic 2)) (cond (Bx.emp {s0:=(Bx.s0 a2),s1:=(Bx.s1 a2),s2:=(Bx.s4 a2),s3:=(Bx.s3 a2),s4:=(Bx.s4 a2)}||z5q {s0:=(Bx.s0 a2),s1:=(Bx.s1 a2),s2:=(Bx.s4 a2),s3:=(Bx.s3 a2),s4:=(Bx.s4 a2)}) (cond (Qy.fl a1) (some ((.bool (decide (sHi m (Qy.c a1) {s0:=(Bx.s0 a2),s1:=(Bx.s1 a2),s2:=(Bx.s4 a2),s3:=(Bx.s3 a2),s4:=(Bx.s4 a2)}≤sLo m (Qy.c a1) a2))),[])) (some ((.bool (decide (sLo m (Qy.c a1) {s0:=(Bx.s0 a2),s1:=(Bx.s1 a2),s2:=(Bx.s4 a2),s3:=(Bx.s3 a2),s4:=(Bx.s4 a2)}≥sHi m (Qy.c a1) a2))),[]))) none) (cond (decide (Qy.ft a1=ic 3)) (cond (Bx.emp {s0:=(Bx.s0 a2),s1:=(Bx.s1 a2),s2:=(Bx.s2 a2),s3:=(Bx.s4 a2),s4:=(Bx.s4 a2)}||z5q {s0:=(Bx.s0 a2),s1:=(Bx.s1 a2),s2:=(Bx.s2 a2),s3:=(Bx.s4 a2),s4:=(Bx.s4 a2)}) (cond (Qy.fl a1) (some ((.bool (decide (sHi m (Qy.c a1) {s0:=(Bx.s0 a2),s1:=(Bx.s1 a2),s2:=(Bx.s2 a2),s3:=(Bx.s4 a2),s4:=(Bx.s4 a2)}≤sLo m (Qy.c a1) a2))),[])) (some ((.bool (decide (sLo m (Qy.c a1) {s0:=(Bx.s0 a2),s1:=(Bx.s1 a2),s2:=(Bx.s2 a2),s3:=(Bx.s4 a2),s4:=(Bx.s4 a2)}≥sHi m (Qy.c a1) a2))),[]))) none) (cond (decide (Qy.ft a1=ic 4)) (cond (Bx.emp a2||z5q a2) (cond (Qy.fl a1) (some ((.bool (decide (sHi m (Qy.c a1) a2≤sLo m (Qy.c a1) a2))),[])) (some ((.bool (decide (sLo m (Qy.c a1) a2≥sHi m (Qy.c a1) a2))),[]))) none) none)))))) (cond (decide (Qy.ft a1=ic 4)) (cond (decide (Sp.lo (Bx.s4 a2)≥Sp.hi (Bx.s4 a2))) (some ((.bool true),[])) (cond (decide (Qy.ft a1=ic 0)) (cond (Bx.emp {s0:=(Bx.s4 a2),s1:=(Bx.s1 a2),s2:=(Bx.s2 a2),s3:=(Bx.s3 a2),s4:=(Bx.s4 a2)}||z5q {s0:=(Bx.s4 a2),s1:=(Bx.s1 a2),s2:=(Bx.s2 a2),s3:=(Bx.s3 a2),s4:=(Bx.s4 a2)}) (cond (Qy.fl a1) (some ((.bool (decide (sHi m (Qy.c a1) {s0:=(Bx.s4 a2),s1:=(Bx.s1 a2),s2:=(Bx.s2 a2),s3:=(Bx.s3 a2),s4:=(Bx.s4 a2)}≤sLo m (Qy.c a1) a2))),[])) (some ((.bool (decide (sLo m (Qy.c a1) {s0:=(Bx.s4 a2),s1:=(Bx.s1 a2),s2:=(Bx.s2 a2),s3:=(Bx.s3 a2),s4:=(Bx.s4 a2)}≥sHi m (Qy.c a1) a2))),[]))) none) (cond (decide (Qy.ft a1=ic 1)) (cond (Bx.emp {s0:=(Bx.s0 a2),s1:=(Bx.s4 a2),s2:=(Bx.s2 a2),s3:=(Bx.s3 a2),s4:=(Bx.s4 a2)}||z5q {s0:=(Bx.s0 a2),s1:=(Bx.s4 a2),s2:=(Bx.s2 a2),s3:=(Bx.s3 a2),s4:=(Bx.s4 a2)}) (cond (Qy.fl a1) (some ((.bool (decide (sHi m (Qy.c a1) {s0:=(Bx.s0 a2),s1:=(Bx.s4 a2),s2:=(Bx.s2 a2),s3:=(Bx.s3 a2),s4:=(Bx.s4 a2)}≤sLo m (Qy.c a1) a2))),[])) (some ((.bool (decide (sLo m (Qy.c a1) {s0:=(Bx.s0 a2),s1:=(Bx.s4 a2),s2:=(Bx.s2 a2),s3:=(Bx.s3 a2),s4:=(Bx.s4 a2)}≥sHi m (Qy.c a1) a2))),[]))) none) (cond (decide (Qy.ft a1=ic 2)) (cond (Bx.emp {s0:=(Bx.s0 a2),s1:=(Bx.s1 a2),s2:=(Bx.s4 a2),s3:=(Bx.s3 a2),s4:=(Bx.s4 a2)}||z5q {s0:=(Bx.s0 a2),s1:=(Bx.s1 a2),s2:=(Bx.s4 a2),s3:=(Bx.s3 a2),s4:=(Bx.s4 a2)}) (cond (Qy.fl a1) (some ((.bool (decide (sHi m (Qy.c a1) {s0:=(Bx.s0 a2),s1:=(Bx.s1 a2),s2:=(Bx.s4 a2),s3:=(Bx.s3 a2),s4:=(Bx.s4 a2)}≤sLo m (Qy.c a1) a2))),[])) (some ((.bool (decide (sLo m (Qy.c a1) {s0:=(Bx.s0 a2),s1:=(Bx.s1 a2),s2:=(Bx.s4 a2),s3:=(Bx.s3 a2),s4:=(Bx.s4 a2)}≥sHi m (Qy.c a1) a2))),[]))) none) (cond (decide (Qy.ft a1=ic 3)) (cond (Bx.emp {s0:=(Bx.s0 a2),s1:=(Bx.s1 a2),s2:=(Bx.s2 a2),s3:=(Bx.s4 a2),s4:=(Bx.s4 a2)}||z5q {s0:=(Bx.s0 a2),s1:=(Bx.s1 a2),s2:=(Bx.s2 a2),s3:=(Bx.s4 a2),s4:=(Bx.s4 a2)}) (cond (Qy.fl a1) (some ((.bool (decide (sHi m (Qy.c a1) {s0:=(Bx.s0 a2),s1:=(Bx.s1 a2),s2:=(Bx.s2 a2),s3:=(Bx.s4 a2),s4:=(Bx.s4 a2)}≤sLo m (Qy.c a1) a2))),[])) (some ((.bool (decide (sLo m (Qy.c a1) {s0:=(Bx.s0 a2),s1:=(Bx.s1 a2),s2:=(Bx.s2 a2),s3:=(Bx.s4 a2),s4:=(Bx.s4 a2)}≥sHi m (Qy.c a1) a2))),[]))) none) (cond (decide (Qy.ft a1=ic 4)) (cond (Bx.emp a2||z5q a2) (cond (Qy.fl a1) (some ((.bool (decide (sHi m (Qy.c a1) a2≤sLo m (Qy.c a1) a2))),[])) (some ((.bool (decide (sLo m (Qy.c a1) a2≥sHi m (Qy.c a1) a2))),[]))) none) none)))))) none))))))) none)):=by kernel_rfl
theorem zg4 (N:Nat) (m:Md) (a1:Qy) (a2:Bx) (b6:Bool) (x7 x42 x43:Int) (again:St→Res) (k:Out→St→Res):rnd (z1r N) (z0j z2i [1,1,1,0,1,0,1,1,1,0,0,1,0,0]) (z3z m a1 a2 b6 x7 x42 x43) (z3t again ⟨[3,4,5,6,7,42,43],[3,4,5],[]⟩ k)=(cond (decide (x43 < x42)) (cond (Bx.emp a2||z5q a2) (cond (x43 != Qy.c a1) (cond (decide (sHi m x43 a2≥x7)) (k .ret (z3z m a1 a2 false x7 x42 x43)) (again (z3z m a1 a2 b6 x7 x42 (IntKind.wrap IntKind.i64 (x43+1))))) (again (z3z m a1 a2 b6 x7 x42 (IntKind.wrap IntKind.i64 (x43+1))))) none) (k (.exit 1) (z3z m a1 a2 b6 x7 x42 x43))):=by kernel_rfl
theorem zm1 (N:Nat) (m:Md) (a1:Qy) (a2:Bx) (b6:Bool) (x7 x42 x43:Int):(z06 1 (kSq (z1r N) (z0j z2i [1,1,1,0,1,0,1,1,1,0,1]) (z06 0 (kSq (z1r N) (z0j z2i [1,1,1,1]) (z30 (z1r N) none [(ResultVar.tmp 6)] [[.bool]]))))) (.exit 1) (z3z m a1 a2 b6 x7 x42 x43)=(some ((.bool true),[])):=by kernel_rfl
theorem zld (N:Nat) (m:Md) (a1:Qy) (a2:Bx) (b6:Bool) (x7 x42 x43:Int):(z06 1 (kSq (z1r N) (z0j z2i [1,1,1,0,1,0,1,1,1,0,1]) (z06 0 (kSq (z1r N) (z0j z2i [1,1,1,1]) (z30 (z1r N) none [(ResultVar.tmp 6)] [[.bool]]))))) .ret (z3z m a1 a2 b6 x7 x42 x43)=(some ((.bool b6),[])):=by kernel_rfl
def z10 (N:Nat):Env:=mkE [(69,zh7),(68,z9j),(67,zb9),(70,z5i),(65,z2j),(66,z6k)] [(8,⟨[3,4,6,9,29,30,31],[3,4],[]⟩)] 59 N
abbrev z3i (m:Md) (q:Qy) (b6 b9:Bool) (l29:List IV) (x30 x31:Int):St:=⟨[(3,(.ptr 3 0 0)),(4,(.ptr 4 0 0)),(6,(.bool b6)),(9,(.bool b9)),(29,(.list true zac l29)),(30,(.i x30)),(31,(.i x31))],[(3,(some (.box (Md.cs m)))),(4,(some (.box (Qy.cs q))))]⟩
theorem zsa (N:Nat) (m:Md) (q:Qy) (v:Vd):z11 (z10 N) z1h [.tmp 6] [[.bool]] [(Md.V m),(Qy.V q),(Vd.V v)]=(cond (!z3f m q) (some ((.bool false),[])) (cond (Vd.kind v==1) (cond (Option.isSome (psF (z9x q) (Vd.proof v))) (lpE (z10 N) (z0j z1h [1,1,1,0,1,0,1,0,1,0,1,0,0]) ⟨[3,4,6,9,29,30,31],[3,4],[]⟩ N (z3i m q false true (Option.getD (psF (z9x q) (Vd.proof v)) []) (ic (List.length (Option.getD (psF (z9x q) (Vd.proof v)) []))) 0) (z06 1 (kSq (z10 N) (z0j z1h [1,1,1,0,1,0,1,0,1,1]) (z06 0 (kSq (z10 N) (z0j z1h [1,1,1,1]) (z30 (z10 N) none [(ResultVar.tmp 6)] [[.bool]])))))) (lpE (z10 N) (z0j z1h [1,1,1,0,1,0,1,0,1,0,1,0,0]) ⟨[3,4,6,9,29,30,31],[3,4],[]⟩ N (z3i m q false false [] (ic 0) 0) (z06 1 (kSq (z10 N) (z0j z1h [1,1,1,0,1,0,1,0,1,1]) (z06 0 (kSq (z10 N) (z0j z1h [1,1,1,1]) (z30 (z10 N) none [(ResultVar.tmp 6)] [[.bool]]))))))) (cond (Vd.kind v==2) (cond (Bx.has (z9x q) {p0:=Vd.w0 v,p1:=Vd.w1 v,p2:=Vd.w2 v,p3:=Vd.w3 v} (Vd.twin v)) (some ((.bool (z5u m q {p0:=Vd.w0 v,p1:=Vd.w1 v,p2:=Vd.w2 v,p3:=Vd.w3 v} (Vd.twin v))),[])) (some ((.bool false),[]))) (some ((.bool false),[]))))):=by kernel_rfl
theorem zao (N:Nat) (m:Md) (q:Qy) (b6 b9:Bool) (l29:List IV) (x30 x31:Int) (again:St→Res) (k:Out→St→Res):rnd (z10 N) (z0j z1h [1,1,1,0,1,0,1,0,1,0,1,0,0]) (z3i m q b6 b9 l29 x30 x31) (z3t again ⟨[3,4,6,9,29,30,31],[3,4],[]⟩ k)=(cond (decide (x31 < x30)) (cond (decide (0≤x31)&&decide (x31 < ic (List.length l29))) (cond (z3f m q&&(Bx.emp (bxI (List.getD l29 (Int.toNat x31) default))||z5q (bxI (List.getD l29 (Int.toNat x31) default)))) (cond (!z4e m q (bxI (List.getD l29 (Int.toNat x31) default))) (k .ret (z3i m q false b9 l29 x30 x31)) (again (z3i m q b6 b9 l29 x30 (IntKind.wrap IntKind.i64 (x31+1))))) none) none) (k (.exit 1) (z3i m q b6 b9 l29 x30 x31))):=by kernel_rfl
theorem zcm (N:Nat) (m:Md) (q:Qy) (b6 b9:Bool) (l29:List IV) (x30 x31:Int):(z06 1 (kSq (z10 N) (z0j z1h [1,1,1,0,1,0,1,0,1,1]) (z06 0 (kSq (z10 N) (z0j z1h [1,1,1,1]) (z30 (z10 N) none [(ResultVar.tmp 6)] [[.bool]]))))) (.exit 1) (z3i m q b6 b9 l29 x30 x31)=(some ((.bool b9),[])):=by kernel_rfl
theorem zjr (N:Nat) (m:Md) (q:Qy) (b6 b9:Bool) (l29:List IV) (x30 x31:Int):(z06 1 (kSq (z10 N) (z0j z1h [1,1,1,0,1,0,1,0,1,1]) (z06 0 (kSq (z10 N) (z0j z1h [1,1,1,1]) (z30 (z10 N) none [(ResultVar.tmp 6)] [[.bool]]))))) .ret (z3i m q b6 b9 l29 x30 x31)=(some ((.bool b6),[])):=by kernel_rfl
open Go Go.Proofs
theorem zrs:z2y PR B0 192 za6:=by
 refine z0i [] [] za6 [[.bool]] Tryz.func192 zyt trivial ?_;intro vs r hwf h;unfold za6 at h
 split at h
 ·rename_i s p a
  rw [R.get_ok] at h;refine ⟨0,(zu8 0 s p a).trans ?_⟩;rw [← h];unfold zd0;show _=some (V.bool (cond s (p==0&&a==0) (decide (0≤p)&&decide (p≤4))),[]);cases s with
  | true=>
   simp only [v2h,v1c]
   rfl
  | false=>
   simp only [v1q]
   by_cases hp:0≤p
   ·rw [v01 (show p≥0 from hp)]; rfl
   ·rw [v07 (show ¬ p≥0 from hp)]; rfl
 ·simp [R.get] at h
def yh9 (o:Option (Int × Int)):Int:=match o with
 | some st=>cond (!(st.1==0)||decide (st.2 > 200)) 0 st.2
 | none=>0
theorem zxg (N:Nat) (l:List IV) (K:Out→St→Res) (hl:l.length≤65536)
  (hx:∀ x2 x3 x4 x11 x12,K (.exit 0) ⟨[(2,(.int .i64 x2)),(3,(.int .i64 x3)),(4,(.int .i64 x4)),(10,(.list true z2x l)),(11,(.int .i64 x11)),(12,(.int .i64 x12))],[]⟩=cond (x3 != 0) (some ((.int .i64 0),[])) (cond (decide (x4 > 200)) (some ((.int .i64 0),[])) (some ((.int .i64 x4),[]))))
  (hr:∀ x2 x3 x4 x11 x12,K .ret ⟨[(2,(.int .i64 x2)),(3,(.int .i64 x3)),(4,(.int .i64 x4)),(10,(.list true z2x l)),(11,(.int .i64 x11)),(12,(.int .i64 x12))],[]⟩=some (.int .i64 x2,[])) :
  ∀ (d i n:Nat) (left most:Int),i+d=l.length→d < n→0≤left→left≤i+1 →
   lpE (z4m N) (z0j z68 [1,1,1,0,1,0,0]) ⟨[2,3,4,10,11,12],[],[]⟩ n ⟨[(2,(.int .i64 0)),(3,(.int .i64 left)),(4,(.int .i64 most)),(10,(.list true z2x l)),(11,(.int .i64 (ic l.length))),(12,(.int .i64 (i:Int)))],[]⟩ K=some (.int .i64 (yh9 (yee (l.drop i) (left,most))),[])
 | d,i,0,_,_,_,h,_,_=>absurd h (by omega)
 | 0,i,n+1,left,most,hd,_,_,_=>by
  rw [z05,zh5,zbh (by omega),z02,hx,v1e (by omega)]
  show _=some (V.int .i64 (cond (!(left==0)||decide (most > 200)) 0 most),[])
  have:(left != 0)=!(left==0):=rfl
  rw [this];cases left==0 <;> cases decide (most > 200) <;> rfl
 | d+1,i,n+1,left,most,hd,hn,h0,h1=>by
  have hi:i < l.length:=by omega
  rw [z05,zh5,z9k hi,z00,zep,v0t,z00,z82 (by omega),zah hi,v0i hi,yee]
  unfold zr8;have er:zd0 (stI (IV.toBool (IV.cell l[i] 0)) (IV.toInt (IV.cell l[i] 1)) (IV.toInt (IV.cell l[i] 2)))=zd0 l[i]:=rfl;have es:IV.toBool (IV.cell l[i] 0)=zcb l[i]:=rfl;rw [er,es];generalize l[i]=x;cases hz:(left==0) with
  | true=>rw [z00,hr]; rfl
  | false=>
   have hne:left≠0:=by simpa using hz
   rw [z02];cases zd0 x with
   | false=>rw [v0h,z00,hr]; rfl
   | true=>
    rw [v0c,z02,v3q,z02];cases zcb x with
    | true=>
     rw [z00,z00,show IntKind.wrap IntKind.i64 (left - 1)=left - 1 from z19 (by omega) (by omega)]
     exact zxg N l K hl hx hr d (i+1) n (left - 1) most (by omega) (by omega) (by omega) (by omega)
    | false=>
     rw [z02,z02,show IntKind.wrap IntKind.i64 (left+1)=left+1 from z19 (by omega) (by omega)]
     exact zxg N l K hl hx hr d (i+1) n (left+1) _ (by omega) (by omega) (by omega) (by omega)
theorem ztw:z2y PR B0 156 zbu:=by
 refine z0i [(192,za6)] [(5,⟨[2,3,4,10,11,12],[],[]⟩)] zbu [[.int .i64]] Tryz.func156 y2a ⟨zrs,trivial⟩ ?_;intro vs r hwf h;unfold zbu at h
 split at h
 ·rename_i l
  rw [R.get_ok] at h;refine ⟨l.length+1,(zzu (l.length+1) l).trans ?_⟩;rw [← h];unfold zmy
  by_cases hl:l.length≤65536
  ·rw [v07 (show ¬ ic l.length > 65536 by simp only [ic]; omega),z02,z02]
   have:=zxg (l.length+1) l _ hl (fun x2 x3 x4 x11 x12=>zo0 (l.length+1) x2 x3 x4 l x11 x12) (fun x2 x3 x4 x11 x12=>zo2 (l.length+1) x2 x3 x4 l x11 x12) l.length 0 (l.length+1) 1 1 (by omega) (by omega) (by omega) (by omega)
   rw [v11] at this;exact this
  ·rw [v01 (show ic l.length > 65536 by simp only [ic]; omega)]
   rfl
 ·simp [R.get] at h
theorem zsr:z2y PR B0 110 z9s:=by
 refine z0i [(156,zbu)] [] z9s [[.bool]] Tryz.func110 zyr ⟨ztw,trivial⟩ ?_;intro vs r hwf h;unfold z9s at h
 split at h
 ·rename_i l
  rw [R.get_ok] at h;exact ⟨0,(zvh 0 l).trans h⟩
 ·simp [R.get] at h
theorem yjm (b:Bx) (p:Pt) (t:Int):z11 (ycd 6) y19 [.tmp 6] [[.bool]] [b.V,p.V,.int .i64 t] =
 cond (!b.s0.has p.p0) (some (.bool false,[])) (cond (!b.s1.has p.p1) (some (.bool false,[])) (cond (!b.s2.has p.p2) (some (.bool false,[])) (cond (!b.s3.has p.p3) (some (.bool false,[])) (some (.bool (b.s4.has t),[]))))):=by kernel_rfl
theorem y6z:z2y PR B0 69 zh7:=by
 refine z0i [(114,zam)] [(2,⟨[2,3,6,9,10],[3],[]⟩)] zh7 [[.bool]] Tryz.func69 yd7 ⟨zoj,trivial⟩ ?_;intro vs r hwf h;unfold zh7 at h
 split at h
 ·rename_i b p t
  replace h:=z2r h;obtain ⟨b,rfl,h⟩:=h;replace h:=zd3 h;obtain ⟨p,rfl,h⟩:=h;rw [R.get_ok] at h;refine ⟨6,(yjm b p t).trans ?_⟩;rw [← h];unfold Bx.has;cases b.s0.has p.p0 <;> cases b.s1.has p.p1 <;> cases b.s2.has p.p2 <;> cases b.s3.has p.p3 <;> rfl
 ·simp [R.get] at h
open Go
theorem zjd {s:Sp} {n:Int}:s.has n=true↔s.lo≤n∧n≤s.hi:=by
 unfold Sp.has;rw [v02,v06,v06]
theorem yjx {s:Sp}:s.emp=false↔s.lo≤s.hi:=by
 unfold Sp.emp;rw [v19];omega
theorem y7v {lo hi n:Int}:(ya6 lo hi).has n=true↔lo≤n∧n≤hi:=by
 unfold ya6;cases hd:decide (lo > hi) with
 | true=>
  have:=v0f hd
  rw [z00,zjd];show (1:Int)≤n∧n≤0↔_;omega
 | false=>rw [z02,zjd]
theorem zyd {s:Sp} {a n:Int}:(s.cutL a).has n=true↔s.has n=true∧n≤a:=by
 unfold Sp.cutL;rw [y7v,zjd];omega
theorem zyl {s:Sp} {a n:Int} (ha : -9223372036854775808≤a) (hs:s.hi≤9223372036854775807):(s.cutH a).has n=true↔s.has n=true∧a < n:=by
 unfold Sp.cutH;cases hd:decide (a≥s.hi) with
 | true=>
  have:=v0f hd
  rw [z00,zjd,zjd];show (1:Int)≤n∧n≤0↔_;omega
 | false=>
  have:=v0s hd
  have e:zdj (a+1)=a+1:=z19 (by omega) (by omega)
  rw [z02,y7v,zjd,e];omega
def co (p:Pt) (t:Int):Nat→Int
 | 0=>p.p0
 | 1=>p.p1
 | 2=>p.p2
 | 3=>p.p3
 | _=>t
theorem zvu {b:Bx} {p:Pt} {t:Int}:b.has p t=true↔∀ i,i < 5→(b.g i).has (co p t i)=true:=by
 unfold Bx.has;simp only [v02];constructor
 ·rintro ⟨h0,h1,h2,h3,h4⟩ i hi
  match i,hi with
  | 0,_=>exact h0
  | 1,_=>exact h1
  | 2,_=>exact h2
  | 3,_=>exact h3
  | 4,_=>exact h4
  | i+5,h=>exact absurd h (by omega)
 ·intro h
  exact ⟨h 0 (by omega),h 1 (by omega),h 2 (by omega),h 3 (by omega),h 4 (by omega)⟩
theorem yck {b:Bx}:b.emp=false↔∀ i,i < 5→(b.g i).lo≤(b.g i).hi:=by
 unfold Bx.emp;simp only [v30,yjx];constructor
 ·rintro ⟨h0,h1,h2,h3,h4⟩ i hi
  match i,hi with
  | 0,_=>exact h0
  | 1,_=>exact h1
  | 2,_=>exact h2
  | 3,_=>exact h3
  | 4,_=>exact h4
  | i+5,h=>exact absurd h (by omega)
 ·intro h
  exact ⟨h 0 (by omega),h 1 (by omega),h 2 (by omega),h 3 (by omega),h 4 (by omega)⟩
theorem zp4 (b:Bx) (s:Sp):∀ {i j:Nat},i < 5→j < 5→(b.p s i).g j=if j=i then s else b.g j
 | 0,0,_,_=>rfl
 | 0,1,_,_=>rfl
 | 0,2,_,_=>rfl
 | 0,3,_,_=>rfl
 | 0,4,_,_=>rfl
 | 1,0,_,_=>rfl
 | 1,1,_,_=>rfl
 | 1,2,_,_=>rfl
 | 1,3,_,_=>rfl
 | 1,4,_,_=>rfl
 | 2,0,_,_=>rfl
 | 2,1,_,_=>rfl
 | 2,2,_,_=>rfl
 | 2,3,_,_=>rfl
 | 2,4,_,_=>rfl
 | 3,0,_,_=>rfl
 | 3,1,_,_=>rfl
 | 3,2,_,_=>rfl
 | 3,3,_,_=>rfl
 | 3,4,_,_=>rfl
 | 4,0,_,_=>rfl
 | 4,1,_,_=>rfl
 | 4,2,_,_=>rfl
 | 4,3,_,_=>rfl
 | 4,4,_,_=>rfl
 | i+5,_,h,_=>absurd h (by omega)
 | _,j+5,_,h=>absurd h (by omega)
def Bx.ok (b:Bx):Prop:=∀ i,i < 5→(b.g i).hi≤2147483647
theorem y82 (b:Bx) (h:b.emp=false):b.has b.low b.s4.hi=true:=by
 rw [yck] at h;rw [zvu];intro i hi;rw [zjd]
 have:=h i hi
 match i,hi with
 | 0,_=>exact ⟨v2x _,this⟩
 | 1,_=>exact ⟨v2x _,this⟩
 | 2,_=>exact ⟨v2x _,this⟩
 | 3,_=>exact ⟨v2x _,this⟩
 | 4,_=>exact ⟨this,v2x _⟩
 | i+5,h=>exact absurd h (by omega)
theorem ybr {b:Bx} {p:Pt} {t:Int} (h:b.has p t=true):b.emp=false:=by
 rw [zvu] at h;rw [yck];intro i hi
 have:=zjd.1 (h i hi)
 omega
theorem ydi {b:Bx} {i:Nat} (hi:i < 5) {a:Int} {p:Pt} {t:Int}:(b.cutL (i:Int) a).has p t=true↔b.has p t=true∧co p t i≤a:=by
 unfold Bx.cutL;rw [v0l,zvu,zvu];constructor
 ·intro h
  refine ⟨fun j hj=>?_,?_⟩
  ·have:=h j hj
   rw [zp4 b _ hi hj] at this
   by_cases e:j=i
   ·rw [v1f e,zyd] at this
    rw [e] at this ⊢
    exact this.1
   ·rw [v10 e] at this
    exact this
  ·have:=h i hi
   rw [zp4 b _ hi hi,v1f rfl,zyd] at this;exact this.2
 ·rintro ⟨h,ha⟩ j hj
  rw [zp4 b _ hi hj]
  by_cases e:j=i
  ·rw [v1f e,zyd,e]
   exact ⟨h i hi,ha⟩
  ·rw [v10 e]
   exact h j hj
theorem ydz {b:Bx} (hb:b.ok) {i:Nat} (hi:i < 5) {a:Int} (ha : -2147483648≤a) {p:Pt} {t:Int}:(b.cutH (i:Int) a).has p t=true↔b.has p t=true∧a < co p t i:=by
 have hs:=hb i hi;unfold Bx.cutH;rw [v0l,zvu,zvu];constructor
 ·intro h
  refine ⟨fun j hj=>?_,?_⟩
  ·have:=h j hj
   rw [zp4 b _ hi hj] at this
   by_cases e:j=i
   ·rw [v1f e,zyl (by omega) (by omega)] at this
    rw [e] at this ⊢
    exact this.1
   ·rw [v10 e] at this
    exact this
  ·have:=h i hi
   rw [zp4 b _ hi hi,v1f rfl,zyl (by omega) (by omega)] at this
   exact this.2
 ·rintro ⟨h,ha'⟩ j hj
  rw [zp4 b _ hi hj]
  by_cases e:j=i
  ·rw [v1f e,zyl (by omega) (by omega),e]
   exact ⟨h i hi,ha'⟩
  ·rw [v10 e]
   exact h j hj
theorem yde {lo hi:Int} (h:hi≤2147483647):(ya6 lo hi).hi≤2147483647:=by
 unfold ya6;cases decide (lo > hi) with
 | true=>rw [z00]; show (0:Int)≤_; omega
 | false=>exact h
theorem yln {b:Bx} (hb:b.ok) {s:Sp} (hs:s.hi≤2147483647) {i:Nat} (hi:i < 5):(b.p s i).ok:=by
 intro j hj;rw [zp4 b _ hi hj]
 split
 ·exact hs
 ·exact hb j hj
theorem yc4 {b:Bx} (hb:b.ok) {i:Nat} (hi:i < 5) (a:Int):(b.cutL (i:Int) a).ok:=by
 unfold Bx.cutL;rw [v0l];refine yln hb ?_ hi;unfold Sp.cutL;exact yde (by have:=hb i hi; omega)
theorem ydh {b:Bx} (hb:b.ok) {i:Nat} (hi:i < 5) (a:Int):(b.cutH (i:Int) a).ok:=by
 unfold Bx.cutH;rw [v0l];refine yln hb ?_ hi;unfold Sp.cutH;cases decide (a≥(b.g i).hi) with
 | true=>rw [z00]; show (0:Int)≤_; omega
 | false=>exact yde (hb i hi)
theorem y92 (b:Bx):bxI b.I=b:=rfl
theorem y6y (p:Pt) (t:Int):∀ {i:Nat},i < 4→co p t i=p.g i
 | 0,_=>rfl
 | 1,_=>rfl
 | 2,_=>rfl
 | 3,_=>rfl
 | i+4,h=>absurd h (by omega)
abbrev nd (l:List IV) (i:Nat):Nd:=z07 (l.getD i default).toInt
def y6p (l:List IV) (k j:Nat):Prop:=(nd l k).lf=false∧((nd l k).l=(j:Int)∨(nd l k).r=(j:Int))
structure TreeOK (l:List IV):Prop where
 len:1≤l.length∧l.length≤31
 node:∀ k,k < l.length→zau (l.getD k default).toInt=true
 fork:∀ k,k < l.length→(nd l k).lf=false→(0≤(nd l k).f∧(nd l k).f < 4)∧z1u (nd l k).a=true∧((k:Int) < (nd l k).l∧(nd l k).l < ic l.length)∧((k:Int) < (nd l k).r∧(nd l k).r < ic l.length)∧(nd l k).l≠(nd l k).r
 parent:∀ j,1≤j→j < l.length→∃ k,k < l.length∧y6p l k j
 alone:∀ j k k',1≤j→j < l.length→k < l.length→k' < l.length→y6p l k j→y6p l k' j→k=k'
theorem yjz {l:List Nat}:∀ {k a:Nat},l[k]?=some a→a≤l.sum:=by
 induction l with
 | nil=>intro k a h; simp at h
 | cons x r ih=>
  intro k a h;cases k with
  | zero=>simp at h; simp; omega
  | succ k=>have:=ih (k:=k) (a:=a) (by simpa using h); simp; omega
theorem yds {l:List Nat}:∀ {k k' a b:Nat},k < k'→l[k]?=some a→l[k']?=some b→a+b≤l.sum:=by
 induction l with
 | nil=>intro k k' a b _ h; simp at h
 | cons x r ih=>
  intro k k' a b hk h h';cases k with
  | zero=>
   cases k' with
   | zero=>omega
   | succ k'=>
    have:=yjz (l:=r) (k:=k') (a:=b) (by simpa using h')
    simp at h;simp;omega
  | succ k=>
   cases k' with
   | zero=>omega
   | succ k'=>
    have:=ih (k:=k) (k':=k') (a:=a) (b:=b) (by omega) (by simpa using h) (by simpa using h')
    simp;omega
theorem yhc {l:List Nat}:0 < l.sum→∃ (k a:Nat),l[k]?=some a∧0 < a:=by
 induction l with
 | nil=>intro h; simp at h
 | cons x r ih=>
  intro h
  by_cases hx:0 < x
  ·exact ⟨0,x,rfl,hx⟩
  ·obtain ⟨k,a,hk,ha⟩:=ih (by simp at h; omega)
   exact ⟨k+1,a,by simpa using hk,ha⟩
theorem znm {x:Nd} {j:Nat}:0 < zdt x j↔x.lf=false∧(x.l=(j:Int)∨x.r=(j:Int)):=by
 unfold zdt;cases x.lf with
 | true=>simp
 | false=>
  rw [z02]
  by_cases h1:x.l=(j:Int) <;> by_cases h2:x.r=(j:Int) <;> simp [h1,h2]
theorem zxe {l:List IV} {k:Nat} (h:k < l.length):l.getD k default=l[k]:=by simp [h]
theorem zs6 {l:List IV} (h:z94 l 4=true):TreeOK l:=by
 have key:∀ {dim n:Int} {l:List IV} {i k:Nat} (hk:k < l.length),zd5 dim n i l=true→zau (l[k]).toInt=true∧zy0 dim n (i+k) (z07 (l[k]).toInt)=true:=by
  intro dim n l
  induction l with
  | nil=>intro i k hk; exact absurd hk (Nat.not_lt_zero k)
  | cons w r ih=>
   intro i k hk h;rw [zd5] at h;simp only [v02] at h;cases k with
   | zero=>exact h.1
   | succ k=>
    have:=ih (k:=k) (by simpa using hk) h.2
    rw [show i+1+k=i+(k+1) by omega] at this
    exact this
 unfold z94 at h;simp only [v02] at h;obtain ⟨⟨h1,h31⟩,hn,ho⟩:=h;have hlen:=v03 h1;have once:∀ j,1≤j→j < l.length→z5j l j=1:=fun j hj hjl=>by
  unfold ycc at ho;rw [v3a] at ho
  have:=ho (j - 1) (List.mem_range.2 (by omega))
  rw [show j - 1+1=j by omega] at this
  simpa using this
 have at_:∀ k (hk:k < l.length) j,(l.map fun w=>zdt (z07 w.toInt) j)[k]?=some (zdt (nd l k) j):=fun k hk j=>by
  rw [v0x,v0e hk];unfold nd;rw [zxe hk]
  rfl
 refine ⟨⟨hlen,v03 h31⟩,fun k hk=>by rw [zxe hk]; exact (key hk hn).1,fun k hk hl=>?_,fun j hj hjl=>?_,fun j k k' hj hjl hk hk' hn1 hn2=>?_⟩
 ·have h2:=(key hk hn).2
  have h3:=(key hk hn).1;rw [v0n] at h2;unfold nd at hl ⊢
  rw [zxe hk] at hl ⊢
  unfold zy0 at h2;rw [hl,z02] at h2;simp only [v02,v17,v19,v1a] at h2;obtain ⟨q1,q2,q3,q4⟩:=h2;have hr:=(ztj h3).2;unfold zaq zlk at hr;rw [hl,z02] at hr;simp only [v02,v06] at hr;exact ⟨⟨hr.2.1,hr.2.2.1⟩,hr.2.2.2.1,⟨by omega,by simp only [ic] at q4 ⊢; omega⟩,⟨by omega,by simp only [ic] at q4 ⊢; omega⟩,q2⟩
 ·have h2:=once j hj hjl
  unfold z5j at h2;obtain ⟨k,a,hk,ha⟩:=yhc (l:=l.map fun w=>zdt (z07 w.toInt) j) (by omega)
  have hkl:k < l.length:=by
   have:=(List.getElem?_eq_some_iff.1 hk).1
   simpa using this
  rw [at_ k hkl j] at hk;simp only [v00] at hk;subst hk;exact ⟨k,hkl,znm.1 ha⟩
 ·have h2:=once j hj hjl
  unfold z5j at h2;have p1:0 < zdt (nd l k) j:=znm.2 hn1;have p2:0 < zdt (nd l k') j:=znm.2 hn2;rcases Nat.lt_trichotomy k k' with hlt | heq | hlt
  ·have:=yds hlt (at_ k hk j) (at_ k' hk' j)
   omega
  ·exact heq
  ·have:=yds hlt (at_ k' hk' j) (at_ k hk j)
   omega
def ycl (l:List IV) (p:Pt) (i:Nat):Int:=(zw4 l p 31 (i:Int)).2.v
theorem zy1 {l:List IV} (h:TreeOK l) (p:Pt) {i:Nat} (hi:i < l.length) (n:Nat):zw4 l p (n+1) (i:Int) =
  cond (nd l i).lf ((i:Int),nd l i) (cond (decide (p.g (nd l i).f.toNat≤(nd l i).a)) (zw4 l p n (nd l i).l) (zw4 l p n (nd l i).r)):=by
 rw [zw4,v07 (show ¬ (i:Int)≥ic l.length by simp only [ic]; omega),z02,v0l,h.node i hi,v0c,z02]
theorem zln {l:List IV} (h:TreeOK l) (p:Pt):∀ (n n' i:Nat),i < l.length→l.length - i≤n→l.length - i≤n'→zw4 l p n (i:Int)=zw4 l p n' (i:Int)
 | 0,_,i,hi,h1,_=>absurd h1 (by omega)
 | _+1,0,i,hi,_,h2=>absurd h2 (by omega)
 | n+1,n'+1,i,hi,h1,h2=>by
  rw [zy1 h p hi,zy1 h p hi];cases hl:(nd l i).lf with
  | true=>rfl
  | false=>
   obtain ⟨_,_,⟨a1,a2⟩,⟨b1,b2⟩,_⟩:=h.fork i hi hl;simp only [ic] at a2 b2;rw [z02,z02];cases decide (p.g (nd l i).f.toNat≤(nd l i).a) with
   | true=>
    have e:(nd l i).l=(((nd l i).l.toNat:Nat):Int):=by omega
    rw [z00,z00,e];exact zln h p n n' _ (by omega) (by omega) (by omega)
   | false=>
    have e:(nd l i).r=(((nd l i).r.toNat:Nat):Int):=by omega
    rw [z02,z02,e];exact zln h p n n' _ (by omega) (by omega) (by omega)
theorem y8j {l:List IV} (h:TreeOK l) (p:Pt) {i:Nat} (hi:i < l.length) (hl:(nd l i).lf=true):ycl l p i=(nd l i).v:=by
 unfold ycl;rw [zy1 h p hi,hl,z00]
theorem y7b {l:List IV} (h:TreeOK l) (p:Pt) {i:Nat} (hi:i < l.length) (hl:(nd l i).lf=false):ycl l p i=ycl l p (cond (decide (p.g (nd l i).f.toNat≤(nd l i).a)) (nd l i).l.toNat (nd l i).r.toNat):=by
 obtain ⟨_,_,⟨a1,a2⟩,⟨b1,b2⟩,_⟩:=h.fork i hi hl;have h31:=h.len.2;simp only [ic] at a2 b2;unfold ycl;rw [zy1 h p hi,hl,z02];cases decide (p.g (nd l i).f.toNat≤(nd l i).a) with
 | true=>
  rw [z00,z00];have e:(nd l i).l=(((nd l i).l.toNat:Nat):Int):=by omega
  rw [e,v0l];rw [zln h p 30 31 _ (by omega) (by omega) (by omega)]
 | false=>
  rw [z02,z02];have e:(nd l i).r=(((nd l i).r.toNat:Nat):Int):=by omega
  rw [e,v0l];rw [zln h p 30 31 _ (by omega) (by omega) (by omega)]
theorem yja (l:List IV) (p:Pt):zq6 l p=ycl l p 0:=rfl
abbrev zsi (own:List IV) (j:Nat):Bx:=bxI (own.getD j default)
def fr (l:List IV) (i j:Nat):Prop:=i≤j∧j < l.length∧(j=0∨∃ k,k < i∧y6p l k j)
structure PInv (l:List IV) (b:Bx) (i:Nat) (own out:List IV):Prop where
 len:own.length=l.length
 val:∀ j,fr l i j→∀ p t,(zsi own j).has p t=true→b.has p t=true∧ycl l p 0=ycl l p j
 ok:∀ j,fr l i j→(zsi own j).ok
 all:∀ p t,b.has p t=true→(∃ x∈out,(bxI x).has p t=true)∨∃ j,fr l i j∧(zsi own j).has p t=true
 out:∀ x∈out,(bxI x).emp=false∧(bxI x).ok∧∀ p t,(bxI x).has p t=true→b.has p t=true∧zq6 l p=pcV x
theorem yd4 {l:List IV} (h:TreeOK l) {i:Nat} (hi:i < l.length):fr l i i:=by
 refine ⟨v09 _,hi,?_⟩
 by_cases h0:i=0
 ·exact .inl h0
 ·obtain ⟨k,hk,hn⟩:=h.parent i (by omega) hi
  refine .inr ⟨k,?_,hn⟩;obtain ⟨_,_,a,b,_⟩:=h.fork k hk hn.1;rcases hn.2 with e | e <;> omega
theorem ycb {own:List IV} {a j:Nat} {x:IV} (ha:a < own.length):(own.set a x).getD j default=if j=a then x else own.getD j default:=by
 rw [v0m,List.getElem?_set]
 by_cases e:a=j
 ·subst e
  rw [v1f rfl,v1f ha,v1f rfl]
  rfl
 ·rw [v10 e,v10 (fun h=>e h.symm),← v0m]
theorem ye6 {l:List IV} (h:TreeOK l) {b:Bx} {i:Nat} (hi:i < l.length) {own out:List IV} (hp:PInv l b i own out) :
  PInv l b (i+1) (zfs (nd l i) i own) (cond ((nd l i).lf&&!(zsi own i).emp) (out++[pcI (zsi own i) (nd l i).v]) out):=by
 have hfi:=yd4 h hi;cases hl:(nd l i).lf with
 | true=>
  have e1:zfs (nd l i) i own=own:=by unfold zfs; rw [hl,z00]
  have hfr:∀ j,fr l (i+1) j→fr l i j:=fun j hj=>by
   refine ⟨by have:=hj.1; omega,hj.2.1,hj.2.2.imp_right ?_⟩
   rintro ⟨k,hk,hn⟩
   refine ⟨k,?_,hn⟩;rcases Nat.lt_succ_iff_lt_or_eq.1 hk with h1 | h1
   ·exact h1
   ·subst h1
    rw [hn.1] at hl;cases hl
  have hrf:∀ j,fr l i j→j=i∨fr l (i+1) j:=fun j hj=>by
   by_cases e:j=i
   ·exact .inl e
   ·refine .inr ⟨by have:=hj.1; omega,hj.2.1,hj.2.2.imp_right ?_⟩
    rintro ⟨k,hk,hn⟩
    exact ⟨k,by omega,hn⟩
  rw [e1,v0r];have hv:=fun p=>y8j h p hi hl
  cases he:(zsi own i).emp with
  | true=>
   rw [v0c,z02];refine ⟨hp.len,fun j hj=>hp.val j (hfr j hj),fun j hj=>hp.ok j (hfr j hj),fun p t hb=>?_,hp.out⟩
   rcases hp.all p t hb with h1 | ⟨j,hj,hh⟩
   ·exact .inl h1
   ·rcases hrf j hj with rfl | hj'
    ·rw [ybr hh] at he
     cases he
    ·exact .inr ⟨j,hj',hh⟩
  | false=>
   rw [v0h,z00];refine ⟨hp.len,fun j hj=>hp.val j (hfr j hj),fun j hj=>hp.ok j (hfr j hj),fun p t hb=>?_,fun x hx=>?_⟩
   ·rcases hp.all p t hb with ⟨x,hx,hh⟩ | ⟨j,hj,hh⟩
    ·exact .inl ⟨x,v0k.2 (.inl hx),hh⟩
    ·rcases hrf j hj with rfl | hj'
     ·exact .inl ⟨_,v0k.2 (.inr (v28.2 rfl)),hh⟩
     ·exact .inr ⟨j,hj',hh⟩
   ·rcases v0k.1 hx with hx | hx
    ·exact hp.out x hx
    ·obtain rfl:=v28.1 hx
     refine ⟨he,hp.ok i hfi,fun p t hh=>?_⟩
     obtain ⟨q1,q2⟩:=hp.val i hfi p t hh;refine ⟨q1,?_⟩;rw [yja,q2,hv p]
     rfl
 | false=>
  obtain ⟨⟨f0,f4⟩,ha,⟨a1,a2⟩,⟨b1,b2⟩,hne⟩:=h.fork i hi hl;simp only [ic] at a2 b2;have ef:(nd l i).f=(((nd l i).f.toNat:Nat):Int):=by omega
  have hf5:(nd l i).f.toNat < 5:=by omega
  have e1:zfs (nd l i) i own=(own.set (nd l i).l.toNat ((zsi own i).cutL (nd l i).f (nd l i).a).I).set (nd l i).r.toNat ((zsi own i).cutH (nd l i).f (nd l i).a).I:=by unfold zfs; rw [hl,z02]
  have hlen:=hp.len;have at_:∀ j,(zfs (nd l i) i own).getD j default=if j=(nd l i).r.toNat then ((zsi own i).cutH (nd l i).f (nd l i).a).I else if j=(nd l i).l.toNat then ((zsi own i).cutL (nd l i).f (nd l i).a).I else own.getD j default:=fun j=>by
   rw [e1,ycb (by rw [v2g]; omega)]
   congr 1
   rw [ycb (by omega)]
  have fits : -2147483648≤(nd l i).a∧(nd l i).a≤2147483647:=by
   unfold z1u at ha
   simpa only [v02,v06] using ha
  have hok:=hp.ok i hfi;have cl:∀ p t,((zsi own i).cutL (nd l i).f (nd l i).a).has p t=true↔(zsi own i).has p t=true∧p.g (nd l i).f.toNat≤(nd l i).a:=fun p t=>by
   have:=ydi (b:=zsi own i) hf5 (a:=(nd l i).a) (p:=p) (t:=t)
   rw [← ef,y6y p t (by omega)] at this
   exact this
  have ch:∀ p t,((zsi own i).cutH (nd l i).f (nd l i).a).has p t=true↔(zsi own i).has p t=true∧(nd l i).a < p.g (nd l i).f.toNat:=fun p t=>by
   have:=ydz hok hf5 (a:=(nd l i).a) fits.1 (p:=p) (t:=t)
   rw [← ef,y6y p t (by omega)] at this
   exact this
  have nl:y6p l i (nd l i).l.toNat:=⟨hl,.inl (by omega)⟩
  have nr:y6p l i (nd l i).r.toNat:=⟨hl,.inr (by omega)⟩
  have hfr:∀ j,fr l (i+1) j→j≠(nd l i).l.toNat→j≠(nd l i).r.toNat→fr l i j:=fun j hj h1 h2=>by
   refine ⟨by have:=hj.1; omega,hj.2.1,hj.2.2.imp_right ?_⟩
   rintro ⟨k,hk,hn⟩
   refine ⟨k,?_,hn⟩;rcases Nat.lt_succ_iff_lt_or_eq.1 hk with h3 | h3
   ·exact h3
   ·subst h3
    rcases hn.2 with e | e
    ·exact absurd (by omega) h1
    ·exact absurd (by omega) h2
  have hnot:∀ j,y6p l i j→¬ fr l i j:=fun j hn hj=>by
   obtain ⟨h1,h2,h3⟩:=hj;have hj0:1≤j:=by rcases hn.2 with e | e <;> omega
   rcases h3 with h3 | ⟨k,hk,hk2⟩
   ·omega
   ·have:=h.alone j k i hj0 h2 (by omega) hi hk2 hn
    omega
  have fl:fr l (i+1) (nd l i).l.toNat:=⟨by omega,by omega,.inr ⟨i,by omega,nl⟩⟩
  have frr:fr l (i+1) (nd l i).r.toNat:=⟨by omega,by omega,.inr ⟨i,by omega,nr⟩⟩
  have hup:∀ j,fr l i j→j≠i→fr l (i+1) j:=fun j hj e=>by
   refine ⟨by have:=hj.1; omega,hj.2.1,hj.2.2.imp_right ?_⟩
   rintro ⟨k,hk,hn⟩
   exact ⟨k,by omega,hn⟩
  have hvf:=fun p=>y7b h p hi hl
  rw [v0v,z02];refine ⟨by rw [e1,v2g,v2g]; exact hp.len,fun j hj p t hh=>?_,fun j hj=>?_,fun p t hb=>?_,hp.out⟩
  ·unfold zsi at hh
   rw [at_] at hh
   by_cases hr:j=(nd l i).r.toNat
   ·rw [v1f hr,y92,ch] at hh
    obtain ⟨q1,q2⟩:=hp.val i hfi p t hh.1;refine ⟨q1,?_⟩;rw [q2,hvf p,v07 (by omega),z02,hr]
   ·rw [v10 hr] at hh
    by_cases hlj:j=(nd l i).l.toNat
    ·rw [v1f hlj,y92,cl] at hh
     obtain ⟨q1,q2⟩:=hp.val i hfi p t hh.1;refine ⟨q1,?_⟩;rw [q2,hvf p,v01 hh.2,z00,hlj]
    ·rw [v10 hlj] at hh
     exact hp.val j (hfr j hj hlj hr) p t hh
  ·unfold zsi
   rw [at_]
   by_cases hr:j=(nd l i).r.toNat
   ·rw [v1f hr,y92,ef]
    exact ydh hok hf5 _
   ·rw [v10 hr]
    by_cases hlj:j=(nd l i).l.toNat
    ·rw [v1f hlj,y92,ef]
     exact yc4 hok hf5 _
    ·rw [v10 hlj]
     exact hp.ok j (hfr j hj hlj hr)
  ·rcases hp.all p t hb with h1 | ⟨j,hj,hh⟩
   ·exact .inl h1
   ·refine .inr ?_
    by_cases e:j=i
    ·subst e
     by_cases hd:p.g (nd l j).f.toNat≤(nd l j).a
     ·refine ⟨_,fl,?_⟩
      unfold zsi;rw [at_,v10 (by omega),v1f rfl,y92,cl]
      exact ⟨hh,hd⟩
     ·refine ⟨_,frr,?_⟩
      unfold zsi;rw [at_,v1f rfl,y92,ch];exact ⟨hh,by omega⟩
    ·refine ⟨j,hup j hj e,?_⟩
     unfold zsi;rw [at_,v10 (fun (er:j=(nd l i).r.toNat)=>hnot j (er ▸ nr) hj),v10 (fun (er:j=(nd l i).l.toNat)=>hnot j (er ▸ nl) hj)]
     exact hh
theorem y8z {l:List IV} (h:TreeOK l) {b:Bx}:∀ (m i:Nat) (own out:List IV),i+m=l.length→PInv l b i own out→∃ own',PInv l b l.length own' (zmr (l.drop i) i own out)
 | 0,i,own,out,hd,hp=>by
  have hi:i=l.length:=by omega
  subst hi;rw [v26,zmr];exact ⟨own,hp⟩
 | m+1,i,own,out,hd,hp=>by
  have hi:i < l.length:=by omega
  rw [v0i hi,zmr];have hs:=ye6 h hi hp;have e:nd l i=z07 (l[i]).toInt:=by unfold nd; rw [zxe hi]
  rw [e] at hs;exact y8z h m (i+1) _ _ (by omega) hs
theorem y9h {l:List IV} (ht:z94 l 4=true) {b:Bx} (hb:b.emp=false) (hok:b.ok) :
  (∀ x∈z4h l b,(bxI x).emp=false∧(bxI x).ok∧∀ p t,(bxI x).has p t=true→b.has p t=true∧zq6 l p=pcV x) ∧
   ∀ p t,b.has p t=true→∃ x∈z4h l b,(bxI x).has p t=true:=by
 have h:=zs6 ht;have h1:=h.len.1;have hz:((List.replicate l.length bx0.I).set 0 b.I).getD 0 default=b.I:=by rw [ycb (by simp; omega),v1f rfl]
 have f0:∀ j,fr l 0 j→j=0:=fun j hj=>by
  rcases hj.2.2 with e | ⟨k,hk,_⟩
  ·exact e
  ·omega
 have h0:PInv l b 0 ((List.replicate l.length bx0.I).set 0 b.I) []:=by
  refine ⟨by simp,fun j hj p t hh=>?_,fun j hj=>?_,fun p t hh=>.inr ⟨0,yd4 h (by omega),?_⟩,fun x hx=>by cases hx⟩
  ·obtain rfl:=f0 j hj
   unfold zsi at hh;rw [hz,y92] at hh;exact ⟨hh,rfl⟩
  ·obtain rfl:=f0 j hj
   unfold zsi;rw [hz,y92];exact hok
  ·unfold zsi
   rw [hz,y92];exact hh
 obtain ⟨own',hp⟩:=y8z h l.length 0 _ _ (by omega) h0
 have e:z4h l b=zmr (l.drop 0) 0 ((List.replicate l.length bx0.I).set 0 b.I) []:=by unfold z4h; rw [ht,hb]; rfl
 rw [e];refine ⟨hp.out,fun p t hh=>?_⟩
 rcases hp.all p t hh with h1 | ⟨j,hj,_⟩
 ·exact h1
 ·have:=hj.1
  have:=hj.2.1
  omega
theorem ydl:∀ {l:List IV} {a:Int},yb1 l a≤a∧∀ x∈l,yb1 l a≤pcV x
 | [],a=>⟨v2x _,fun x hx=>by cases hx⟩
 | y :: r,a=>by
  rw [yb1];obtain ⟨h1,h2⟩:=ydl (l:=r) (a:=min a (pcV y));refine ⟨by omega,fun x hx=>?_⟩
  rcases v15.1 hx with rfl | hx
  ·omega
  ·exact h2 x hx
theorem ydu:∀ {l:List IV} {a:Int},a≤yb2 l a∧∀ x∈l,pcV x≤yb2 l a
 | [],a=>⟨v2x _,fun x hx=>by cases hx⟩
 | y :: r,a=>by
  rw [yb2];obtain ⟨h1,h2⟩:=ydu (l:=r) (a:=max a (pcV y));refine ⟨by omega,fun x hx=>?_⟩
  rcases v15.1 hx with rfl | hx
  ·omega
  ·exact h2 x hx
theorem ybh:∀ {l:List IV} {a:Int},yb1 l a=a∨∃ x∈l,yb1 l a=pcV x
 | [],a=>.inl rfl
 | y :: r,a=>by
  rw [yb1];rcases ybh (l:=r) (a:=min a (pcV y)) with h | ⟨x,hx,h⟩
  ·rw [h]
   by_cases hd:a≤pcV y
   ·exact .inl (by omega)
   ·exact .inr ⟨y,v0a ..,by omega⟩
  ·exact .inr ⟨x,v0b _ hx,h⟩
theorem ybs:∀ {l:List IV} {a:Int},yb2 l a=a∨∃ x∈l,yb2 l a=pcV x
 | [],a=>.inl rfl
 | y :: r,a=>by
  rw [yb2];rcases ybs (l:=r) (a:=max a (pcV y)) with h | ⟨x,hx,h⟩
  ·rw [h]
   by_cases hd:pcV y≤a
   ·exact .inl (by omega)
   ·exact .inr ⟨y,v0a ..,by omega⟩
  ·exact .inr ⟨x,v0b _ hx,h⟩
theorem yj8 {ps:List IV} (hp:ps≠[]):(∀ x∈ps,yk9 ps≤pcV x∧pcV x≤yjf ps)∧(∃ x∈ps,pcV x=yk9 ps)∧∃ x∈ps,pcV x=yjf ps:=by
 unfold yk9 yjf;cases ps with
 | nil=>exact absurd rfl hp
 | cons y r=>
  have e:(y :: r).getD 0 default=y:=rfl;rw [e];refine ⟨fun x hx=>⟨ydl.2 x hx,ydu.2 x hx⟩,?_,?_⟩
  ·rcases ybh (l:=y :: r) (a:=pcV y) with h | ⟨x,hx,h⟩
   ·exact ⟨y,v0a ..,h.symm⟩
   ·exact ⟨x,hx,h.symm⟩
  ·rcases ybs (l:=y :: r) (a:=pcV y) with h | ⟨x,hx,h⟩
   ·exact ⟨y,v0a ..,h.symm⟩
   ·exact ⟨x,hx,h.symm⟩
theorem yia {l:List IV} (ht:z94 l 4=true) {b:Bx} (hb:b.emp=false) (hok:b.ok) :
  (∀ p t,b.has p t=true→tLo l b≤zq6 l p∧zq6 l p≤tHi l b)∧(∃ p t,b.has p t=true∧zq6 l p=tLo l b)∧∃ p t,b.has p t=true∧zq6 l p=tHi l b:=by
 obtain ⟨h1,h2⟩:=y9h ht hb hok;have hne:z4h l b≠[]:=fun e=>by
  obtain ⟨x,hx,_⟩:=h2 b.low b.s4.hi (y82 b hb);rw [e] at hx;cases hx
 obtain ⟨q1,⟨x,hx,q2⟩,⟨y,hy,q3⟩⟩:=yj8 hne;have hT:tOK l b=true:=by
  unfold tOK;cases he:z4h l b with
  | nil=>exact absurd he hne
  | cons _ _=>rfl
 unfold tLo tHi;rw [hT,z00,z00];refine ⟨fun p t hh=>?_,⟨(bxI x).low,(bxI x).s4.hi,?_⟩,⟨(bxI y).low,(bxI y).s4.hi,?_⟩⟩
 ·obtain ⟨z,hz,hzh⟩:=h2 p t hh
  rw [((h1 z hz).2.2 p t hzh).2];exact q1 z hz
 ·obtain ⟨r1,r2⟩:=(h1 x hx).2.2 _ _ (y82 _ (h1 x hx).1)
  exact ⟨r1,r2.trans q2⟩
 ·obtain ⟨r1,r2⟩:=(h1 y hy).2.2 _ _ (y82 _ (h1 y hy).1)
  exact ⟨r1,r2.trans q3⟩
open Go
theorem ye7 {m:Md} (hm:z2b m=true) {t:IV} (ht:t∈m.ts):z94 (zdz t) 4=true:=by
 have h:=z28 hm;exact y9s (zop (v3a.1 h.2.2.2.2 t ht)).2 h.1.2
theorem ydv {m:Md} {k:Int} {b:Bx} (h:sOK m k b=true):z2b m=true∧zc3 m k=true∧b.emp=false:=by
 unfold sOK at h;simp only [v02,v17] at h;exact h
theorem zrr {m:Md} {c lo:Int} {b:Bx}:∀ (d:Nat) (i a:Int) (z:Bool),(0 < zue m c lo b d i a z↔(z=true∨∃ j:Nat,j < d∧i+j≠c)∧(z=true→0 < a)∧∀ j:Nat,j < d→i+j≠c→sHi m (i+j) b < lo)∨(z=false∧∀ j:Nat,j < d→i+j=c)
 | 0,i,a,z=>by
  cases z with
  | false=>exact .inr ⟨rfl,fun j hj=>absurd hj (Nat.not_lt_zero j)⟩
  | true=>
   refine .inl ?_;rw [zue];exact ⟨fun h=>⟨.inl rfl,fun _=>h,fun j hj=>absurd hj (Nat.not_lt_zero j)⟩,fun h=>h.2.1 rfl⟩
 | d+1,i,a,z=>by
  rw [zue];have sh:∀ j:Nat,i+1+(j:Int)=i+((j+1:Nat):Int):=fun j=>by omega
  cases hc:(i==c) with
  | true=>
   have hc:=v1g.1 hc;rw [z00];rcases zrr (m:=m) (c:=c) (lo:=lo) (b:=b) d (i+1) a z with h | ⟨h1,h2⟩
   ·refine .inl (h.trans ?_)
    constructor
    ·rintro ⟨q1,q2,q3⟩
     refine ⟨q1.imp_right ?_,q2,fun j hj hne=>?_⟩
     ·rintro ⟨j,hj,hne⟩; exact ⟨j+1,by omega,by rw [← sh j]; exact hne⟩
     ·cases j with
      | zero=>exact absurd (by simpa using hc) hne
      | succ j=>rw [← sh j] at hne ⊢; exact q3 j (by omega) hne
    ·rintro ⟨q1,q2,q3⟩
     refine ⟨q1.imp_right ?_,q2,fun j hj hne=>?_⟩
     ·rintro ⟨j,hj,hne⟩
      cases j with
      | zero=>exact absurd (by simpa using hc) hne
      | succ j=>exact ⟨j,by omega,by rw [sh j]; exact hne⟩
     ·rw [sh j] at hne ⊢; exact q3 (j+1) (by omega) hne
   ·refine .inr ⟨h1,fun j hj=>?_⟩
    cases j with
    | zero=>simpa using hc
    | succ j=>rw [← sh j]; exact h2 j (by omega)
  | false=>
   have hc:i≠c:=fun e=>by rw [e,beq_self_eq_true] at hc; cases hc
   rw [z02];refine .inl ?_;have key:∀ (a':Int),(0 < a'↔(z=true→0 < a)∧sHi m i b < lo)→(0 < zue m c lo b d (i+1) a' true↔(z=true∨∃ j:Nat,j < d+1∧i+(j:Int)≠c)∧(z=true→0 < a)∧∀ j:Nat,j < d+1→i+(j:Int)≠c→sHi m (i+j) b < lo):=fun a' ha'=>by
    rcases zrr (m:=m) (c:=c) (lo:=lo) (b:=b) d (i+1) a' true with h | ⟨h1,_⟩
    ·rw [h]
     constructor
     ·rintro ⟨_,q2,q3⟩
      obtain ⟨r1,r2⟩:=ha'.1 (q2 rfl);refine ⟨.inr ⟨0,by omega,by simpa using hc⟩,r1,fun j hj hne=>?_⟩
      cases j with
      | zero=>simpa using r2
      | succ j=>rw [← sh j] at hne ⊢; exact q3 j (by omega) hne
     ·rintro ⟨_,q2,q3⟩
      have r2:=q3 0 (by omega) (by simpa using hc)
      refine ⟨.inl rfl,fun _=>ha'.2 ⟨q2,by simpa using r2⟩,fun j hj hne=>?_⟩
      rw [sh j] at hne ⊢
      exact q3 (j+1) (by omega) hne
    ·cases h1
   cases z with
   | false=>
    rw [v0h,v42,z00];exact key _ ⟨fun h=>⟨fun h=>(by cases h),by omega⟩,fun h=>by have:=h.2; omega⟩
   | true=>
    rw [v0c,v2i];cases hd:decide (lo - sHi m i b < a) with
    | true=>
     have hd:=v0f hd;rw [z00];exact key _ ⟨fun h=>⟨fun _=>by omega,by omega⟩,fun h=>by have:=h.2; omega⟩
    | false=>
     have hd:=v0s hd;rw [z02];exact key _ ⟨fun h=>⟨fun _=>h,by omega⟩,fun h=>h.1 rfl⟩
theorem yga {m:Md} {c:Int} {b:Bx} (h:yc8 m c b=true):0 < yhq m c b↔∀ j:Nat,(j:Int) < m.c→(j:Int)≠c→sHi m (j:Int) b < sLo m c b:=by
 have h0:=h;unfold yc8 at h0;rw [v02,v06] at h0;obtain ⟨hs,h2⟩:=h0;have hc:=y7l (ydv hs).2.1;unfold yhq;rw [h,z00];rcases zrr (m:=m) (c:=c) (lo:=sLo m c b) (b:=b) m.c.toNat 0 0 false with h1 | ⟨_,h1⟩
 ·rw [h1]
  simp only [Int.zero_add];constructor
  ·rintro ⟨_,_,q⟩ j hj hne
   exact q j (by omega) hne
  ·intro q
   refine ⟨.inr ?_,fun h=>(by cases h),fun j hj hne=>q j (by omega) hne⟩
   by_cases e:c=0
   ·exact ⟨1,by omega,by omega⟩
   ·exact ⟨0,by omega,by omega⟩
 ·have q0:=h1 0 (by omega)
  have q1:=h1 1 (by omega)
  omega
theorem yf9 {m:Md} {k:Int} (h0:0≤k) (h1:k < m.c):zc3 m k=true:=by
 unfold zc3;rw [v01 h0,v01 h1]
 rfl
theorem yc7 {m:Md} {k:Int} {b:Bx} (hm:z2b m=true) (hk:zc3 m k=true) (hb:b.emp=false):sOK m k b=true:=by
 unfold sOK;rw [hm,hk,hb]
 rfl
theorem y30 {m:Md} {q:Qy} (hm:z2b m=true) (hk:q.k=3) (hf:0≤q.ft∧q.ft < m.d):z5m q=true:=by
 have:=(z28 hm).1
 unfold z5m;rw [hk,v01 (show q.ft≥0 by omega),v01 (show q.ft < 4 by omega)]
 rfl
open Go
abbrev kFt:List Kd:=[.int .i64,.list false [.int .i64],.list false [.int .i64],.list false [.int .i64],.list false [.int .i64]]
structure Ft where
 d:Int
 c:Int
 bias:List IV
 ts:List IV
def Ft.cs (f:Ft):List FM.V:=[.int .i64 f.d,.int .i64 f.c,.list false [.int .i64] f.bias,.list true kFt f.ts]
def Ft.V (f:Ft):FM.V:=.agg f.cs
def Ft.M (f:Ft):Md:=yj3 f.d f.c f.bias f.ts
open Go
def Bx.good (b:Bx):Prop:=∀ i,i < 5 → -2147483648≤(b.g i).lo∧(b.g i).lo≤(b.g i).hi∧(b.g i).hi≤2147483647
theorem Bx.good.emp {b:Bx} (h:b.good):b.emp=false:=yck.2 fun i hi=>(h i hi).2.1
theorem Bx.good.ok {b:Bx} (h:b.good):b.ok:=fun i hi=>(h i hi).2.2
def Sp.good (s:Sp):Prop := -2147483648≤s.lo∧s.lo≤s.hi∧s.hi≤2147483647
theorem zp0 {b:Bx} (hb:b.good) {s:Sp} (hs:s.good) {i:Nat} (hi:i < 5):(b.p s i).good:=by
 intro j hj;rw [zp4 b s hi hj]
 by_cases h:j=i
 ·rw [v1f h]; exact hs
 ·rw [v10 h]; exact hb j hj
theorem y1q {lo hi:Int} (h0 : -2147483648≤lo) (h1:lo≤hi) (h2:hi≤2147483647):(ya6 lo hi).good:=by
 unfold ya6;rw [v07 (by omega),z02]
 exact ⟨h0,h1,h2⟩
theorem yd1 {b:Bx} (hb:b.good) {i:Nat} (hi:i < 5) {a:Int} (h1:(b.g i).lo≤a) (h2:a < (b.g i).hi):(b.cutL (i:Int) a).good:=by
 unfold Bx.cutL;rw [v0l];have h:=hb i hi;refine zp0 hb (y1q h.1 ?_ ?_) hi <;> omega
theorem ycw {b:Bx} (hb:b.good) {i:Nat} (hi:i < 5) {a:Int} (h1:(b.g i).lo≤a) (h2:a < (b.g i).hi):(b.cutH (i:Int) a).good:=by
 unfold Bx.cutH;rw [v0l];have h:=hb i hi;have e:zdj (a+1)=a+1:=z19 (by omega) (by omega)
 refine zp0 hb ?_ hi;unfold Sp.cutH;rw [v07 (by omega),z02,e]
 exact y1q (by omega) (by omega) h.2.2
theorem zhb {d i:Int} {s:Sp} (h:y85 d i s=true):s.good:=by
 unfold y85 at h;simp only [v02,v17,z1u,Sp.emp,v06,v19] at h;obtain ⟨_,h1,h2,h3⟩:=h;exact ⟨h2.1,by omega,h3.2⟩
theorem zi7 {m:Md} {q:Qy} (h:z3f m q=true):z2b m=true∧(0≤q.c∧q.c < m.c)∧(0≤q.bu∧q.bu≤65536)∧y08 q.bx m.d=true∧y1w m q=true:=by
 unfold z3f at h;simp only [v02,v06] at h;exact ⟨h.1,⟨h.2.1,h.2.2.1⟩,⟨h.2.2.2.1,h.2.2.2.2.1⟩,h.2.2.2.2.2.1,h.2.2.2.2.2.2⟩
theorem yfo {b:Bx} {d:Int} (h:y08 b d=true):b.good:=by
 unfold y08 at h;simp only [v02] at h;intro i hi
 match i,hi with
 | 0,_=>exact zhb h.1
 | 1,_=>exact zhb h.2.1
 | 2,_=>exact zhb h.2.2.1
 | 3,_=>exact zhb h.2.2.2.1
 | 4,_=>exact zhb h.2.2.2.2
 | n+5,hi=>omega
theorem y96 {m:Md} {q:Qy} (h:z3f m q=true):(z9x q).good:=by
 have hb:=yfo (zi7 h).2.2.2.1;unfold z9x;refine zp0 hb ?_ (by omega)
 cases hp:z5m q with
 | false=>rw [z02]; exact ⟨by decide,by decide,by decide⟩
 | true=>
  rw [z00];unfold z5m at hp;simp only [v02,v06] at hp;exact hb q.ft.toNat (by omega)
theorem y66 {l:List IV} {x:IV} (h:x∈zi1 l):x∈l:=v2p h
open Go
abbrev ykb:List Kd:=[.int .i64,.int .i64,.int .i64,.int .i64,.int .i64,.int .i64,.int .i64,.int .i64,.int .i64,.int .i64,.int .i64]
def ye0 (a:Int) (b:Bx):IV:=.agg [.int a,.int b.s0.lo,.int b.s0.hi,.int b.s1.lo,.int b.s1.hi,.int b.s2.lo,.int b.s2.hi,.int b.s3.lo,.int b.s3.hi,.int b.s4.lo,.int b.s4.hi]
abbrev zmd (x:IV):Int:=cI x 0
def zui (x:IV):Bx:=⟨⟨cI x 1,cI x 2⟩,⟨cI x 3,cI x 4⟩,⟨cI x 5,cI x 6⟩,⟨cI x 7,cI x 8⟩,⟨cI x 9,cI x 10⟩⟩
theorem y57 (a:Int) (b:Bx):zmd (ye0 a b)=a:=rfl
theorem y09 (a:Int) (b:Bx):zui (ye0 a b)=b:=rfl
structure En where
 todo:List IV
 lo:Int
 hi:Int
 any:Bool
def z3p (l:List IV):IV:=l.getD (l.length - 1) default
def za4 (l:List IV) (e:En):Nd:=z07 (l.getD (zmd (z3p e.todo)).toNat default).toInt
def y36 (l:List IV) (e:En):En:=
 cond (!(zau (l.getD (zmd (z3p e.todo)).toNat default).toInt)||(zui (z3p e.todo)).emp) ⟨zi1 e.todo,e.lo,e.hi,e.any⟩
  (cond (!(za4 l e).lf)
   ⟨zi1 e.todo++[ye0 (za4 l e).l ((zui (z3p e.todo)).cutL (za4 l e).f (za4 l e).a),ye0 (za4 l e).r ((zui (z3p e.todo)).cutH (za4 l e).f (za4 l e).a)],e.lo,e.hi,e.any⟩
   ⟨zi1 e.todo,min (cond e.any e.lo (za4 l e).v) (za4 l e).v,max (cond e.any e.hi (za4 l e).v) (za4 l e).v,true⟩)
def en0 (b:Bx):En:=⟨[ye0 0 b],0,0,false⟩
structure EnI (l:List IV) (b:Bx) (e:En):Prop where
 at_:∀ (j:Nat) (x:IV),e.todo[j]?=some x→(j:Int)≤zmd x∧zmd x < ic l.length
 ok:∀ x∈e.todo,(zui x).ok
 val:∀ x∈e.todo,∀ p t,(zui x).has p t=true→b.has p t=true∧zq6 l p=ycl l p (zmd x).toNat
 all:∀ p t,b.has p t=true→(∃ x∈e.todo,(zui x).has p t=true)∨(e.any=true∧e.lo≤zq6 l p∧zq6 l p≤e.hi)
 lo:e.any=true→∃ p t,b.has p t=true∧zq6 l p=e.lo
 hi:e.any=true→∃ p t,b.has p t=true∧zq6 l p=e.hi
theorem y6m {l:List IV} {j:Nat} {x:IV} (h:(zi1 l)[j]?=some x):l[j]?=some x:=by
 unfold zi1 at h;rw [v13] at h
 split at h
 ·exact h
 ·cases h
theorem znq {l:List IV} {x:IV} (hl:0 < l.length) (h:x∈l):x∈zi1 l∨x=z3p l:=by
 obtain ⟨j,hj⟩:=v2y h;have hjl:=(List.getElem?_eq_some_iff.1 hj).1
 by_cases hc:j < l.length - 1
 ·refine .inl (v1l (i:=j) ?_)
  unfold zi1;rw [v13,v1f hc];exact hj
 ·have:j=l.length - 1:=by omega
  subst this;refine .inr ?_;unfold z3p;rw [v0m,hj]
  rfl
theorem zr4 {l:List IV} (hl:0 < l.length):z3p l∈l∧l[l.length - 1]?=some (z3p l):=by
 unfold z3p;rw [v0m,v0e (by omega)]
 exact ⟨v2j _,rfl⟩
theorem zjh (l:List IV):(zi1 l).length=l.length - 1:=by
 unfold zi1;rw [v0j]; omega
theorem yin {l:List IV} (ht:TreeOK l) {b:Bx} {e:En} (h:EnI l b e) (hl:0 < e.todo.length):EnI l b (y36 l e):=by
 obtain ⟨hm,hg⟩:=zr4 hl;have ha:=h.at_ _ _ hg;have h31:=ht.len.2;have hpm:∀ x∈zi1 e.todo,x∈e.todo:=fun x hx=>y66 hx
 have e0:((zmd (z3p e.todo)).toNat:Int)=zmd (z3p e.todo):=by omega
 have hlt:(zmd (z3p e.todo)).toNat < l.length:=by have:=ha.2; simp only [ic] at this; omega
 have hn:=ht.node _ hlt;have hv:=h.val _ hm;have hok:=h.ok _ hm;unfold y36;rw [hn,v0c,v2i];cases he:(zui (z3p e.todo)).emp with
 | true=>
  rw [z00];refine ⟨fun j x hj=>h.at_ j x (y6m hj),fun x hx=>h.ok x (hpm x hx),fun x hx=>h.val x (hpm x hx),fun p t hh=>?_,h.lo,h.hi⟩
  rcases h.all p t hh with ⟨x,hx,hxh⟩ | hr
  ·rcases znq hl hx with hx | rfl
   ·exact .inl ⟨x,hx,hxh⟩
   ·have:=ybr hxh
    rw [he] at this; cases this
  ·exact .inr hr
 | false=>
  rw [z02];cases hlf:(za4 l e).lf with
  | true=>
   rw [v0c,z02];have hvl:∀ p t,(zui (z3p e.todo)).has p t=true→b.has p t=true∧zq6 l p=(za4 l e).v:=fun p t hh=>by
    obtain ⟨h1,h2⟩:=hv p t hh;exact ⟨h1,h2.trans (y8j ht p hlt hlf)⟩
   have hlow:=hvl _ _ (y82 _ he);refine ⟨fun j x hj=>h.at_ j x (y6m hj),fun x hx=>h.ok x (hpm x hx),fun x hx=>h.val x (hpm x hx),fun p t hh=>?_,fun _=>?_,fun _=>?_⟩
   ·rcases h.all p t hh with ⟨x,hx,hxh⟩ | ⟨h1,h2,h3⟩
    ·rcases znq hl hx with hx | rfl
     ·exact .inl ⟨x,hx,hxh⟩
     ·refine .inr ⟨rfl,?_,?_⟩
      ·rw [(hvl p t hxh).2]; show min _ _≤_; omega
      ·rw [(hvl p t hxh).2]; show _≤max _ _; omega
    ·refine .inr ⟨rfl,?_,?_⟩
     ·show min (cond e.any e.lo _) _≤_
      rw [h1,z00]; omega
     ·show _≤max (cond e.any e.hi _) _
      rw [h1,z00]; omega
   ·show ∃ p t,b.has p t=true∧zq6 l p=min (cond e.any e.lo (za4 l e).v) (za4 l e).v
    cases hany:e.any with
    | false=>exact ⟨_,_,hlow.1,by rw [hlow.2,z02]; omega⟩
    | true=>
     rw [z00]
     by_cases hc:e.lo≤(za4 l e).v
     ·obtain ⟨p,t,h1,h2⟩:=h.lo hany
      exact ⟨p,t,h1,by omega⟩
     ·exact ⟨_,_,hlow.1,by rw [hlow.2]; omega⟩
   ·show ∃ p t,b.has p t=true∧zq6 l p=max (cond e.any e.hi (za4 l e).v) (za4 l e).v
    cases hany:e.any with
    | false=>exact ⟨_,_,hlow.1,by rw [hlow.2,z02]; omega⟩
    | true=>
     rw [z00]
     by_cases hc:(za4 l e).v≤e.hi
     ·obtain ⟨p,t,h1,h2⟩:=h.hi hany
      exact ⟨p,t,h1,by omega⟩
     ·exact ⟨_,_,hlow.1,by rw [hlow.2]; omega⟩
  | false=>
   rw [v0h,z00];obtain ⟨⟨f0,f4⟩,fa,⟨l1,l2⟩,⟨r1,r2⟩,_⟩:=ht.fork _ hlt hlf;replace f0:0≤(za4 l e).f:=f0;replace f4:(za4 l e).f < 4:=f4;replace l1:((zmd (z3p e.todo)).toNat:Int) < (za4 l e).l:=l1;replace l2:(za4 l e).l < ic l.length:=l2;replace r1:((zmd (z3p e.todo)).toNat:Int) < (za4 l e).r:=r1;replace r2:(za4 l e).r < ic l.length:=r2;have ef:(za4 l e).f=(((za4 l e).f.toNat:Nat):Int):=by omega
   have hfl:(za4 l e).f.toNat < 5:=by omega
   have fa' : -2147483648≤(za4 l e).a:=by
    have:z1u (za4 l e).a=true:=fa
    unfold z1u at this;simp only [v02,v06] at this;exact this.1
   have vf:∀ p:Pt,ycl l p (zmd (z3p e.todo)).toNat=ycl l p (cond (decide (p.g (za4 l e).f.toNat≤(za4 l e).a)) (za4 l e).l.toNat (za4 l e).r.toNat):=fun p=>y7b ht p hlt hlf
   have hL:∀ p t,((zui (z3p e.todo)).cutL (za4 l e).f (za4 l e).a).has p t=true↔(zui (z3p e.todo)).has p t=true∧co p t (za4 l e).f.toNat≤(za4 l e).a:=fun p t=>by
    have:=ydi (b:=zui (z3p e.todo)) hfl (a:=(za4 l e).a) (p:=p) (t:=t)
    rwa [← ef] at this
   have hH:∀ p t,((zui (z3p e.todo)).cutH (za4 l e).f (za4 l e).a).has p t=true↔(zui (z3p e.todo)).has p t=true∧(za4 l e).a < co p t (za4 l e).f.toNat:=fun p t=>by
    have:=ydz hok hfl fa' (p:=p) (t:=t)
    rwa [← ef] at this
   have okL:((zui (z3p e.todo)).cutL (za4 l e).f (za4 l e).a).ok:=by
    have:=yc4 hok hfl (za4 l e).a
    rwa [← ef] at this
   have okH:((zui (z3p e.todo)).cutH (za4 l e).f (za4 l e).a).ok:=by
    have:=ydh hok hfl (za4 l e).a
    rwa [← ef] at this
   have hco:∀ p t,co p t (za4 l e).f.toNat=p.g (za4 l e).f.toNat:=fun p t=>y6y p t (by omega)
   refine ⟨fun j x hj=>?_,fun x hx=>?_,fun x hx=>?_,fun p t hh=>?_,h.lo,h.hi⟩
   ·rw [v1r,zjh] at hj
    split at hj
    ·exact h.at_ j x (y6m hj)
    ·rename_i hc
     have h1:=ha.1;rcases v1x (j - (e.todo.length - 1)) 1 with h0 | h0
     ·have:j - (e.todo.length - 1)=0:=by omega
      rw [this] at hj;simp only [v0p,v00] at hj;subst hj;rw [y57];omega
     ·rcases v1x (j - (e.todo.length - 1)) 2 with h2 | h2
      ·have:j - (e.todo.length - 1)=1:=by omega
       rw [this] at hj;simp only [v1h,v0p,v00] at hj;subst hj;rw [y57];omega
      ·rw [v0q (by simpa using h2)] at hj
       cases hj
   ·rcases v0k.1 hx with hx | hx
    ·exact h.ok x (hpm x hx)
    ·rcases v15.1 hx with rfl | hx
     ·rw [y09]; exact okL
     ·obtain rfl:=v28.1 hx
      rw [y09]; exact okH
   ·rcases v0k.1 hx with hx | hx
    ·exact h.val x (hpm x hx)
    ·rcases v15.1 hx with rfl | hx
     ·intro p t hh
      rw [y09] at hh;obtain ⟨h1,h2⟩:=(hL p t).1 hh;obtain ⟨h3,h4⟩:=hv p t h1;rw [hco] at h2;rw [y57];exact ⟨h3,by rw [h4,vf,v01 h2,z00]⟩
     ·obtain rfl:=v28.1 hx
      intro p t hh;rw [y09] at hh;obtain ⟨h1,h2⟩:=(hH p t).1 hh;obtain ⟨h3,h4⟩:=hv p t h1;rw [hco] at h2;rw [y57];exact ⟨h3,by rw [h4,vf,v07 (by omega),z02]⟩
   ·rcases h.all p t hh with ⟨x,hx,hxh⟩ | hr
    ·rcases znq hl hx with hx | rfl
     ·exact .inl ⟨x,v0k.2 (.inl hx),hxh⟩
     ·by_cases hc:co p t (za4 l e).f.toNat≤(za4 l e).a
      ·exact .inl ⟨_,v0k.2 (.inr (v0a ..)),by rw [y09]; exact (hL p t).2 ⟨hxh,hc⟩⟩
      ·exact .inl ⟨_,v0k.2 (.inr (v0b _ (v0a ..))),by rw [y09]; exact (hH p t).2 ⟨hxh,by omega⟩⟩
    ·exact .inr hr
theorem yje {l:List IV} (ht:TreeOK l) {b:Bx} (hb:b.ok):EnI l b (en0 b):=by
 have h1:=ht.len.1;refine ⟨fun j x hj=>?_,fun x hx=>?_,fun x hx=>?_,fun p t hh=>.inl ⟨_,v0a ..,by rw [y09]; exact hh⟩,(fun h=>by cases h),(fun h=>by cases h)⟩
 ·match j,hj with
  | 0,hj=>
   obtain rfl:ye0 0 b=x:=by simpa [en0] using hj
   rw [y57];simp only [ic];omega
  | j+1,hj=>simp [en0] at hj
 ·obtain rfl:=v28.1 hx
  rw [y09]; exact hb
 ·obtain rfl:=v28.1 hx
  intro p t hh;rw [y09] at hh;exact ⟨hh,rfl⟩
def enW (l:List IV):Nat:=(l.map fun x=>3 ^ (31 - (zmd x).toNat)).sum
theorem EnI.depth {l:List IV} (ht:TreeOK l) {b:Bx} {e:En} (h:EnI l b e):e.todo.length≤31:=by
 by_cases hc:e.todo.length≤31
 ·exact hc
 ·obtain ⟨x,hx⟩:∃ x,e.todo[31]?=some x:=⟨_,v0e (by omega)⟩
  have:=h.at_ 31 x hx
  have h2:=ht.len.2;simp only [ic] at this;omega
theorem ygy {l:List IV} (hl:0 < l.length):enW l=enW (zi1 l)+3 ^ (31 - (zmd (z3p l)).toNat):=by
 have e:l=zi1 l++[z3p l]:=by
  have h2:=(zr4 hl).2;have h3:l[l.length - 1]=z3p l:=v1w ((v0e (by omega)).symm.trans h2)
  unfold zi1;rw [← h3,List.take_append_getElem,v0z (by omega)]
 unfold enW
 conv=>lhs; rw [e]
 rw [v3p,List.sum_append];simp
theorem ybj {a b c:Nat} (h1:a < b) (h2:a < c) (ha:a < 31):3 ^ (31 - b)+3 ^ (31 - c)+1≤3 ^ (31 - a):=by
 have e:3 ^ (31 - a)=3*3 ^ (30 - a):=by
  rw [show 31 - a=(30 - a)+1 by omega,Nat.pow_succ]; omega
 have e1:3 ^ (31 - b)≤3 ^ (30 - a):=Nat.pow_le_pow_right (by omega) (by omega)
 have e2:3 ^ (31 - c)≤3 ^ (30 - a):=Nat.pow_le_pow_right (by omega) (by omega)
 have e3:0 < 3 ^ (30 - a):=Nat.pow_pos (by omega)
 omega
theorem yh6 {l:List IV} (ht:TreeOK l) {b:Bx} {e:En} (h:EnI l b e) (hl:0 < e.todo.length):enW (y36 l e).todo+1≤enW e.todo:=by
 obtain ⟨hm,hg⟩:=zr4 hl;have ha:=h.at_ _ _ hg;have h31:=ht.len.2;have hlt:(zmd (z3p e.todo)).toNat < l.length:=by have:=ha.2; simp only [ic] at this; omega
 have hpos:0 < 3 ^ (31 - (zmd (z3p e.todo)).toNat):=Nat.pow_pos (by omega)
 rw [ygy hl];unfold y36;cases !zau (l.getD (zmd (z3p e.todo)).toNat default).toInt||(zui (z3p e.todo)).emp with
 | true=>rw [z00]; show enW (zi1 e.todo)+1≤_; omega
 | false=>
  rw [z02];cases hlf:(za4 l e).lf with
  | true=>rw [v0c,z02]; show enW (zi1 e.todo)+1≤_; omega
  | false=>
   rw [v0h,z00];obtain ⟨_,_,⟨l1,l2⟩,⟨r1,r2⟩,_⟩:=ht.fork _ hlt hlf;replace l1:((zmd (z3p e.todo)).toNat:Int) < (za4 l e).l:=l1;replace r1:((zmd (z3p e.todo)).toNat:Int) < (za4 l e).r:=r1
   have:=ybj (a:=(zmd (z3p e.todo)).toNat) (b:=(za4 l e).l.toNat) (c:=(za4 l e).r.toNat) (by omega) (by omega) (by omega)
   unfold enW at *;rw [v3p,List.sum_append];simp only [v0d,v16,v49,List.sum_nil,y57];omega
theorem yk0 {l:List IV} (hT:z94 l 4=true) {b:Bx} (hb:b.emp=false) (hok:b.ok) {e:En} (h:EnI l b e) (hl:e.todo=[]):e.lo=tLo l b∧e.hi=tHi l b:=by
 obtain ⟨t1,⟨p1,u1,q1,q2⟩,⟨p2,u2,q3,q4⟩⟩:=yia hT hb hok;have hall:∀ p t,b.has p t=true→e.any=true∧e.lo≤zq6 l p∧zq6 l p≤e.hi:=fun p t hh=>by
  rcases h.all p t hh with ⟨x,hx,_⟩ | hr
  ·rw [hl] at hx; cases hx
  ·exact hr
 have hany:=(hall _ _ q1).1;obtain ⟨p3,u3,q5,q6⟩:=h.lo hany;obtain ⟨p4,u4,q7,q8⟩:=h.hi hany;have a1:=hall _ _ q1;have a2:=hall _ _ q3;have a3:=t1 _ _ q5;have a4:=t1 _ _ q7;omega
theorem yk4 {l:List IV} (hT:z94 l 4=true) {b c:Bx} (hb:b.emp=false) (hok:b.ok) (hc:c.emp=false) (hokc:c.ok) (h:∀ p,(∃ t,b.has p t=true)↔∃ t,c.has p t=true):tLo l b=tLo l c∧tHi l b=tHi l c:=by
 obtain ⟨t1,⟨p1,u1,q1,q2⟩,⟨p2,u2,q3,q4⟩⟩:=yia hT hb hok;obtain ⟨s1,⟨p3,u3,q5,q6⟩,⟨p4,u4,q7,q8⟩⟩:=yia hT hc hokc;obtain ⟨v1,w1⟩:=(h p1).1 ⟨u1,q1⟩;obtain ⟨v2,w2⟩:=(h p2).1 ⟨u2,q3⟩;obtain ⟨v3,w3⟩:=(h p3).2 ⟨u3,q5⟩;obtain ⟨v4,w4⟩:=(h p4).2 ⟨u4,q7⟩;have a1:=s1 _ _ w1;have a2:=s1 _ _ w2;have a3:=t1 _ _ w3;have a4:=t1 _ _ w4;omega
open Go
open Go
open Go
open Go
theorem yai {s:Sp}:zqe s=true↔s.good:=by
 unfold zqe Sp.good;simp only [v02,v06]
theorem zeh {b:Bx}:z5q b=true↔b.good:=by
 unfold z5q;simp only [v02,yai];constructor
 ·rintro ⟨h0,h1,h2,h3,h4⟩ i hi
  match i,hi with
  | 0,_=>exact h0
  | 1,_=>exact h1
  | 2,_=>exact h2
  | 3,_=>exact h3
  | 4,_=>exact h4
  | n+5,hi=>omega
 ·intro h
  exact ⟨h 0 (by omega),h 1 (by omega),h 2 (by omega),h 3 (by omega),h 4 (by omega)⟩
theorem yeo {b:Bx} (h4:b.s4.lo≤b.s4.hi) (p:Pt):(∃ t,(b.p ⟨0,0⟩ 4).has p t=true)↔∃ t,b.has p t=true:=by
 constructor
 ·rintro ⟨t,h⟩
  refine ⟨b.s4.lo,?_⟩;unfold Bx.has at h ⊢
  simp only [v02] at h ⊢
  exact ⟨h.1,h.2.1,h.2.2.1,h.2.2.2.1,zjd.2 ⟨v2x _,h4⟩⟩
 ·rintro ⟨t,h⟩
  refine ⟨0,?_⟩;unfold Bx.has at h ⊢
  simp only [v02] at h ⊢
  exact ⟨h.1,h.2.1,h.2.2.1,h.2.2.2.1,zjd.2 ⟨v2x _,v2x _⟩⟩
theorem y5m {g g':List IV→Int} (k:Int):∀ (ts:List IV) (s:Int),(∀ t∈ts,g (zdz t)=g' (zdz t))→zxv g k ts s=zxv g' k ts s
 | [],_,_=>rfl
 | t :: ts,s,h=>by
  rw [zxv,zxv,h t (v0a ..)];exact y5m k ts _ fun u hu=>h u (v0b _ hu)
theorem ygi {m:Md} (hm:z2b m=true) (k:Int) {b:Bx} (hb:b.good):sLo m k (b.p ⟨0,0⟩ 4)=sLo m k b∧sHi m k (b.p ⟨0,0⟩ 4)=sHi m k b:=by
 have hg:(b.p ⟨0,0⟩ 4).good:=zp0 hb ⟨by decide,by decide,by decide⟩ (by omega)
 have ht:∀ t∈m.ts,tLo (zdz t) (b.p ⟨0,0⟩ 4)=tLo (zdz t) b∧tHi (zdz t) (b.p ⟨0,0⟩ 4)=tHi (zdz t) b:=fun t ht=>
  yk4 (ye7 hm ht) hg.emp hg.ok hb.emp hb.ok (yeo (hb 4 (by omega)).2.1)
 have es:sOK m k (b.p ⟨0,0⟩ 4)=sOK m k b:=by unfold sOK; rw [hg.emp,hb.emp]
 unfold sLo sHi;rw [es];cases sOK m k b with
 | false=>exact ⟨rfl,rfl⟩
 | true=>
  rw [z00,z00,z00,z00];exact ⟨y5m k m.ts _ fun t h=>(ht t h).1,y5m k m.ts _ fun t h=>(ht t h).2⟩
def y5g (m:Md) (q:Qy) (b:Bx):Nat→Nat→Bool
 | 0,_=>true
 | d+1,i=>cond (!((i:Int)==q.c)&&decide (sHi m (i:Int) b≥sLo m q.c b)) false (y5g m q b d (i+1))
def y0c (q:Qy) (b:Bx):Bx:=b.p b.s4 q.ft.toNat
def yd2 (m:Md) (q:Qy) (b:Bx):Bool:=
 cond b.emp true
  (cond (q.k==1) (decide (q.lo≤sLo m q.c b)&&decide (sHi m q.c b≤q.hi))
   (cond (q.k==2) (y5g m q b m.c.toNat 0)
    (cond (decide ((b.g q.ft.toNat).lo≥b.s4.hi)) true
     (cond q.fl (decide (sHi m q.c (y0c q b)≤sLo m q.c b)) (decide (sLo m q.c (y0c q b)≥sHi m q.c b))))))
theorem y37 {m:Md} {q:Qy} {b:Bx}:∀ (d i:Nat),y5g m q b d i=true↔∀ j:Nat,i≤j→j < i+d→(j:Int)≠q.c→sHi m (j:Int) b < sLo m q.c b
 | 0,i=>⟨fun _ j h1 h2=>by omega,fun _=>rfl⟩
 | d+1,i=>by
  rw [y5g];cases hc:(!((i:Int)==q.c)&&decide (sHi m (i:Int) b≥sLo m q.c b)) with
  | true=>
   rw [z00];simp only [v02,v17,v1a,v06] at hc;refine ⟨(fun h=>by cases h),fun h=>?_⟩
   have:=h i (v09 _) (by omega) hc.1
   omega
  | false=>
   rw [z02,y37 d (i+1)];rw [Bool.and_eq_false_iff,Bool.not_eq_false',v1g,v19] at hc;constructor
   ·intro h j h1 h2 hn
    rcases v1x i j with h3 | h3
    ·exact h j h3 (by omega) hn
    ·have:j=i:=by omega
     subst this;rcases hc with hc | hc
     ·exact absurd hc hn
     ·omega
   ·intro h j h1 h2 hn
    exact h j (by omega) (by omega) hn
theorem y26 {m:Md} {q:Qy} {b:Bx} (hr:z3f m q=true) (hb:b.emp=true∨b.good):yd2 m q b=z4e m q b:=by
 unfold yd2 z4e;rw [hr,v0r];cases he:b.emp with
 | true=>rfl
 | false=>
  rw [z02,z02];have hg:b.good:=by
   rcases hb with h | h
   ·rw [he] at h; cases h
   ·exact h
  obtain ⟨hm,⟨c0,c1⟩,_,_,hk⟩:=zi7 hr;have hcl:=yf9 c0 c1;have hs:=yc7 hm hcl he;rcases zn8 hk with ⟨e,_⟩ | ⟨e,h2,_⟩ | ⟨e,hf,_⟩
  ·rw [e]
   show (decide (q.lo≤sLo m q.c b)&&decide (sHi m q.c b≤q.hi))=(sOK m q.c b&&(decide (q.lo≤sLo m q.c b)&&decide (sHi m q.c b≤q.hi)));rw [hs,v0r]
  ·rw [e]
   show y5g m q b m.c.toNat 0=(yc8 m q.c b&&decide (yhq m q.c b > 0));have hmg:yc8 m q.c b=true:=by unfold yc8; rw [hs,v01 (by omega)]; rfl
   rw [hmg,v0r,v2w,y37,v06]
   have:=yga hmg
   constructor
   ·intro h
    exact this.2 fun j hj hn=>h j (v0y _) (by omega) hn
   ·intro h j _ h2 hn
    exact this.1 h j (by omega) hn
  ·rw [e]
   have hp:=y30 hm e hf;have h44:=hg 4 (by omega)
   have hg2:(y0c q b).good:=zp0 hg h44 (by have:=hf; have:=(zi7 hr).1; rcases zct hp with e | e | e | e <;> rw [e] <;> decide)
   have s1:=ygi hm q.c hg;have s2:=ygi hm q.c hg2;have f1:zdy q b=b.p ⟨0,0⟩ 4:=by unfold zdy; rw [hp,z00]
   have f2:za5 q b=(y0c q b).p ⟨0,0⟩ 4:=by unfold za5; rw [hp,z00]; rfl
   have hch:yaf m q b=true:=by
    unfold yaf;rw [hp,f1,f2,yc7 hm hcl (zp0 hg ⟨by decide,by decide,by decide⟩ (by omega)).emp,yc7 hm hcl (zp0 hg2 ⟨by decide,by decide,by decide⟩ (by omega)).emp]
    rfl
   have e1:ygt m q b=sHi m q.c (y0c q b) - sLo m q.c b:=by unfold ygt; rw [hch,z00,f1,f2,s1.1,s2.2]
   have e2:yid m q b=sLo m q.c (y0c q b) - sHi m q.c b:=by unfold yid; rw [hch,z00,f1,f2,s1.2,s2.1]
   have eo:zgy q b=!decide ((b.g q.ft.toNat).lo≥b.s4.hi):=by
    unfold zgy;rw [hp,he]
    by_cases h:(b.g q.ft.toNat).lo < b.s4.hi
    ·rw [v01 h,v07 (by omega)]; rfl
    ·rw [v07 h,v01 (by omega)]; rfl
   show cond (decide ((b.g q.ft.toNat).lo≥b.s4.hi)) true _=cond (!(zgy q b)) true (cond q.fl (yaf m q b&&decide (ygt m q b≤0)) (yaf m q b&&decide (yid m q b≥0)));rw [eo,Bool.not_not,hch,v0r,v0r,e1,e2];have d1:decide (sHi m q.c (y0c q b) - sLo m q.c b≤0)=decide (sHi m q.c (y0c q b)≤sLo m q.c b):=by
    rw [v2w,v06,v06]; omega
   have d2:decide (sLo m q.c (y0c q b) - sHi m q.c b≥0)=decide (sLo m q.c (y0c q b)≥sHi m q.c b):=by
    rw [v2w,v06,v06]; omega
   rw [d1,d2]
end Go.FM
