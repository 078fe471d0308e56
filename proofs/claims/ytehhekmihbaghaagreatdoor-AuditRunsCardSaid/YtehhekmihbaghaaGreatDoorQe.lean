/-
  A small machine that reads a function of the program and reckons what a call of it comes to; what Go's library on the road comes to; the functions of the program, one by one. No conditions beyond each specification's own. (cert's FUNCTIONS COME TO WHAT IS SAID (2): read, Print, Pars, WHAT driver's AND audit's FUNCTIONS COME TO: specifications., strings.IndexByte COMES TO WHAT IS SAID (out of the shelf's , and so on.)
-/
import Derived.Test.YtehhekmihbaghaaGreatDoorQd
import Derived.Test.YtehhekmihbaghaaGreatDoorQc
import Derived.Test.YtehhekmihbaghaaGreatDoorQb
import Derived.Shelf.Vars
import Derived.Lib.LaidU8
import Derived.Lib.LaidTab
import Derived.Carry
import Derived.ChangeArms
import Derived.OpenShut
import Derived.Lib.ItoaMem
import Derived.Test.YtehhekmihbaghaaGreatDoorRows
import Derived.ProofKit
import Derived.LaidMore
import Derived.LaidHandle
import Derived.Deep.DeepHandedRow
import Derived.Stop.Joined
import Derived.Test.YtehhekmihbaghaaGreatDoorTie
import Derived.Test.YtehhekmihbaghaaGreatDoorCards
import Derived.SevenTiedAt
import Derived.Deep.DeepWitnessRowRef

namespace Go.FM
open Go Go.Proofs
theorem y9k (s sep:ByteArray) (h:1≤sep.size):0 < ((z09 s sep).map IV.str).length:=by
 rw [List.length_map];unfold z09;rw [Lib.splitB_all sep h 0 _ s rfl];omega
theorem zms (s:ByteArray):decide (0 < ic (List.length (List.map IV.str (z09 s ydj))))=true:=decide_eq_true (by
 have:=y9k s ydj (by decide)
 simp only [ic];omega)
theorem zuq {s sep:ByteArray} (h:s.size < 4294967281):decide (ByteArray.size (cutL s sep) < 4294967281)=true:=decide_eq_true (by
 have:=(zl5 s sep).1
 omega)
theorem yds {s:ByteArray} (h:(s.toList==z12.toList)=false):(zed s zii).size < s.size:=by
 have h0:0 < s.size:=by
  rcases Nat.eq_zero_or_pos s.size with e | e
  ·exfalso
   have:s=z12:=ByteArray.ext (Array.eq_empty_of_size_eq_zero e)
   rw [this] at h;simp at h
  ·exact e
 have h0:0 < s.data.toList.length:=h0;show (Lib.cut s.data.toList zii.data.toList).2.1.toArray.size < s.data.toList.length;rw [List.size_toArray];unfold Lib.cut
 split
 ·have e1:(zii.data.toList).length=1:=rfl
  rw [List.length_drop,e1];omega
 ·exact h0
theorem dsp:decide (1≤ByteArray.size ydj)=true:=rfl
theorem y5j (N:Nat) (a0 a2 a3 a4 a5 a6 a7 b0 b2 b3 b4 b5 b6 b7:Int) (K:Out→St→Res)
  (hx:∀ s (p:List IV),K (.exit 1) ⟨[(2,(.ptr 2 0 0)),(4,(.str s)),(7,(.ptr 7 0 0))],[(2,(some (.box [(.int .i64 a0),.zs,(.int .i64 a2),(.int .i64 a3),(.int .i64 a4),(.int .i64 a5),(.int .i64 a6),(.int .i64 a7)]))),(7,(some (.box [(.int .i64 b0),(.row 51 0 p.length),(.int .i64 b2),(.int .i64 b3),(.int .i64 b4),(.int .i64 b5),(.int .i64 b6),(.int .i64 b7)]))),(51,(some (.row true 127 true z4v p)))]⟩=some ((.agg [(.int .i64 b0),(.list true z4v (List.drop 0 (List.take p.length p))),(.int .i64 b2),(.int .i64 b3),(.int .i64 b4),(.int .i64 b5),(.int .i64 b6),(.int .i64 b7)]),[])) :
  ∀ (m n:Nat) (s:ByteArray) (p:List IV),s.size < m→m≤n→s.size < 4294967281 →
   lpE (z0k N) (z0p z0w [1,1,1,1,0,1,0,1,0,1,0,0]) ⟨[2,4,7],[2,7,51],[⟨(.cell 7 1),51,127,true,z4v⟩]⟩ n ⟨[(2,(.ptr 2 0 0)),(4,(.str s)),(7,(.ptr 7 0 0))],[(2,(some (.box [(.int .i64 a0),.zs,(.int .i64 a2),(.int .i64 a3),(.int .i64 a4),(.int .i64 a5),(.int .i64 a6),(.int .i64 a7)]))),(7,(some (.box [(.int .i64 b0),(.row 51 0 p.length),(.int .i64 b2),(.int .i64 b3),(.int .i64 b4),(.int .i64 b5),(.int .i64 b6),(.int .i64 b7)]))),(51,(some (.row true 127 true z4v p)))]⟩ K =
   some ((.agg [(.int .i64 b0),(.list true z4v (zdt m s p)),(.int .i64 b2),(.int .i64 b3),(.int .i64 b4),(.int .i64 b5),(.int .i64 b6),(.int .i64 b7)]),[])
 | m+1,n+1,s,p,hm,hn,hs=>by
  rw [z05,ztj];have ep:List.drop 0 (List.take p.length p)=p:=by rw [List.drop_zero,List.take_length]
  have e65:decide (ic (p.length - 0)≤65536)=decide (p.length≤65536):=by
   rw [Bool.eq_iff_iff];simp only [decide_eq_true_eq,ic];omega
  unfold zdt;rw [e65];cases h1:(s.toList==z12.toList) with
  | true=>
   simp only [Bool.not_true,z02,Bool.false_and];refine (hx s p).trans ?_;rw [ep]
  | false=>
   simp only [Bool.not_false,z00,Bool.true_and];cases h2:decide (p.length≤65536) with
   | false=>
    simp only [z02];refine (hx s p).trans ?_;rw [ep]
   | true=>
    have h2:=of_decide_eq_true h2;simp only [z00];have hlt:=yds h1;rw [decide_eq_true hs,zuq hs,dsp,zms];simp only [Nat.le_refl,decide_true,Bool.and_true,z00];rw [decide_eq_true (show (p.length+1)*24≤z0e by unfold z0e; omega)]
    simp only [z00];have el:∀ x:IV,p.length+1=(p++[x]).length:=fun x=>by
     rw [List.length_append]; rfl
    have ih:=fun x:IV=>y5j N a0 a2 a3 a4 a5 a6 a7 b0 b2 b3 b4 b5 b6 b7 K hx m n (zed s zii) (p++[x]) (by omega) (by omega) (by omega)
    unfold zpi zd2;have ez:Int.toNat 0=0:=rfl;rw [ez];unfold z6a;cases h3:(ByteArray.toList (IV.toStr (List.getD (List.map IV.str (z09 (cutL s zii) ydj)) 0 default))==ByteArray.toList zz1) with
    | true=>
     simp only [z00];rw [List.take_length,el];exact ih _
    | false=>
     simp only [z02];rw [List.take_length,el];exact ih _
 | 0,_,_,_,h,_,_=>by omega
 | _+1,0,_,_,_,h,_=>by omega
theorem ycz {a b c:Int} (h:IntKind.wrap .i64 (a+b)=c):IntKind.wrap .i64 (a+b)=c:=h
theorem yee (N n:Nat) (l:List IV) (x w0 w1 w2 w3:Int) (K:Out→St→Res):lpE (z0k N) (z0p z0w [1,1,1,1,0,1,0,1,1,1,0,1,0,1,0,0]) ⟨[2,6,7,66],[2,7],[]⟩ (n+1) ⟨[(2,(.ptr 2 0 0)),(6,(.list false [.str] l)),(7,(.ptr 7 0 0)),(66,(.int .i64 0))],[(2,(some (.box [(.int .i64 0),.zs,(.int .i64 0),(.int .i64 0),(.int .i64 0),(.int .i64 0),(.int .i64 0),(.int .i64 0)]))),(7,(some (.box [(.int .i64 2),.zs,(.int .i64 w0),(.int .i64 w1),(.int .i64 w2),(.int .i64 w3),(.int .i64 0),(.int .i64 x)])))]⟩ K =
  lpE (z0k N) (z0p z0w [1,1,1,1,0,1,0,1,1,1,0,1,0,1,0,0]) ⟨[2,6,7,66],[2,7],[]⟩ n ⟨[(2,(.ptr 2 0 0)),(6,(.list false [.str] l)),(7,(.ptr 7 0 0)),(66,(.int .i64 1))],[(2,(some (.box [(.int .i64 0),.zs,(.int .i64 0),(.int .i64 0),(.int .i64 0),(.int .i64 0),(.int .i64 0),(.int .i64 0)]))),(7,(some (.box [(.int .i64 2),.zs,(.int .i64 (z1r l 2)),(.int .i64 w1),(.int .i64 w2),(.int .i64 w3),(.int .i64 0),(.int .i64 x)])))]⟩ K:=by
 rw [z05,z7m,ycz (a:=2) (b:=0) (c:=2) rfl,ycz (a:=0) (b:=1) (c:=1) rfl];simp only [show decide ((0:Int) < 4)=true from rfl,show decide ((0:Int)≤2)=true from rfl,show decide ((0:Int)=ic 0)=true from rfl,z00]
theorem yec (N n:Nat) (l:List IV) (x w0 w1 w2 w3:Int) (K:Out→St→Res):lpE (z0k N) (z0p z0w [1,1,1,1,0,1,0,1,1,1,0,1,0,1,0,0]) ⟨[2,6,7,66],[2,7],[]⟩ (n+1) ⟨[(2,(.ptr 2 0 0)),(6,(.list false [.str] l)),(7,(.ptr 7 0 0)),(66,(.int .i64 1))],[(2,(some (.box [(.int .i64 0),.zs,(.int .i64 0),(.int .i64 0),(.int .i64 0),(.int .i64 0),(.int .i64 0),(.int .i64 0)]))),(7,(some (.box [(.int .i64 2),.zs,(.int .i64 w0),(.int .i64 w1),(.int .i64 w2),(.int .i64 w3),(.int .i64 0),(.int .i64 x)])))]⟩ K =
  lpE (z0k N) (z0p z0w [1,1,1,1,0,1,0,1,1,1,0,1,0,1,0,0]) ⟨[2,6,7,66],[2,7],[]⟩ n ⟨[(2,(.ptr 2 0 0)),(6,(.list false [.str] l)),(7,(.ptr 7 0 0)),(66,(.int .i64 2))],[(2,(some (.box [(.int .i64 0),.zs,(.int .i64 0),(.int .i64 0),(.int .i64 0),(.int .i64 0),(.int .i64 0),(.int .i64 0)]))),(7,(some (.box [(.int .i64 2),.zs,(.int .i64 w0),(.int .i64 (z1r l 3)),(.int .i64 w2),(.int .i64 w3),(.int .i64 0),(.int .i64 x)])))]⟩ K:=by
 rw [z05,z7m,ycz (a:=2) (b:=1) (c:=3) rfl,ycz (a:=1) (b:=1) (c:=2) rfl];simp only [show decide ((1:Int) < 4)=true from rfl,show decide ((0:Int)≤3)=true from rfl,show decide ((1:Int)=ic 0)=false from rfl,show decide ((1:Int)=ic 1)=true from rfl,z00,z02]
theorem yf5 (N n:Nat) (l:List IV) (x w0 w1 w2 w3:Int) (K:Out→St→Res):lpE (z0k N) (z0p z0w [1,1,1,1,0,1,0,1,1,1,0,1,0,1,0,0]) ⟨[2,6,7,66],[2,7],[]⟩ (n+1) ⟨[(2,(.ptr 2 0 0)),(6,(.list false [.str] l)),(7,(.ptr 7 0 0)),(66,(.int .i64 2))],[(2,(some (.box [(.int .i64 0),.zs,(.int .i64 0),(.int .i64 0),(.int .i64 0),(.int .i64 0),(.int .i64 0),(.int .i64 0)]))),(7,(some (.box [(.int .i64 2),.zs,(.int .i64 w0),(.int .i64 w1),(.int .i64 w2),(.int .i64 w3),(.int .i64 0),(.int .i64 x)])))]⟩ K =
  lpE (z0k N) (z0p z0w [1,1,1,1,0,1,0,1,1,1,0,1,0,1,0,0]) ⟨[2,6,7,66],[2,7],[]⟩ n ⟨[(2,(.ptr 2 0 0)),(6,(.list false [.str] l)),(7,(.ptr 7 0 0)),(66,(.int .i64 3))],[(2,(some (.box [(.int .i64 0),.zs,(.int .i64 0),(.int .i64 0),(.int .i64 0),(.int .i64 0),(.int .i64 0),(.int .i64 0)]))),(7,(some (.box [(.int .i64 2),.zs,(.int .i64 w0),(.int .i64 w1),(.int .i64 (z1r l 4)),(.int .i64 w3),(.int .i64 0),(.int .i64 x)])))]⟩ K:=by
 rw [z05,z7m,ycz (a:=2) (b:=2) (c:=4) rfl,ycz (a:=2) (b:=1) (c:=3) rfl];simp only [show decide ((2:Int) < 4)=true from rfl,show decide ((0:Int)≤4)=true from rfl,show decide ((2:Int)=ic 0)=false from rfl,show decide ((2:Int)=ic 1)=false from rfl,show decide ((2:Int)=ic 2)=true from rfl,z00,z02]
theorem yer (N n:Nat) (l:List IV) (x w0 w1 w2 w3:Int) (K:Out→St→Res):lpE (z0k N) (z0p z0w [1,1,1,1,0,1,0,1,1,1,0,1,0,1,0,0]) ⟨[2,6,7,66],[2,7],[]⟩ (n+1) ⟨[(2,(.ptr 2 0 0)),(6,(.list false [.str] l)),(7,(.ptr 7 0 0)),(66,(.int .i64 3))],[(2,(some (.box [(.int .i64 0),.zs,(.int .i64 0),(.int .i64 0),(.int .i64 0),(.int .i64 0),(.int .i64 0),(.int .i64 0)]))),(7,(some (.box [(.int .i64 2),.zs,(.int .i64 w0),(.int .i64 w1),(.int .i64 w2),(.int .i64 w3),(.int .i64 0),(.int .i64 x)])))]⟩ K =
  lpE (z0k N) (z0p z0w [1,1,1,1,0,1,0,1,1,1,0,1,0,1,0,0]) ⟨[2,6,7,66],[2,7],[]⟩ n ⟨[(2,(.ptr 2 0 0)),(6,(.list false [.str] l)),(7,(.ptr 7 0 0)),(66,(.int .i64 4))],[(2,(some (.box [(.int .i64 0),.zs,(.int .i64 0),(.int .i64 0),(.int .i64 0),(.int .i64 0),(.int .i64 0),(.int .i64 0)]))),(7,(some (.box [(.int .i64 2),.zs,(.int .i64 w0),(.int .i64 w1),(.int .i64 w2),(.int .i64 (z1r l 5)),(.int .i64 0),(.int .i64 x)])))]⟩ K:=by
 rw [z05,z7m,ycz (a:=2) (b:=3) (c:=5) rfl,ycz (a:=3) (b:=1) (c:=4) rfl];simp only [show decide ((3:Int) < 4)=true from rfl,show decide ((0:Int)≤5)=true from rfl,show decide ((3:Int)=ic 0)=false from rfl,show decide ((3:Int)=ic 1)=false from rfl,show decide ((3:Int)=ic 2)=false from rfl,show decide ((3:Int)=ic 3)=true from rfl,z00,z02]
theorem ydm (N n:Nat) (l:List IV) (x w0 w1 w2 w3:Int):lpE (z0k N) (z0p z0w [1,1,1,1,0,1,0,1,1,1,0,1,0,1,0,0]) ⟨[2,6,7,66],[2,7],[]⟩ (n+1) ⟨[(2,(.ptr 2 0 0)),(6,(.list false [.str] l)),(7,(.ptr 7 0 0)),(66,(.int .i64 4))],[(2,(some (.box [(.int .i64 0),.zs,(.int .i64 0),(.int .i64 0),(.int .i64 0),(.int .i64 0),(.int .i64 0),(.int .i64 0)]))),(7,(some (.box [(.int .i64 2),.zs,(.int .i64 w0),(.int .i64 w1),(.int .i64 w2),(.int .i64 w3),(.int .i64 0),(.int .i64 x)])))]⟩ (z04 3 (kSq (z0k N) (z0p z0w [1,1,1,1,0,1,0,1,1,1,0,1,1]) (z04 0 (kSq (z0k N) (z0p z0w [1,1,1,1,1]) (z3f (z0k N) none [(ResultVar.cell 2 55)] [[(.int .i64),(.list true z4v),(.int .i64),(.int .i64),(.int .i64),(.int .i64),(.int .i64),(.int .i64)]]))))) =
  some ((.agg [(.int .i64 2),(.list true z4v []),(.int .i64 w0),(.int .i64 w1),(.int .i64 w2),(.int .i64 w3),(.int .i64 (z1r l 6)),(.int .i64 x)]),[]):=by
 rw [z05,z7m];simp only [show decide ((4:Int) < 4)=false from rfl,z02]
 exact zph N _ _ _ _ _ _ _ _ _ _ _ _ _ _ _ _
theorem y6j (N n:Nat) (l:List IV) (x:Int):lpE (z0k N) (z0p z0w [1,1,1,1,0,1,0,1,1,1,0,1,0,1,0,0]) ⟨[2,6,7,66],[2,7],[]⟩ (n+1+1+1+1+1) ⟨[(2,(.ptr 2 0 0)),(6,(.list false [.str] l)),(7,(.ptr 7 0 0)),(66,(.int .i64 0))],[(2,(some (.box [(.int .i64 0),.zs,(.int .i64 0),(.int .i64 0),(.int .i64 0),(.int .i64 0),(.int .i64 0),(.int .i64 0)]))),(7,(some (.box [(.int .i64 2),.zs,(.int .i64 0),(.int .i64 0),(.int .i64 0),(.int .i64 0),(.int .i64 0),(.int .i64 x)])))]⟩ (z04 3 (kSq (z0k N) (z0p z0w [1,1,1,1,0,1,0,1,1,1,0,1,1]) (z04 0 (kSq (z0k N) (z0p z0w [1,1,1,1,1]) (z3f (z0k N) none [(ResultVar.cell 2 55)] [[(.int .i64),(.list true z4v),(.int .i64),(.int .i64),(.int .i64),(.int .i64),(.int .i64),(.int .i64)]]))))) =
  some ((.agg [(.int .i64 2),(.list true z4v []),(.int .i64 (z1r l 2)),(.int .i64 (z1r l 3)),(.int .i64 (z1r l 4)),(.int .i64 (z1r l 5)),(.int .i64 (z1r l 6)),(.int .i64 x)]),[]):=
 (yee N (n+1+1+1+1) l x 0 0 0 0 _).trans ((yec N (n+1+1+1) l x _ 0 0 0 _).trans ((yf5 N (n+1+1) l x _ _ 0 0 _).trans ((yer N (n+1) l x _ _ _ 0 _).trans (ydm N n l x _ _ _ _))))
set_option maxRecDepth 100000 in
theorem zwo:z3c PR B0 61 zbw:=by
 refine z0m [(105,z90),(104,z4e),(46,z1a)] [(7,⟨[2,4,7],[2,7,51],[⟨.cell 7 1,51,127,true,[.bool,.int .i64,.int .i64]⟩]⟩),(16,⟨[2,6,7,66],[2,7],[]⟩)] zbw [[.int .i64,.list true [.bool,.int .i64,.int .i64],.int .i64,.int .i64,.int .i64,.int .i64,.int .i64,.int .i64]] Tryz.func61 y46 ⟨zrl,zc7,z3v,trivial⟩ ?_;intro vs r hwf h;unfold zbw at h
 split at h
 ·rename_i s
  refine ⟨s.size+1+1+1+1+1+1,?_⟩;rw [← h];refine (y1v (s.size+1+1+1+1+1+1) s).trans ?_;simp only [R.get_br,R.get_ok,R.get_no];cases hs:decide (s.size < 4294967281) with
  | false=>rfl
  | true=>
   have hs:=of_decide_eq_true hs;simp only [z00];rw [zuq hs,dsp,zms];simp only [Nat.le_refl,decide_true,Bool.and_true,z00];have ez:Int.toNat 0=0:=rfl;rw [ez];unfold zdo zd2 z6a;have hlt:=(zl5 s zii).2;generalize List.map IV.str (z09 (cutL s zii) ydj)=l;generalize (ByteArray.toList (IV.toStr (List.getD l 0 default))==ByteArray.toList zb4)=q1;generalize (ByteArray.toList (IV.toStr (List.getD l 0 default))==ByteArray.toList znd)=q2;generalize (ByteArray.toList (IV.toStr (List.getD l 0 default))==ByteArray.toList ze2)=q3;generalize (ByteArray.toList (IV.toStr (List.getD l 0 default))==ByteArray.toList znk)=q4;cases q1
   ·cases q2
    ·cases q3
     ·cases q4 <;> simp only [z00,z02]
     ·simp only [z00,z02]
    ·simp only [z00,z02]
     exact y6j _ (s.size+1) _ _
   ·simp only [z00]
    exact y5j _ _ _ _ _ _ _ _ _ _ _ _ _ _ _ _ (fun s' p=>zoz _ s' _ _ _ _ _ _ _ _ _ _ _ _ _ _ _ p) ((zed s zii).size+1) _ (zed s zii) [] (by omega) (by omega) (by omega)
 ·simp [R.get] at h
theorem zuy (s w:ByteArray) (l:List IV):s.size≤(z3g s w l).size:=by
 unfold z3g
 have:=zhz l (s++w)
 rw [ByteArray.size_append] at this;rw [ByteArray.size_push];omega
theorem zcg:∀ (l:List IV) (s:ByteArray),s.size≤(z5v s l).size
 | [],s=>Nat.le_refl _
 | x :: l,s=>by
  unfold z5v;refine Nat.le_trans ?_ (zcg l _);cases zc1 x
  ·exact zuy _ _ _
  ·exact zuy _ _ _
theorem zv6 (N:Nat) (l:List IV) (t:ByteArray) (K:Out→St→Res) (hl:l.length≤65536)
  (hx:∀ s x26 x27,K (.exit 1) ⟨[(2,(.str t)),(3,(.ptr 3 0 0)),(25,(.list true z4v l)),(26,(.int .i64 x26)),(27,(.int .i64 x27))],[(3,(some (.bld s)))]⟩=some (.str s,[])) :
  ∀ (d i n:Nat) (s:ByteArray),i+d=l.length→d < n→(z5v s (l.drop i)).size≤strMax →
   lpE (z58 N) (z0p z6o [1,1,1,0,1,0,1,0,1,1,0,0]) ⟨[2,3,25,26,27],[3],[]⟩ n ⟨[(2,(.str t)),(3,(.ptr 3 0 0)),(25,(.list true z4v l)),(26,(.int .i64 (ic l.length))),(27,(.int .i64 (i:Int)))],[(3,(some (.bld s)))]⟩ K=some (.str (z5v s (l.drop i)),[])
 | 0,i,n+1,s,hd,_,_=>by
  rw [z05,zh2,zgi (by omega),List.drop_of_length_le (l:=l) (i:=i) (by omega)]
  simp only [z02,z5v];exact hx s _ _
 | d+1,i,n+1,s,hd,hn,hs=>by
  have hi:i < l.length:=by omega
  rw [z05,zh2,zfr hi,zs1,zdi (by omega),zgx hi]
  rw [List.drop_eq_getElem_cons hi] at hs ⊢
  simp only [z5v] at hs ⊢
  simp only [z00,Bool.and_true];have hsz:=zcg (l.drop (i+1)) (cond (zc1 l[i]) (z3g s zz1 []) (z3g s y9b [.int (z1q l[i]),.int (ziz l[i])]));have ih:=fun s' h'=>zv6 N l t K hl hx d (i+1) n s' (by omega) (by omega) h'
  have es:(l[i].cell 0).toBool=zc1 l[i]:=rfl;rw [es];cases hc:zc1 l[i] with
  | true=>
   rw [hc] at hsz hs;simp only [z00] at hsz hs ⊢
   rw [decide_eq_true (show (z3g s zz1 []).size≤strMax by omega)]
   simp only [z00];exact ih _ hs
  | false=>
   rw [hc] at hsz hs;simp only [z02] at hsz hs ⊢
   have e2:[IV.int (IV.toInt (IV.cell l[i] 1)),IV.int (IV.toInt (IV.cell l[i] 2))]=[.int (z1q l[i]),.int (ziz l[i])]:=rfl;rw [e2,decide_eq_true (show (z3g s y9b [.int (z1q l[i]),.int (ziz l[i])]).size≤strMax by omega)]
   simp only [z00];exact ih _ hs
 | 0,_,0,_,_,h,_=>by omega
 | _+1,_,0,_,_,h,_=>by omega
theorem y90 {v:Vd} (h:v.right=true):v.proof.length≤65536:=by
 unfold Vd.right at h;simp only [Bool.and_eq_true,Bool.or_eq_true] at h;rcases h.2.2 with h1 | h1 | h1
 ·have:=h1.2.2
  unfold zsf at this;simp only [Bool.and_eq_true,decide_eq_true_eq] at this;exact this.2.1
 ·have:=h1.2
  cases hp:v.proof with
  | nil=>simp
  | cons a b=>rw [hp] at this; cases this
 ·have:=h1.2.2
  cases hp:v.proof with
  | nil=>simp
  | cons a b=>rw [hp] at this; cases this
set_option maxRecDepth 100000 in
theorem zt8:z3c PR B0 24 zad:=by
 refine z0m [(62,zap),(63,zbt),(56,z1y)] [(9,⟨[2,3,25,26,27],[3],[]⟩)] zad [[.str]] Tryz.func24 zzn ⟨zts,zwh,z6z,trivial⟩ ?_;intro vs r hwf h;unfold zad at h
 split at h
 ·rename_i k p a b c d t s
  obtain ⟨v,hv⟩:∃ v:Vd,v=⟨k,p,a,b,c,d,t,s⟩:=⟨_,rfl⟩;refine ⟨v.proof.length+1,?_⟩;rw [← h];rw [← hv] at h ⊢
  have hn:=zwl (v.proof.length+1) v;rw [show Vd.V v = .agg [.int .i64 k,.list true [.bool,.int .i64,.int .i64] p,.int .i64 a,.int .i64 b,.int .i64 c,.int .i64 d,.int .i64 t,.int .i64 s] by rw [hv]; rfl] at hn
  refine hn.trans ?_;clear hn;rw [R.get_br,R.get_ok,R.get_no] at h;simp only [R.get_br,R.get_ok,R.get_no];cases hc:decide ((z8w v).size≤strMax) with
  | false=>rw [hc] at h; cases h
  | true=>
   have hle:=of_decide_eq_true hc;simp only [z00];unfold z8w at hle ⊢
   cases hr:Vd.right v with
   | false=>rfl
   | true=>
    rw [hr] at hle;simp only [Bool.not_true,z00,z02] at hle ⊢
    have e0:ByteArray.empty=z12:=rfl;simp only [e0];cases k1:v.kind==1 with
    | true=>
     rw [k1] at hle;simp only [z00] at hle ⊢
     have h1:=zcg v.proof (z3g z12 zb4 [.int v.spent,.int (ic v.proof.length)]);rw [decide_eq_true (show (z3g z12 zb4 [.int v.spent,.int (ic v.proof.length)]).size≤strMax by omega)]
     simp only [z00]
     have:=zv6 (v.proof.length+1) v.proof z12 _ (y90 hr) (fun s' x26 x27=>znn (v.proof.length+1) z12 v.proof x26 x27 s') v.proof.length 0 (v.proof.length+1) (z3g z12 zb4 [.int v.spent,.int (ic v.proof.length)]) (by omega) (by omega) (by rw [List.drop_zero]; exact hle)
     rw [List.drop_zero] at this;exact this
    | false=>
     rw [k1] at hle;simp only [z02] at hle ⊢
     cases k2:v.kind==2 with
     | true=>
      rw [k2] at hle;simp only [z00] at hle ⊢
      have ew:(List.drop 0 (List.take (1+4+1) (List.take (1+4) (List.take 1 [IV.int (Vd.spent v)]++[IV.int (Vd.w0 v),IV.int (Vd.w1 v),IV.int (Vd.w2 v),IV.int (Vd.w3 v)])++[IV.int (Vd.twin v)])))=[.int v.spent,.int v.w0,.int v.w1,.int v.w2,.int v.w3,.int v.twin]:=rfl;rw [ew,decide_eq_true hle]
      rfl
     | false=>
      rw [k2] at hle;simp only [z02] at hle ⊢
      cases k3:v.kind==3 with
      | true=>
       rw [k3] at hle;simp only [z00] at hle ⊢
       rw [decide_eq_true hle]
       rfl
      | false=>
       rw [k3] at hle;simp only [z02] at hle ⊢
       rw [decide_eq_true hle]
       rfl
 ·simp [R.get] at h
set_option maxRecDepth 100000 in
theorem ztp:z3c PR B0 23 zav:=by
 refine z0m [(24,zad),(61,zbw)] [] zav [[.int .i64,.list true [.bool,.int .i64,.int .i64],.int .i64,.int .i64,.int .i64,.int .i64,.int .i64,.int .i64],[.bool]] Tryz.func23 zz8 ⟨zt8,zwo,trivial⟩ ?_;intro vs r hwf h;unfold zav at h
 split at h
 ·rename_i s
  refine ⟨0,?_⟩;rw [← h];refine (zxs 0 s).trans ?_;simp only [R.get_br,R.get_ok,R.get_no] at h ⊢
  cases h1:decide (s.size < 4294967281) with
  | false=>rfl
  | true=>
   rw [h1] at h;simp only [z00] at h ⊢
   cases h2:decide ((z8w (zdo s)).size≤strMax) with
   | false=>rw [h2] at h; cases h
   | true=>
    simp only [z00];unfold z8p zmj;cases h3:(s.toList==z12.toList) with
    | true=>rfl
    | false=>
     cases h4:((z8w (zdo s)).toList==s.toList) with
     | true=>rfl
     | false=>rfl
 ·simp [R.get] at h
open Go
abbrev y92:ByteArray:=⟨#[113,117,101,114,121,32]⟩
abbrev ydl:ByteArray:=⟨#[109,111,100,101,108,10]⟩
def z4r (s:ByteArray):List IV:=cond (s.toList==z12.toList) [] ((z09 (z1s s zii) zii).map IV.str)
def z7d:z0u
 | [.str s]=>.br (decide (s.size < 4294967281)) (.ok (.list false [.str] (z4r s)) []) .no
 | _=>.no
def yfs (m:Md) (l:ByteArray):Bool:=y3b l&&(ydk l==m.d&&z6x m (zk0 l))
def y78 (i:Nat):ByteArray:=(y92++z0i (i:Int))++zii
def yej (i:Int):ByteArray:=(y92++z0i i)++zii
def z5e:z0u
 | [.str s,.int .u8 c]=>.ok (.int .i64 (Lib.indexByte s.data.toList c.toNat.toUInt8)) []
 | _=>.no
def zyz (l:List UInt8):Nat→Nat→Option Nat
 | 0,at_=>some at_
 | n+1,at_=>cond (decide (Lib.indexByte (l.drop at_) 10 < 0)) none (zyz l n (at_+(Lib.indexByte (l.drop at_) 10).toNat+1))
def zmw (s:ByteArray) (n:Int):Bool:=(zyz s.data.toList n.toNat 0).isSome
def yfh (s:ByteArray) (n:Int):Nat:=(zyz s.data.toList n.toNat 0).getD 0
def z8l (s:ByteArray) (n:Int):ByteArray:=cond (zmw s n) (s.extract 0 (yfh s n)) z12
def zsh (s:ByteArray) (n:Int):ByteArray:=cond (zmw s n) (s.extract (yfh s n) s.size) z12
def zc8:z0u
 | [.str s,.int .i64 n]=>.br (decide (s.size < 4294967281)) (.ok (.tup [.str (z8l s n),.str (zsh s n),.bool (zmw s n)]) []) .no
 | _=>.no
def zjq (s:ByteArray):List IV:=(z09 (z1s s zii) ydj).map IV.str
def zb3 (s:ByteArray):Int:=
 cond (!((zd2 (zjq s)).toList==zb4.toList)||!(ic (zjq s).length==3)) 1
  (cond (!(zlw (wAt (zjq s) 2))||(decide (z3w (wAt (zjq s) 2) < 0)||decide (z3w (wAt (zjq s) 2) > 65536))) 1 (zcj (1+z3w (wAt (zjq s) 2))))
def z8z:z0u
 | [.str s]=>.br (decide (s.size < 4294967281)) (.ok (.int .i64 (zb3 s)) []) .no
 | _=>.no
abbrev kVd:List Kd:=[.int .i64,.list true [.bool,.int .i64,.int .i64],.int .i64,.int .i64,.int .i64,.int .i64,.int .i64,.int .i64]
def Vd.I (v:Vd):IV:=.agg [.int v.kind,.list v.proof,.int v.w0,.int v.w1,.int v.w2,.int v.w3,.int v.twin,.int v.spent]
def vdI (x:IV):Vd:=⟨cI x 0,(x.cell 1).toList,cI x 2,cI x 3,cI x 4,cI x 5,cI x 6,cI x 7⟩
def z8y (s:ByteArray) (i:Nat):ByteArray:=z14 s (y78 i)
def y1c (s:ByteArray) (i:Nat):ByteArray:=z8l (z8y s i) (zb3 (z8l (z8y s i) 1))
def ycp (s:ByteArray) (i:Nat):ByteArray:=zsh (z8y s i) (zb3 (z8l (z8y s i) 1))
def yib (s:ByteArray) (i:Nat):Bool:=zdm s (y78 i)&&(zmw (z8y s i) 1&&(zmw (z8y s i) (zb3 (z8l (z8y s i) 1))&&zmj (y1c s i)))
def y8c:Nat→Nat→ByteArray→List IV→Option (List IV)
 | 0,_,_,_=>none
 | n+1,i,s,out=>cond (s.toList==z12.toList) (some out) (cond (yib s i) (y8c n (i+1) (ycp s i) (out++[(z8p (y1c s i)).I])) none)
def zxu (s:ByteArray):Option (List IV):=y8c (s.size+1) 0 s []
def z5h:z0u
 | [.str s]=>.br (decide (s.size < 4294967281)) (.br (zxu s).isSome (.ok (.tup [.list true kVd ((zxu s).getD []),.bool true]) []) (.ok (.tup [.list true kVd [],.bool false]) [])) .no
 | _=>.no
def zc5 (s:ByteArray) (i:Int):ByteArray:=z14 s (yej i)
def zfx (s:ByteArray) (i:Int):ByteArray:=z8l (zc5 s i) (zb3 (z8l (zc5 s i) 1))
def ydh (s:ByteArray) (i:Int):ByteArray:=zsh (zc5 s i) (zb3 (z8l (zc5 s i) 1))
def yfo (m:Md) (l:ByteArray) (v:Vd):Bool:=
 cond (yfs m l) (cond (v.kind==3) (v.spent==(zk0 l).bu)
   (cond (v.kind==1||v.kind==2) (decide (v.spent≥1)&&(decide (v.spent≤(zk0 l).bu)&&zrk m (zk0 l) v)) false))
  (v.kind==4&&v.spent==0)
def z5o:z0u
 | [m,.str l,v]=>zto m fun m=>ydt v fun v=>.br (decide (l.size < 4294967281)) (.ok (.bool (yfo m l v)) []) .no
 | _=>.no
def zz6 (m:Md):List IV→List IV→Bool
 | [],_=>true
 | v :: r,ls=>yfo m (ls.getD 0 default).toStr (vdI v)&&zz6 m r (ls.drop 1)
def y9o (a b r:ByteArray):Bool:=
 cond (zuf a) (match zxu r with
  | some vs=>ic vs.length==ic (z4r b).length&&zz6 (zj9 a) vs (z4r b)
  | none=>false) (r.toList==ydl.toList)
def z7c:z0u
 | [.str a,.str b,.str r]=>.br (decide (a.size < 4294967281)&&(decide (b.size < 4294967281)&&decide (r.size < 4294967281))) (.ok (.bool (y9o a b r)) []) .no
 | _=>.no
open Go Go.Proofs
theorem zmk:∀ (l:List UInt8) (c:UInt8),-1≤Lib.indexByte l c∧Lib.indexByte l c < l.length
 | [],_=>⟨by show (-1:Int) ≤ -1; omega,by show (-1:Int) < 0; omega⟩
 | b :: l,c=>by
  have ih:=zmk l c;unfold Lib.indexByte;rw [List.length_cons]
  split
  ·omega
  ·split
   ·omega
   ·omega
set_option maxRecDepth 100000 in
theorem zhg:z3c PR B0 102 z5e:=by
 intro w X γ vs xs r out hsp hg hx hR hV;unfold z5e at hsp;simp only at hsp
 split at hsp
 ·rename_i s c
  simp only [R.get,Option.some.injEq,Prod.mk.injEq] at hsp;obtain ⟨rfl,rfl⟩:=hsp;obtain ⟨x0,x1,rfl⟩:∃ x0 x1,xs=[x0,x1]:=by
   have:=hV.length
   simp at this
   match xs,this with
   | [a,b],_=>exact ⟨a,b,rfl⟩
  simp only [List.map_cons,List.map_nil,z7t,VRels,VRel,and_true] at hV;obtain ⟨⟨rfl,hs⟩,rfl,_⟩:=hV;refine z6g hR rfl rfl (Does.of_calls Tryz.func102 (by kernel_rfl) (by kernel_rfl) ((Tryz.strings_IndexByte s c w).mono ?_))
  rintro e w' ⟨rfl,rfl⟩
  refine ⟨_,rfl,Keep.refl _ _,fun O _=>?_⟩
  simp only [VRel];have hb:=zmk s.data.toList c.toNat.toUInt8;have hz:s.data.toList.length=s.size:=by rw [Array.length_toList]; rfl
  have e1:IntKind.i64.min = -9223372036854775808:=rfl;have e2:IntKind.i64.max=9223372036854775807:=rfl;unfold strMax at hs;exact ⟨by first | rfl | trivial,by omega,by omega⟩
 ·simp [R.get] at hsp
open Go Go.Proofs
def zsn (N:Nat):Env:=mkE [(46,z1a),(47,z1i)] [] 8 N
theorem zrd (N:Nat) (s:ByteArray):z1c (zsn N) zip [.tmp 2] [[.list false [.str]]] [(.str s)]=(cond (ByteArray.toList s==ByteArray.toList {data:=#[]}) (some ((.list false [.str] []),[])) (cond (decide (ByteArray.size (z1s s {data:=#[10]}) < 4294967281)&&decide (1≤ByteArray.size {data:=#[10]})) (some ((.list false [.str] (List.map IV.str (z09 (z1s s {data:=#[10]}) {data:=#[10]}))),[])) none)):=by kernel_rfl
def z4p (N:Nat):Env:=mkE [(102,z5e)] [(3,⟨[0,4,5,6,7,9,10],[],[]⟩)] 29 N
abbrev z32 (s0 s4 s5:ByteArray) (b6:Bool) (x7 x9 x10:Int):St:=⟨[(0,(.str s0)),(4,(.str s4)),(5,(.str s5)),(6,(.bool b6)),(7,(.int .i64 x7)),(9,(.int .i64 x9)),(10,(.int .i64 x10))],[]⟩
theorem y22 (N:Nat) (s:ByteArray) (n:Int):z1c (z4p N) z6n [.tmp 4,.tmp 5,.tmp 6] [[.str],[.str],[.bool]] [(.str s),(.int .i64 n)]=(lpE (z4p N) (z0p z6n [1,1,0,1,0,0]) ⟨[0,4,5,6,7,9,10],[],[]⟩ N (z32 s ({data:=#[]}) ({data:=#[]}) false 0 n 0) (z04 0 (kSq (z4p N) (z0p z6n [1,1,1]) (z3f (z4p N) none [(ResultVar.tmp 4),(ResultVar.tmp 5),(ResultVar.tmp 6)] [[.str],[.str],[.bool]])))):=by kernel_rfl
theorem ztr (N:Nat) (s0 s4 s5:ByteArray) (b6:Bool) (x7 x9 x10:Int) (again:St→Res) (k:Out→St→Res):rnd (z4p N) (z0p z6n [1,1,0,1,0,0]) (z32 s0 s4 s5 b6 x7 x9 x10) (z4t again ⟨[0,4,5,6,7,9,10],[],[]⟩ k)=(cond (decide (x10 < x9)) (cond (decide (0≤x7)&&decide (x7≤ic (ByteArray.size s0))) (cond (decide (Lib.indexByte (Array.toList (ByteArray.data (ByteArray.extract s0 (Int.toNat x7) (ByteArray.size s0)))) (Nat.toUInt8 (Int.toNat 10)) < 0)) (k .ret (z32 s0 ({data:=#[]}) ({data:=#[]}) false x7 x9 x10)) (again (z32 s0 s4 s5 b6 (IntKind.wrap IntKind.i64 (x7+IntKind.wrap IntKind.i64 (Lib.indexByte (Array.toList (ByteArray.data (ByteArray.extract s0 (Int.toNat x7) (ByteArray.size s0)))) (Nat.toUInt8 (Int.toNat 10))+1))) x9 (IntKind.wrap IntKind.i64 (x10+1))))) none) (k (.exit 0) (z32 s0 s4 s5 b6 x7 x9 x10))):=by kernel_rfl
theorem zpd (N:Nat) (s0 s4 s5:ByteArray) (b6:Bool) (x7 x9 x10:Int):(z04 0 (kSq (z4p N) (z0p z6n [1,1,1]) (z3f (z4p N) none [(ResultVar.tmp 4),(ResultVar.tmp 5),(ResultVar.tmp 6)] [[.str],[.str],[.bool]]))) (.exit 0) (z32 s0 s4 s5 b6 x7 x9 x10)=(cond (decide (0≤x7)&&decide (x7≤ic (ByteArray.size s0))) (cond (decide (0≤x7)&&decide (x7≤ic (ByteArray.size s0))) (some ((.tup [(.str (ByteArray.extract s0 0 (Int.toNat x7))),(.str (ByteArray.extract s0 (Int.toNat x7) (ByteArray.size s0))),(.bool true)]),[])) none) none):=by kernel_rfl
theorem zpe (N:Nat) (s0 s4 s5:ByteArray) (b6:Bool) (x7 x9 x10:Int):(z04 0 (kSq (z4p N) (z0p z6n [1,1,1]) (z3f (z4p N) none [(ResultVar.tmp 4),(ResultVar.tmp 5),(ResultVar.tmp 6)] [[.str],[.str],[.bool]]))) .ret (z32 s0 s4 s5 b6 x7 x9 x10)=(some ((.tup [(.str s4),(.str s5),(.bool b6)]),[])):=by kernel_rfl
def zvp (N:Nat):Env:=mkE [(90,z2k),(46,z1a),(47,z1i)] [] 37 N
theorem zu0 (N:Nat) (first:ByteArray):z1c (zvp N) zlm [.tmp 2] [[.int .i64]] [(.str first)]=(cond (decide (ByteArray.size (z1s first {data:=#[10]}) < 4294967281)&&decide (1≤ByteArray.size {data:=#[32]})) (cond (decide (0≤0)&&decide (0 < ic (List.length (List.map IV.str (z09 (z1s first {data:=#[10]}) {data:=#[32]}))))) (cond (!ByteArray.toList (IV.toStr (List.getD (List.map IV.str (z09 (z1s first {data:=#[10]}) {data:=#[32]})) (Int.toNat 0) default))==ByteArray.toList {data:=#[104,111,108,100,115]}) (some ((.int .i64 1),[])) (cond (ic (List.length (List.map IV.str (z09 (z1s first {data:=#[10]}) {data:=#[32]}))) != 3) (some ((.int .i64 1),[])) (cond (decide (0≤2)&&decide (2 < ic (List.length (List.map IV.str (z09 (z1s first {data:=#[10]}) {data:=#[32]}))))) (cond (!zlw (IV.toStr (List.getD (List.map IV.str (z09 (z1s first {data:=#[10]}) {data:=#[32]})) (Int.toNat 2) default))) (some ((.int .i64 1),[])) (cond (decide (z3w (IV.toStr (List.getD (List.map IV.str (z09 (z1s first {data:=#[10]}) {data:=#[32]})) (Int.toNat 2) default)) < 0)) (some ((.int .i64 1),[])) (cond (decide (z3w (IV.toStr (List.getD (List.map IV.str (z09 (z1s first {data:=#[10]}) {data:=#[32]})) (Int.toNat 2) default)) > 65536)) (some ((.int .i64 1),[])) (some ((.int .i64 (IntKind.wrap IntKind.i64 (1+z3w (IV.toStr (List.getD (List.map IV.str (z09 (z1s first {data:=#[10]}) {data:=#[32]})) (Int.toNat 2) default))))),[]))))) none))) none) none):=by kernel_rfl
def zp0 (N:Nat):Env:=mkE [(73,zc4),(26,z79),(65,z3k)] [] 66 N
theorem zn0 (N:Nat) (m:Md) (a1:ByteArray) (a2:Vd):z1c (zp0 N) zft [.tmp 6] [[.bool]] [(Md.V m),(.str a1),(Vd.V a2)]=(cond (decide (ByteArray.size a1 < 4294967281)) (cond (!y3b a1) (cond (Vd.kind a2==4) (some ((.bool (Vd.spent a2==0)),[])) (some ((.bool false),[]))) (cond (ydk a1 != Md.d m) (cond (Vd.kind a2==4) (some ((.bool (Vd.spent a2==0)),[])) (some ((.bool false),[]))) (cond (!z6x m (zk0 a1)) (cond (Vd.kind a2==4) (some ((.bool (Vd.spent a2==0)),[])) (some ((.bool false),[]))) (cond (Vd.kind a2==3) (some ((.bool (Vd.spent a2==Qy.bu (zk0 a1))),[])) (cond (Vd.kind a2==1) (cond (decide (Vd.spent a2≥1)) (cond (decide (Vd.spent a2≤Qy.bu (zk0 a1))) (some ((.bool (zrk m (zk0 a1) a2)),[])) (some ((.bool false),[]))) (some ((.bool false),[]))) (cond (Vd.kind a2==2) (cond (decide (Vd.spent a2≥1)) (cond (decide (Vd.spent a2≤Qy.bu (zk0 a1))) (some ((.bool (zrk m (zk0 a1) a2)),[])) (some ((.bool false),[]))) (some ((.bool false),[]))) (some ((.bool false),[])))))))) none):=by kernel_rfl
open Go
theorem zh0 (s:ByteArray):s.size=s.data.toList.length:=by rw [Array.length_toList]; rfl
open Go
def zg8 (n:Int):Prop := -9223372036854775808≤n∧n≤9223372036854775807
def ya5 (x:IV):Prop:=zg8 (z1q x)∧zg8 (ziz x)
structure Vd.rng (v:Vd):Prop where
 w0:zg8 v.w0
 w1:zg8 v.w1
 w2:zg8 v.w2
 w3:zg8 v.w3
 twin:zg8 v.twin
 spent:zg8 v.spent
 proof:∀ x∈v.proof,ya5 x
theorem y50:∀ (l:List IV) (s:ByteArray),(∀ x∈l,zg8 x.toInt)→(zpa s l).size≤s.size+22*l.length
 | [],s,_=>Nat.le_refl _
 | x :: l,s,h=>by
  rw [zpa];refine Nat.le_trans (y50 l _ (fun y hy=>h y (List.mem_cons_of_mem _ hy))) ?_
  have hx:=h x (List.mem_cons_self ..)
  have:=ze4 (n:=x.toInt) hx.1 hx.2
  rw [ByteArray.size_append,ByteArray.size_push,List.length_cons];omega
theorem zhs (s w:ByteArray) (l:List IV) (h:∀ x∈l,zg8 x.toInt):(z3g s w l).size≤s.size+w.size+22*l.length+1:=by
 unfold z3g
 have:=y50 l (s++w) h
 rw [ByteArray.size_append] at this;rw [ByteArray.size_push];omega
theorem zk2:∀ (l:List IV) (s:ByteArray),(∀ x∈l,ya5 x)→(z5v s l).size≤s.size+48*l.length
 | [],s,_=>Nat.le_refl _
 | x :: l,s,h=>by
  rw [z5v];refine Nat.le_trans (zk2 l _ (fun y hy=>h y (List.mem_cons_of_mem _ hy))) ?_
  have hx:=h x (List.mem_cons_self ..);rw [List.length_cons];cases zc1 x
  ·have:=zhs s y9b [.int (z1q x),.int (ziz x)] (fun y hy=>by
    simp only [List.mem_cons,List.mem_nil_iff,or_false] at hy;rcases hy with rfl | rfl
    ·exact hx.1
    ·exact hx.2)
   have e:y9b.size=3:=rfl;simp only [cond_false,List.length_cons,List.length_nil] at this ⊢
   omega
  ·have:=zhs s zz1 [] (fun y hy=>by cases hy)
   have e:zz1.size=3:=rfl;simp only [cond_true,List.length_nil] at this ⊢
   omega
open Go
theorem y2x {v:Vd} (h:v.right=true):v.proof.length≤65536:=by
 unfold Vd.right at h;simp only [Bool.and_eq_true,Bool.or_eq_true] at h;rcases h.2.2 with h1 | h1 | h1
 ·have:=h1.2.2
  unfold zsf at this;simp only [Bool.and_eq_true,decide_eq_true_eq] at this;exact this.2.1
 ·have:=h1.2
  cases hp:v.proof with
  | nil=>simp
  | cons a b=>rw [hp] at this; cases this
 ·have:=h1.2.2
  cases hp:v.proof with
  | nil=>simp
  | cons a b=>rw [hp] at this; cases this
theorem y32 {l:List Int} (h:∀ n∈l,zg8 n):∀ x∈l.map IV.int,zg8 x.toInt:=by
 intro x hx;obtain ⟨n,hn,rfl⟩:=List.mem_map.1 hx;exact h n hn
theorem yg8 {n:Nat} (h:n≤65536):zg8 (ic n):=by unfold zg8 ic; omega
theorem yaq {v:Vd} (hr:v.rng):(z8w v).size≤4000000:=by
 unfold z8w;cases h:v.right with
 | false=>simp only [cond_false]; decide
 | true=>
  simp only [cond_true];have hp:=y2x h;cases v.kind==1 with
  | true=>
   simp only [cond_true];have h1:=zk2 v.proof (z3g z12 zb4 [.int v.spent,.int (ic v.proof.length)]) hr.proof;have h2:=zhs z12 zb4 [.int v.spent,.int (ic v.proof.length)] (y32 (l:=[v.spent,ic v.proof.length]) (by
    intro n hn;simp only [List.mem_cons,List.mem_nil_iff,or_false] at hn;rcases hn with rfl | rfl
    ·exact hr.spent
    ·exact yg8 hp))
   have e1:z12.size=0:=rfl;have e2:zb4.size=5:=rfl;simp only [List.length_cons,List.length_nil] at h2;omega
  | false=>
   simp only [cond_false];cases v.kind==2 with
   | true=>
    simp only [cond_true];have h2:=zhs z12 znd [.int v.spent,.int v.w0,.int v.w1,.int v.w2,.int v.w3,.int v.twin] (y32 (l:=[v.spent,v.w0,v.w1,v.w2,v.w3,v.twin]) (by
     intro n hn;simp only [List.mem_cons,List.mem_nil_iff,or_false] at hn;rcases hn with rfl | rfl | rfl | rfl | rfl | rfl
     ·exact hr.spent
     ·exact hr.w0
     ·exact hr.w1
     ·exact hr.w2
     ·exact hr.w3
     ·exact hr.twin))
    have e1:z12.size=0:=rfl;have e2:znd.size=5:=rfl;simp only [List.length_cons,List.length_nil] at h2;omega
   | false=>
    simp only [cond_false];have hs:∀ x∈[IV.int v.spent],zg8 x.toInt:=y32 (l:=[v.spent]) (by
     intro n hn;simp only [List.mem_cons,List.mem_nil_iff,or_false] at hn;subst hn;exact hr.spent)
    have e1:z12.size=0:=rfl;cases v.kind==3 with
    | true=>
     simp only [cond_true];have h2:=zhs z12 ze2 [.int v.spent] hs;have e2:ze2.size=7:=rfl;simp only [List.length_cons,List.length_nil] at h2;omega
    | false=>
     simp only [cond_false];have h2:=zhs z12 znk [.int v.spent] hs;have e2:znk.size=5:=rfl;simp only [List.length_cons,List.length_nil] at h2;omega
theorem z4b (l:List IV) (i:Int):zg8 (z1r l i):=by
 unfold z1r;cases decide (ic l.length≤i) with
 | true=>simp only [cond_true]; unfold zg8; omega
 | false=>
  simp only [cond_false]
  have:=zq2 (l.getD i.toNat default).toStr
  exact this
theorem z4a:zg8 0:=⟨by decide,by decide⟩
theorem y4d (s:ByteArray):ya5 (zpi s):=by
 unfold zpi;cases ((zd2 (z6a s)).toList==zz1.toList) with
 | true=>exact ⟨z4a,z4a⟩
 | false=>exact ⟨z4b _ _,z4b _ _⟩
theorem zoa:∀ (m:Nat) (s:ByteArray) (p:List IV),(∀ x∈p,ya5 x)→∀ x∈zdt m s p,ya5 x
 | 0,_,_,h=>h
 | m+1,s,p,h=>by
  unfold zdt;cases (!(s.toList==z12.toList)&&decide (p.length≤65536)) with
  | false=>exact h
  | true=>
   simp only [cond_true];refine zoa m _ _ (fun x hx=>?_)
   rcases List.mem_append.1 hx with h1 | h1
   ·exact h x h1
   ·rw [List.mem_singleton.1 h1]
    exact y4d s
theorem yb1 (s:ByteArray):(zdo s).rng:=by
 unfold zdo;cases ((zd2 (z6a s)).toList==zb4.toList) with
 | true=>exact ⟨z4a,z4a,z4a,z4a,z4a,z4b _ _,zoa _ _ _ (fun x hx=>by cases hx)⟩
 | false=>
  cases ((zd2 (z6a s)).toList==znd.toList) with
  | true=>exact ⟨z4b _ _,z4b _ _,z4b _ _,z4b _ _,z4b _ _,z4b _ _,fun x hx=>by cases hx⟩
  | false=>
   cases ((zd2 (z6a s)).toList==ze2.toList) with
   | true=>exact ⟨z4a,z4a,z4a,z4a,z4a,z4b _ _,fun x hx=>by cases hx⟩
   | false=>
    cases ((zd2 (z6a s)).toList==znk.toList) with
    | true=>exact ⟨z4a,z4a,z4a,z4a,z4a,z4b _ _,fun x hx=>by cases hx⟩
    | false=>exact ⟨z4a,z4a,z4a,z4a,z4a,z4b _ _,fun x hx=>by cases hx⟩
open Go
theorem zk7 {x y:IV}:yhj x y=true↔zc1 x=zc1 y∧z1q x=z1q y∧ziz x=ziz y:=by simp [yhj]
theorem zuv:∀ {l m:List IV},zj6 l m=true→zj6 m l=true
 | [],[],_=>rfl
 | [],_ :: _,h=>by simp [zj6] at h
 | _ :: _,[],h=>by simp [zj6] at h
 | x :: l,y :: m,h=>by
  simp only [zj6,Bool.and_eq_true] at h ⊢
  obtain ⟨h1,h2,h3⟩:=zk7.1 h.1;exact ⟨zk7.2 ⟨h1.symm,h2.symm,h3.symm⟩,zuv h.2⟩
theorem zps:∀ {l m n:List IV},zj6 l m=true→zj6 m n=true→zj6 l n=true
 | [],[],[],_,_=>rfl
 | [],[],_ :: _,_,h=>by simp [zj6] at h
 | [],_ :: _,_,h,_=>by simp [zj6] at h
 | _ :: _,[],_,h,_=>by simp [zj6] at h
 | _ :: _,_ :: _,[],_,h=>by simp [zj6] at h
 | x :: l,y :: m,z :: n,h,k=>by
  simp only [zj6,Bool.and_eq_true] at h k ⊢
  obtain ⟨h1,h2,h3⟩:=zk7.1 h.1;obtain ⟨k1,k2,k3⟩:=zk7.1 k.1;exact ⟨zk7.2 ⟨h1.trans k1,h2.trans k2,h3.trans k3⟩,zps h.2 k.2⟩
structure VSame (a b:Vd):Prop where
 kind:a.kind=b.kind
 proof:zj6 a.proof b.proof=true
 w0:a.w0=b.w0
 w1:a.w1=b.w1
 w2:a.w2=b.w2
 w3:a.w3=b.w3
 twin:a.twin=b.twin
 spent:a.spent=b.spent
theorem VSame.symm {a b:Vd} (h:VSame a b):VSame b a:=⟨h.kind.symm,zuv h.proof,h.w0.symm,h.w1.symm,h.w2.symm,h.w3.symm,h.twin.symm,h.spent.symm⟩
theorem VSame.trans {a b c:Vd} (h:VSame a b) (k:VSame b c):VSame a c:=⟨h.kind.trans k.kind,zps h.proof k.proof,h.w0.trans k.w0,h.w1.trans k.w1,h.w2.trans k.w2,h.w3.trans k.w3,h.twin.trans k.twin,h.spent.trans k.spent⟩
open Go
open Go
open Go
theorem yc1 (i:Nat):0 < (y78 i).size:=by
 unfold y78;rw [ByteArray.size_append];show 0 < _+1;omega
open Go
open Go
open Go Go.Proofs
set_option maxRecDepth 100000 in
theorem zp1:z3c PR B0 31 z7d:=by
 refine z0m [(46,z1a),(47,z1i)] [] z7d [[.list false [.str]]] Tryz.func31 zsw ⟨z3v,z62,trivial⟩ ?_;intro vs r hwf h;unfold z7d at h
 split at h
 ·rename_i s
  cases hg:(decide (s.size < 4294967281)) with
  | false=>rw [hg] at h; simp [R.get] at h
  | true=>
  rw [hg,R.get_br,z00,R.get_ok] at h;refine ⟨0,(zrd 0 s).trans ?_⟩;have hz:=of_decide_eq_true hg;have ht:=ze3 s zii;rw [show decide (1≤ByteArray.size { data:=#[10] })=true from rfl,Bool.and_true,decide_eq_true (show (z1s s { data:=#[10] }).size < 4294967281 by exact Nat.lt_of_le_of_lt ht hz),z00,← h]
  unfold z4r;cases (s.toList==z12.toList) <;> rfl
 ·simp [R.get] at h
theorem y3g {s sep:ByteArray} {n:Nat} (h:s.size < n):∀ x∈z09 s sep,x.size < n:=fun x hx=>by
 have:=(z6f sep _ s).2 x hx
 omega
theorem y33 {s:ByteArray} {n:Nat} (h:s.size < n):∀ x∈z4r s,x.toStr.size < n:=by
 intro x hx;unfold z4r at hx;cases he:(s.toList==z12.toList) with
 | true=>rw [he,z00] at hx; cases hx
 | false=>
  rw [he,z02] at hx;obtain ⟨y,hy,rfl⟩:=List.mem_map.1 hx;have ht:=ze3 s zii;exact y3g (Nat.lt_of_le_of_lt ht h) y hy
theorem ybt (s:ByteArray) (a:Nat):(s.extract a s.size).data.toList=s.data.toList.drop a:=by
 rw [ByteArray.data_extract,Array.toList_extract,List.extract_eq_take_drop];exact List.take_of_length_le (by rw [List.length_drop,zh0]; omega)
def yde (s:ByteArray):Option Nat→Res
 | some e=>some (.tup [.str (s.extract 0 e),.str (s.extract e s.size),.bool true],[])
 | none=>some (.tup [.str z12,.str z12,.bool false],[])
theorem y4r (N:Nat) (s:ByteArray) (n:Int) (hs:s.size < 4294967281) (K:Out→St→Res)
  (hx:∀ at_ x,K (.exit 0) (z32 s z12 z12 false at_ n x)=cond (decide (0≤at_)&&decide (at_≤ic s.size)) (cond (decide (0≤at_)&&decide (at_≤ic s.size)) (some (.tup [.str (s.extract 0 at_.toNat),.str (s.extract at_.toNat s.size),.bool true],[])) none) none)
  (hr:∀ at_ x,K .ret (z32 s z12 z12 false at_ n x)=some (.tup [.str z12,.str z12,.bool false],[])) :
  ∀ (f d at_ i:Nat),at_+d=s.size→d < f→i≤at_ →
   lpE (z4p N) (z0p z6n [1,1,0,1,0,0]) ⟨[0,4,5,6,7,9,10],[],[]⟩ f (z32 s z12 z12 false (at_:Int) n (i:Int)) K=yde s (zyz s.data.toList (n - i).toNat at_)
 | f+1,d,at_,i,hd,hf,hi=>by
  have hin:(decide (0≤((at_:Nat):Int))&&decide (((at_:Nat):Int)≤ic s.size))=true:=by
   rw [decide_eq_true (show 0≤((at_:Nat):Int) by omega),decide_eq_true (show ((at_:Nat):Int)≤ic s.size by simp only [ic]; omega)]
   rfl
  rw [z05,ztr]
  by_cases hn:((i:Nat):Int) < n
  ·rw [decide_eq_true hn,z00,hin,z00,Int.toNat_natCast,ybt]
   rw [show (Nat.toUInt8 (Int.toNat 10))=(10:UInt8) from rfl]
   have hb:=zmk (s.data.toList.drop at_) 10;rw [List.length_drop,← zh0] at hb;obtain ⟨k,hk⟩:∃ k,(n - i).toNat=k+1:=⟨(n - i).toNat - 1,by omega⟩
   rw [hk,zyz];cases hc:decide (Lib.indexByte (s.data.toList.drop at_) 10 < 0) with
   | true=>
    rw [z00,z00];exact hr _ _
   | false=>
    rw [z02,z02];have h0:=of_decide_eq_false hc;obtain ⟨j,hj⟩:∃ j:Nat,Lib.indexByte (s.data.toList.drop at_) 10=(j:Int):=⟨(Lib.indexByte (s.data.toList.drop at_) 10).toNat,by omega⟩
    rw [hj] at hb ⊢
    have w1:IntKind.wrap IntKind.i64 ((j:Int)+1)=(j:Int)+1:=z1d (by omega) (by omega)
    have w2:IntKind.wrap IntKind.i64 ((at_:Int)+((j:Int)+1))=((at_+j+1:Nat):Int):=by
     rw [show (at_:Int)+((j:Int)+1)=((at_+j+1:Nat):Int) by omega]
     exact z1d (by omega) (by omega)
    have w3:IntKind.wrap IntKind.i64 ((i:Int)+1)=((i+1:Nat):Int):=by
     rw [show (i:Int)+1=((i+1:Nat):Int) by omega]
     exact z1d (by omega) (by omega)
    rw [w1,w2,w3,Int.toNat_natCast];have ih:=y4r N s n hs K hx hr f (s.size - (at_+j+1)) (at_+j+1) (i+1) (by omega) (by omega) (by omega)
    rw [ih]
    have:(n - ((i+1:Nat):Int)).toNat=k:=by omega
    rw [this]
  ·rw [decide_eq_false hn,z02,show (n - i).toNat=0 by omega,zyz,hx,hin,z00,z00,Int.toNat_natCast]
   rfl
 | 0,d,at_,i,_,hf,_=>by omega
theorem yf0 (s:ByteArray) (n:Int):yde s (zyz s.data.toList n.toNat 0)=some (.tup [.str (z8l s n),.str (zsh s n),.bool (zmw s n)],[]):=by
 unfold z8l zsh zmw yfh;cases zyz s.data.toList n.toNat 0 <;> rfl
set_option maxRecDepth 100000 in
theorem zwn:z3c PR B0 58 zc8:=by
 refine z0m [(102,z5e)] [(3,⟨[0,4,5,6,7,9,10],[],[]⟩)] zc8 [[.str],[.str],[.bool]] Tryz.func58 y3y ⟨zhg,trivial⟩ ?_;intro vs r hwf h;unfold zc8 at h
 split at h
 ·rename_i s n
  cases hg:(decide (s.size < 4294967281)) with
  | false=>rw [hg] at h; simp [R.get] at h
  | true=>
  rw [hg,R.get_br,z00,R.get_ok] at h;refine ⟨s.size+1,(y22 _ s n).trans ?_⟩
  have:=y4r (s.size+1) s n (of_decide_eq_true hg) _ (fun a x=>zpd (s.size+1) s z12 z12 false a n x) (fun a x=>zpe (s.size+1) s z12 z12 false a n x) (s.size+1) s.size 0 0 (by omega) (by omega) (by omega)
  refine this.trans ?_;rw [show (n - ((0:Nat):Int)).toNat=n.toNat by omega,yf0,← h]
 ·simp [R.get] at h
set_option maxRecDepth 100000 in
theorem zre:z3c PR B0 59 z8z:=by
 refine z0m [(90,z2k),(46,z1a),(47,z1i)] [] z8z [[.int .i64]] Tryz.func59 zvv ⟨z7o,z3v,z62,trivial⟩ ?_;intro vs r hwf h;unfold z8z at h
 split at h
 ·rename_i s
  cases hg:(decide (s.size < 4294967281)) with
  | false=>rw [hg] at h; simp [R.get] at h
  | true=>
  rw [hg,R.get_br,z00,R.get_ok] at h;refine ⟨0,(zu0 0 s).trans ?_⟩;have hz:=of_decide_eq_true hg;have ht:=ze3 s zii;rw [show decide (1≤ByteArray.size { data:=#[32] })=true from rfl,Bool.and_true,decide_eq_true (show (z1s s { data:=#[10] }).size < 4294967281 by exact Nat.lt_of_le_of_lt ht hz),z00]
  rw [zms,show (decide ((0:Nat)≤0)&&true)=true from rfl,z00,← h]
  show _=(some (V.int .i64 (zb3 s),[]):Res);unfold zb3 zd2 wAt zjq;rw [show Int.toNat 0=0 from rfl,show Int.toNat 2=2 from rfl]
  generalize hL:List.map IV.str (z09 (z1s s zii) ydj)=L;cases ((L.getD 0 default).toStr.toList==zb4.toList)
  ·rfl
  cases h3:(ic L.length==3) with
  | false=>
   rw [show (ic L.length != 3)=!(ic L.length==3) from rfl,h3]
   rfl
  | true=>
   rw [show (ic L.length != 3)=!(ic L.length==3) from rfl,h3]
   have e3:ic L.length=3:=by simpa using h3
   rw [e3,show (decide ((0:Nat)≤2)&&decide ((2:Int) < 3))=true from rfl]
   simp only [Bool.not_true,Bool.or_self,z02,z00];cases zlw (L.getD 2 default).toStr
   ·rfl
   cases decide (z3w (L.getD 2 default).toStr < 0)
   ·cases decide (z3w (L.getD 2 default).toStr > 65536) <;> rfl
   ·rfl
 ·simp [R.get] at h
set_option maxRecDepth 100000 in
theorem zkp:z3c PR B0 72 z5o:=by
 refine z0m [(73,zc4),(26,z79),(65,z3k)] [] z5o [[.bool]] Tryz.func72 zpf ⟨zxg,zp5,zbx,trivial⟩ ?_;intro vs r hwf h;unfold z5o at h
 split at h
 ·rename_i m l v
  replace h:=z97 h;obtain ⟨m,rfl,h⟩:=h;replace h:=zzi h;obtain ⟨v,rfl,h⟩:=h;cases hg:(decide (l.size < 4294967281)) with
  | false=>rw [hg] at h; simp [R.get] at h
  | true=>
  rw [hg,R.get_br,z00,R.get_ok] at h;refine ⟨0,(zn0 0 m l v).trans ?_⟩;rw [hg,z00,← h];unfold yfo yfs;rw [show (ydk l != m.d)=!(ydk l==m.d) from rfl]
  have hw:(cond (v.kind==4) (some (V.bool (v.spent==0),[])) (some (V.bool false,[])):Res)=some (V.bool (v.kind==4&&v.spent==0),[]):=by cases v.kind==4 <;> rfl
  cases y3b l
  ·exact hw
  cases (ydk l==m.d)
  ·exact hw
  cases z6x m (zk0 l)
  ·exact hw
  simp only [Bool.not_true,z02,z00,Bool.and_self];cases v.kind==3
  ·cases v.kind==1 <;> cases v.kind==2 <;> cases decide (v.spent≥1) <;> cases decide (v.spent≤(zk0 l).bu) <;> rfl
  ·rfl
 ·simp [R.get] at h
open Go Go.Proofs
def z33 (N:Nat):Env:=mkE [(58,zc8),(59,z8z),(23,zav),(43,z2j),(57,z2w)] [(3,⟨[0,2,3,4,5],[56],[⟨.tmp 4,56,55,true,kVd⟩]⟩)] 59 N
abbrev z1l (s0:ByteArray) (b3:Bool) (n4:Nat) (x5:Int) (lo56:List IV):St:=⟨[(0,(.str s0)),(2,.zs),(3,(.bool b3)),(4,(.row 56 0 n4)),(5,(.int .i64 x5))],[(56,(some (.row true 55 true [(.int .i64),(.list true z4v),(.int .i64),(.int .i64),(.int .i64),(.int .i64),(.int .i64),(.int .i64)] lo56)))]⟩
theorem zt6 (N:Nat) (report:ByteArray):z1c (z33 N) z4j [.tmp 2,.tmp 3] [[.list true [.int .i64,.list true [.bool,.int .i64,.int .i64],.int .i64,.int .i64,.int .i64,.int .i64,.int .i64,.int .i64]],[.bool]] [(.str report)]=(lpE (z33 N) (z0p z4j [1,1,0,1,0,0]) ⟨[0,2,3,4,5],[56],[⟨(.tmp 4),56,55,true,[(.int .i64),(.list true z4v),(.int .i64),(.int .i64),(.int .i64),(.int .i64),(.int .i64),(.int .i64)]⟩]⟩ N (z1l report false 0 0 []) (z04 0 (kSq (z33 N) (z0p z4j [1,1,1]) (z3f (z33 N) none [(ResultVar.tmp 2),(ResultVar.tmp 3)] [[(.list true [(.int .i64),(.list true z4v),(.int .i64),(.int .i64),(.int .i64),(.int .i64),(.int .i64),(.int .i64)])],[.bool]])))):=by kernel_rfl
theorem zp3 (N:Nat) (s0:ByteArray) (b3:Bool) (n4:Nat) (x5:Int) (lo56:List IV) (again:St→Res) (k:Out→St→Res):rnd (z33 N) (z0p z4j [1,1,0,1,0,0]) (z1l s0 b3 n4 x5 lo56) (z4t again ⟨[0,2,3,4,5],[56],[⟨(.tmp 4),56,55,true,[(.int .i64),(.list true z4v),(.int .i64),(.int .i64),(.int .i64),(.int .i64),(.int .i64),(.int .i64)]⟩]⟩ k)=(cond (!ByteArray.toList s0==ByteArray.toList {data:=#[]}) (cond (decide (ByteArray.size {data:=#[113,117,101,114,121,32]}+ByteArray.size (z0i x5)≤strMax)) (cond (decide (ByteArray.size ({data:=#[113,117,101,114,121,32]}++z0i x5)+ByteArray.size {data:=#[10]}≤strMax)) (cond (!zdm s0 (yej x5)) (k .ret (z1l s0 false n4 x5 lo56)) (cond (decide (ByteArray.size (zc5 s0 x5) < 4294967281)) (cond (!zmw (zc5 s0 x5) 1) (k .ret (z1l s0 false n4 x5 lo56)) (cond (decide (ByteArray.size (z8l (zc5 s0 x5) 1) < 4294967281)) (cond (decide (ByteArray.size (zc5 s0 x5) < 4294967281)) (cond (!zmw (zc5 s0 x5) (zb3 (z8l (zc5 s0 x5) 1))) (k .ret (z1l s0 false n4 x5 lo56)) (cond (decide (ByteArray.size (zfx s0 x5) < 4294967281)) (cond (decide (ByteArray.size (z8w (zdo (zfx s0 x5)))≤strMax)) (cond (!zmj (zfx s0 x5)) (k .ret (z1l s0 false n4 x5 lo56)) (cond (decide ((n4+1)*80≤z0e)) (again (z1l (ydh s0 x5) b3 (n4+1) (IntKind.wrap IntKind.i64 (x5+1)) (List.take n4 lo56++[IV.agg [IV.int (Vd.kind (z8p (zfx s0 x5))),IV.list (Vd.proof (z8p (zfx s0 x5))),IV.int (Vd.w0 (z8p (zfx s0 x5))),IV.int (Vd.w1 (z8p (zfx s0 x5))),IV.int (Vd.w2 (z8p (zfx s0 x5))),IV.int (Vd.w3 (z8p (zfx s0 x5))),IV.int (Vd.twin (z8p (zfx s0 x5))),IV.int (Vd.spent (z8p (zfx s0 x5)))]]))) none)) none) none)) none) none)) none)) none) none) (k (.exit 0) (z1l s0 b3 n4 x5 lo56))):=by kernel_rfl
theorem zko (N:Nat) (s0:ByteArray) (b3:Bool) (n4:Nat) (x5:Int) (lo56:List IV):(z04 0 (kSq (z33 N) (z0p z4j [1,1,1]) (z3f (z33 N) none [(ResultVar.tmp 2),(ResultVar.tmp 3)] [[(.list true [(.int .i64),(.list true z4v),(.int .i64),(.int .i64),(.int .i64),(.int .i64),(.int .i64),(.int .i64)])],[.bool]]))) (.exit 0) (z1l s0 b3 n4 x5 lo56)=(some ((.tup [(.list true [(.int .i64),(.list true z4v),(.int .i64),(.int .i64),(.int .i64),(.int .i64),(.int .i64),(.int .i64)] (List.drop 0 (List.take n4 lo56))),(.bool true)]),[])):=by kernel_rfl
theorem zkl (N:Nat) (s0:ByteArray) (b3:Bool) (n4:Nat) (x5:Int) (lo56:List IV):(z04 0 (kSq (z33 N) (z0p z4j [1,1,1]) (z3f (z33 N) none [(ResultVar.tmp 2),(ResultVar.tmp 3)] [[(.list true [(.int .i64),(.list true z4v),(.int .i64),(.int .i64),(.int .i64),(.int .i64),(.int .i64),(.int .i64)])],[.bool]]))) .ret (z1l s0 b3 n4 x5 lo56)=(some ((.tup [(.list true [(.int .i64),(.list true z4v),(.int .i64),(.int .i64),(.int .i64),(.int .i64),(.int .i64),(.int .i64)] []),(.bool b3)]),[])):=by kernel_rfl
def z2i (N:Nat):Env:=mkE [(21,z5h),(72,z5o),(31,z7d),(19,za5)] [(9,⟨[6,7,10,38,39,40],[7],[]⟩)] 54 N
abbrev z27 (model:ByteArray) (b6:Bool) (l10 l38:List IV) (x39 x40:Int):St:=⟨[(6,(.bool b6)),(7,(.ptr 7 0 0)),(10,(.list false [.str] l10)),(38,(.list true [(.int .i64),(.list true z4v),(.int .i64),(.int .i64),(.int .i64),(.int .i64),(.int .i64),(.int .i64)] l38)),(39,(.int .i64 x39)),(40,(.int .i64 x40))],[(7,(some (.box (Md.cs (zj9 model)))))]⟩
theorem zr4 (N:Nat) (model queries report:ByteArray):z1c (z2i N) z3n [.tmp 6] [[.bool]] [(.str model),(.str queries),(.str report)]=(cond (decide (ByteArray.size model < 4294967281)) (cond (!zuf model) (some ((.bool (ByteArray.toList report==ByteArray.toList {data:=#[109,111,100,101,108,10]})),[])) (cond (decide (ByteArray.size report < 4294967281)) (cond (Option.isSome (zxu report)) (cond (decide (ByteArray.size queries < 4294967281)) (cond (ic (List.length (Option.getD (zxu report) [])) != ic (List.length (z4r queries))) (some ((.bool false),[])) (lpE (z2i N) (z0p z3n [1,1,1,1,1,1,0,1,0,0]) ⟨[6,7,10,38,39,40],[7],[]⟩ N (z27 model false (z4r queries) (Option.getD (zxu report) []) (ic (List.length (Option.getD (zxu report) []))) 0) (z04 0 (kSq (z2i N) (z0p z3n [1,1,1,1,1,1,1]) (z3f (z2i N) none [(ResultVar.tmp 6)] [[.bool]]))))) none) (cond (decide (ByteArray.size queries < 4294967281)) (some ((.bool false),[])) none)) none)) none):=by kernel_rfl
theorem zdy (N:Nat) (model:ByteArray) (b6:Bool) (l10 l38:List IV) (x39 x40:Int) (again:St→Res) (k:Out→St→Res):rnd (z2i N) (z0p z3n [1,1,1,1,1,1,0,1,0,0]) (z27 model b6 l10 l38 x39 x40) (z4t again ⟨[6,7,10,38,39,40],[7],[]⟩ k)=(cond (decide (x40 < x39)) (cond (decide (0≤x40)&&decide (x40 < ic (List.length l38))) (cond (decide (0≤x40)&&decide (x40 < ic (List.length l10))) (cond (decide (ByteArray.size (IV.toStr (List.getD l10 (Int.toNat x40) default)) < 4294967281)) (cond (!yfo (zj9 model) (IV.toStr (List.getD l10 (Int.toNat x40) default)) (vdI (List.getD l38 (Int.toNat x40) default))) (k .ret (z27 model false l10 l38 x39 x40)) (again (z27 model b6 l10 l38 x39 (IntKind.wrap IntKind.i64 (x40+1))))) none) none) none) (k (.exit 0) (z27 model b6 l10 l38 x39 x40))):=by kernel_rfl
theorem zjy (N:Nat) (model:ByteArray) (b6:Bool) (l10 l38:List IV) (x39 x40:Int):(z04 0 (kSq (z2i N) (z0p z3n [1,1,1,1,1,1,1]) (z3f (z2i N) none [(ResultVar.tmp 6)] [[.bool]]))) (.exit 0) (z27 model b6 l10 l38 x39 x40)=(some ((.bool true),[])):=by kernel_rfl
theorem zjs (N:Nat) (model:ByteArray) (b6:Bool) (l10 l38:List IV) (x39 x40:Int):(z04 0 (kSq (z2i N) (z0p z3n [1,1,1,1,1,1,1]) (z3f (z2i N) none [(ResultVar.tmp 6)] [[.bool]]))) .ret (z27 model b6 l10 l38 x39 x40)=(some ((.bool b6),[])):=by kernel_rfl
open Go Go.Proofs
theorem yd2 (s:ByteArray) (n:Int):(z8l s n).size≤s.size:=by
 unfold z8l;cases zmw s n with
 | true=>rw [z00,ByteArray.size_extract]; omega
 | false=>exact Nat.zero_le _
theorem yfx (s:ByteArray) (n:Int):(zsh s n).size≤s.size:=by
 unfold zsh;cases zmw s n with
 | true=>rw [z00,ByteArray.size_extract]; omega
 | false=>exact Nat.zero_le _
theorem yf1 {s p:ByteArray} (h:zdm s p=true) (hp:0 < p.size):(z14 s p).size < s.size:=by
 have h1:Lib.hasPrefix s.data.toList p.data.toList=true:=h;have h2:p.data.toList.length≤s.data.toList.length:=by
  unfold Lib.hasPrefix at h1;rw [List.isPrefixOf_iff_prefix] at h1;exact h1.length_le
 have e:(z14 s p).size=s.data.toList.length - p.data.toList.length:=by
  unfold z14 Lib.trimPrefix;rw [if_pos h1];show (List.toArray _).size=_;rw [List.size_toArray,List.length_drop]
 rw [zh0] at hp ⊢
 rw [← zh0,e,zh0];omega
def yfc:Option (List IV)→Res
 | some l=>some (.tup [.list true kVd l,.bool true],[])
 | none=>some (.tup [.list true kVd [],.bool false],[])
theorem y74 (i:Nat) (h:i≤9223372036854775807):(z0i (i:Int)).size≤21:=ze4 (by show -9223372036854775808≤_; omega) (by show _≤(9223372036854775807:Int); omega)
theorem zuo (N:Nat) (K:Out→St→Res)
  (hx:∀ s x O,K (.exit 0) (z1l s false O.length x O)=some (.tup [.list true kVd (List.drop 0 (List.take O.length O)),.bool true],[]))
  (hr:∀ s x O n,K .ret (z1l s false n x O)=some (.tup [.list true kVd [],.bool false],[])) :
  ∀ (m n:Nat) (s:ByteArray) (i:Nat) (O:List IV),s.size < m→m≤n→s.size < 4294967281→i+s.size≤4294967281→O.length=i →
   lpE (z33 N) (z0p z4j [1,1,0,1,0,0]) ⟨[0,2,3,4,5],[56],[⟨(.tmp 4),56,55,true,kVd⟩]⟩ n (z1l s false O.length (i:Int) O) K=yfc (y8c m i s O)
 | m+1,n+1,s,i,O,hm,hn,hs,hi,hO=>by
  rw [z05,zp3,y8c];cases h0:(s.toList==z12.toList) with
  | true=>
   rw [Bool.not_true,z02,z00,hx,List.drop_zero,List.take_length]
   rfl
  | false=>
   have hit:=y74 i (by omega)
   have e1:ByteArray.size { data:=#[113,117,101,114,121,32] }=6:=rfl;have e2:ByteArray.size { data:=#[10] }=1:=rfl;rw [Bool.not_false,z00,z02];rw [decide_eq_true (show ByteArray.size { data:=#[113,117,101,114,121,32] }+(z0i (i:Int)).size≤strMax by unfold strMax; omega),z00]
   rw [decide_eq_true (show ByteArray.size ({ data:=#[113,117,101,114,121,32] }++z0i (i:Int))+ByteArray.size { data:=#[10] }≤strMax by rw [ByteArray.size_append]; unfold strMax; omega),z00]
   unfold yib;rw [show yej (i:Int)=y78 i from rfl]
   cases hp:zdm s (y78 i) with
   | false=>
    rw [Bool.not_false,z00,Bool.false_and,z02,hr]
    rfl
   | true=>
    have hlt:(z8y s i).size < s.size:=yf1 hp (yc1 i);have ho1:=yd2 (z8y s i) 1;have ho2:=yd2 (z8y s i) (zb3 (z8l (z8y s i) 1));have hb2:=yfx (z8y s i) (zb3 (z8l (z8y s i) 1));rw [Bool.not_true,z02,Bool.true_and];rw [show zc5 s (i:Int)=z8y s i from rfl,show zfx s (i:Int)=y1c s i from rfl,show ydh s (i:Int)=ycp s i from rfl]
    rw [decide_eq_true (show (z8y s i).size < 4294967281 by omega),z00]
    cases hc1:zmw (z8y s i) 1 with
    | false=>
     rw [Bool.not_false,z00,Bool.false_and,z02,hr]
     rfl
    | true=>
     rw [Bool.not_true,z02,Bool.true_and,decide_eq_true (show (z8l (z8y s i) 1).size < 4294967281 by omega),z00,z00]
     cases hc2:zmw (z8y s i) (zb3 (z8l (z8y s i) 1)) with
     | false=>
      rw [Bool.not_false,z00,Bool.false_and,z02,hr]
      rfl
     | true=>
      have hpz:=yaq (yb1 (y1c s i));rw [Bool.not_true,z02,Bool.true_and,decide_eq_true (show (y1c s i).size < 4294967281 by show (z8l _ _).size < _; omega),z00,decide_eq_true (show (z8w (zdo (y1c s i))).size≤strMax by unfold strMax; omega),z00]
      cases hc3:zmj (y1c s i) with
      | false=>
       rw [Bool.not_false,z00,z02,hr]
       rfl
      | true=>
       rw [Bool.not_true,z02,z00,decide_eq_true (show (O.length+1)*80≤z0e by unfold z0e; omega),z00,List.take_length,zdi (by omega)]
       have hsz:(ycp s i).size < s.size:=Nat.lt_of_le_of_lt hb2 hlt;have ih:=zuo N K hx hr m n (ycp s i) (i+1) (O++[(z8p (y1c s i)).I]) (by omega) (by omega) (by omega) (by omega) (by rw [List.length_append]; simp; omega)
       rw [← ih,List.length_append]
       rfl
 | 0,_,_,_,_,h,_,_,_,_=>by omega
 | _+1,0,_,_,_,_,h,_,_,_=>by omega
set_option maxRecDepth 100000 in
theorem zh5:z3c PR B0 21 z5h:=by
 refine z0m [(58,zc8),(59,z8z),(23,zav),(43,z2j),(57,z2w)] [(3,⟨[0,2,3,4,5],[56],[⟨.tmp 4,56,55,true,kVd⟩]⟩)] z5h [[.list true [.int .i64,.list true [.bool,.int .i64,.int .i64],.int .i64,.int .i64,.int .i64,.int .i64,.int .i64,.int .i64]],[.bool]] Tryz.func21 zxd ⟨zwn,zre,ztp,z7u,zae,trivial⟩ ?_;intro vs r hwf h;unfold z5h at h
 split at h
 ·rename_i s
  rw [R.get_br] at h;cases hg:decide (s.size < 4294967281) with
  | false=>rw [hg] at h; simp [R.get] at h
  | true=>
   have hs:=of_decide_eq_true hg;refine ⟨s.size+1,(zt6 _ s).trans ?_⟩
   have:=zuo (s.size+1) _ (fun s' x O=>zko (s.size+1) s' false O.length x O) (fun s' x O n=>zkl (s.size+1) s' false n x O) (s.size+1) (s.size+1) s 0 [] (by omega) (by omega) hs (by omega) rfl
   refine this.trans ?_;rw [hg,z00,R.get_br] at h;rw [← h];unfold zxu;cases y8c (s.size+1) 0 s [] <;> rfl
 ·simp [R.get] at h
theorem y57 (N:Nat) (a:ByteArray) (ls vs:List IV) (hs:∀ x∈ls,x.toStr.size < 4294967281) (hl:vs.length=ls.length) (hm:vs.length≤4294967281) (K:Out→St→Res)
  (hx:∀ x y,K (.exit 0) (z27 a false ls vs x y)=some (.bool true,[])) (hr:∀ x y,K .ret (z27 a false ls vs x y)=some (.bool false,[])) :
  ∀ (d i n:Nat),i+d=vs.length→d < n →
   lpE (z2i N) (z0p z3n [1,1,1,1,1,1,0,1,0,0]) ⟨[6,7,10,38,39,40],[7],[]⟩ n (z27 a false ls vs (ic vs.length) (i:Int)) K=some (.bool (zz6 (zj9 a) (vs.drop i) (ls.drop i)),[])
 | 0,i,n+1,hd,_=>by
  rw [z05,zdy,zgi (by omega),List.drop_of_length_le (l:=vs) (by omega),z02]
  exact hx _ _
 | d+1,i,n+1,hd,hn=>by
  have hi:i < vs.length:=by omega
  have hi2:i < ls.length:=by omega
  have h4:=hs ls[i] (List.getElem_mem hi2);rw [z05,zdy,zfr hi,zs1,zfr (l:=ls) hi2,zdi (by omega),zgx hi,zgx hi2]
  rw [List.drop_eq_getElem_cons hi,List.drop_eq_getElem_cons hi2,decide_eq_true h4];simp only [z00,Bool.and_true];show _=(some (V.bool (yfo (zj9 a) ls[i].toStr (vdI vs[i])&&zz6 (zj9 a) (vs.drop (i+1)) (ls.drop (i+1))),[]):Res);cases yfo (zj9 a) ls[i].toStr (vdI vs[i]) with
  | false=>
   rw [Bool.not_false,z00,Bool.false_and];exact hr _ _
  | true=>
   rw [Bool.not_true,z02,Bool.true_and];exact y57 N a ls vs hs hl hm K hx hr d (i+1) n (by omega) (by omega)
 | 0,_,0,_,h=>by omega
 | _+1,_,0,_,h=>by omega
theorem y7p (s:ByteArray):(z4r s).length≤s.size+1:=by
 unfold z4r;cases (s.toList==z12.toList) with
 | true=>exact Nat.zero_le _
 | false=>
  rw [z02,List.length_map];have h1:=(z6f zii (Lib.countB (z1s s zii) zii) (z1s s zii)).1;have h2:=Lib.countB_le zii (by decide) _ (z1s s zii) (Nat.le_refl _)
  have h3:=ze3 s zii;show (Lib.splitB zii 0 (Lib.countB (z1s s zii) zii) (z1s s zii)).length≤_;omega
set_option maxRecDepth 100000 in
theorem zp2:z3c PR B0 29 z7c:=by
 refine z0m [(21,z5h),(72,z5o),(31,z7d),(19,za5)] [(9,⟨[6,7,10,38,39,40],[7],[]⟩)] z7c [[.bool]] Tryz.func29 ztw ⟨zh5,zkp,zp1,zso,trivial⟩ ?_;intro vs r hwf h;unfold z7c at h
 split at h
 ·rename_i a b r0
  cases hg:(decide (a.size < 4294967281)&&(decide (b.size < 4294967281)&&decide (r0.size < 4294967281))) with
  | false=>rw [hg] at h; simp [R.get] at h
  | true=>
  rw [hg,R.get_br,z00,R.get_ok] at h;rw [Bool.and_eq_true,Bool.and_eq_true] at hg;refine ⟨(z4r b).length+1,(zr4 _ a b r0).trans ?_⟩;rw [hg.1,hg.2.1,hg.2.2,z00,z00,z00,← h];unfold y9o;cases ht:zuf a with
  | false=>rfl
  | true=>
   simp only [Bool.not_true,z02,z00];cases hq:zxu r0 with
   | none=>rfl
   | some vs=>
    show cond (ic vs.length != ic (z4r b).length) _ _=(some (V.bool (ic vs.length==ic (z4r b).length&&zz6 (zj9 a) vs (z4r b)),[]):Res);cases he:(ic vs.length==ic (z4r b).length) with
    | false=>
     rw [show (ic vs.length != ic (z4r b).length)=!(ic vs.length==ic (z4r b).length) from rfl,he]
     rfl
    | true=>
     rw [show (ic vs.length != ic (z4r b).length)=!(ic vs.length==ic (z4r b).length) from rfl,he]
     have hl:vs.length=(z4r b).length:=by
      have:ic vs.length=ic (z4r b).length:=by simpa using he
      simp only [ic] at this;omega
     have hbz:=of_decide_eq_true hg.2.1;have hll:=y7p b
     have:=y57 ((z4r b).length+1) a (z4r b) vs (y33 hbz) hl (by omega) _ (fun x y=>zjy ((z4r b).length+1) a false (z4r b) vs x y) (fun x y=>zjs ((z4r b).length+1) a false (z4r b) vs x y) vs.length 0 ((z4r b).length+1) (by omega) (by omega)
     rw [List.drop_zero,List.drop_zero] at this;exact this
 ·simp [R.get] at h
open Go
open Go
theorem Qy.In.sp {q:Qy} (hq:q.In):∀ s∈q.spans,InR s.1∧InR s.2:=by
 intro s hs;simp only [Qy.spans,List.mem_cons,List.not_mem_nil,or_false] at hs;rcases hs with rfl | rfl | rfl | rfl | rfl
 ·exact ⟨hq.a0,hq.b0⟩
 ·exact ⟨hq.a1,hq.b1⟩
 ·exact ⟨hq.a2,hq.b2⟩
 ·exact ⟨hq.a3,hq.b3⟩
 ·exact ⟨hq.a4,hq.b4⟩
open Go
open Go
def z5z:z0u
 | []=>.ok (.bool true) []
 | _=>.no
open Go
open Go
open Go Go.Proofs
open Go
open Go Go.Proofs
open Go Go.Proofs
structure Ns.At (i:Nat) (s:Ns):Prop where
 nl:s.nodes.length=2*i+1
 ll:s.leaves.length=i+1
 lt:∀ x∈s.leaves,0≤x.toInt∧x.toInt < (2*i+1:Nat)
theorem ygn {part:List IV} {i:Nat} {s:Ns} (h:s.At i) (hi:i≤100):0≤nsK part i s∧nsK part i s < ((i+1:Nat):Int)∧zjk 0 (ic s.leaves.length - 1)=((i+1:Nat):Int):=by
 have e:ic s.leaves.length=((i+1:Nat):Int):=by rw [h.ll]
 obtain ⟨m,a,b⟩:=y8s (n:=(part.getD i default).toInt) (lo:=0) (hi:=ic s.leaves.length - 1) (by rw [e]; omega) (by omega) (by rw [e]; omega)
 unfold nsK;rw [e] at a b m ⊢
 exact ⟨a,by omega,by rw [m]; omega⟩
theorem Ns.At.step {part byl atl val:List IV} {dim:Int} {i:Nat} {s:Ns} (h:s.At i) (hi:i≤100):(zyr part byl atl val dim i s).At (i+1):=by
 obtain ⟨k0,k1,_⟩:=ygn (part:=part) h hi;refine ⟨?_,?_,?_⟩
 ·simp only [zyr,List.length_append,List.length_set,List.length_cons,List.length_nil,h.nl]
  omega
 ·simp only [zyr,List.length_append,List.length_take,List.length_drop,List.length_cons,List.length_nil,h.ll]
  omega
 ·intro x hx
  simp only [zyr,List.mem_append] at hx;rcases hx with (hx | hx) | hx
  ·have:=h.lt x (List.mem_of_mem_take hx)
   omega
  ·have:=h.lt x (List.mem_of_mem_drop hx)
   omega
  ·simp only [List.mem_cons,List.not_mem_nil,or_false] at hx
   rcases hx with rfl | rfl
   ·simp only [IV.toInt,ic,h.nl]; omega
   ·simp only [IV.toInt,ic,h.nl]; omega
open Go Go.Proofs
open Go Go.Proofs
open Go Go.Proofs
def zmo (N:Nat):Env:=mkE [(71,z5q)] [] 14 N
theorem zld (N:Nat):z1c (zmo N) ze9 [.cell 0 30] [[.int .i64,.int .i64,.int .i64,.int .i64,.int .i64,.list true [.int .i64,.list false [.int .u64]]]] []=(some ((.agg [(.int .i64 1),(.int .i64 1),(.int .i64 3),(.int .i64 0),(.int .i64 0),(.list true zwi [(IV.agg [IV.int 0,IV.list [IV.int (zw2 false 0 0 5 1 2),IV.int (zw2 true 10 0 0 0 0),IV.int (zw2 true 20 0 0 0 0)]])])]),[])):=by kernel_rfl
def zg7 (N:Nat):Env:=mkE [(29,z7c),(21,z5h),(28,z4z),(20,z6i)] [] 39 N
theorem zfe (N:Nat):z1c (zg7 N) z9j [.tmp 0] [[.bool]] []=(some ((.bool true),[])):=by kernel_rfl
open Go Go.Proofs
set_option maxRecDepth 100000 in
theorem zjh:z3c PR B0 28 z4z:=by
 refine z0m [(71,z5q)] [] z4z [[.int .i64,.int .i64,.int .i64,.int .i64,.int .i64,.list true [.int .i64,.list false [.int .u64]]]] Tryz.func28 zml ⟨zkb,trivial⟩ ?_;intro vs r hwf h;unfold z4z at h
 split at h
 ·skip
  rw [R.get_ok] at h;refine ⟨0,(zld 0).trans ?_⟩;rw [← h]
  rfl
 ·simp [R.get] at h
set_option maxRecDepth 100000 in
theorem zdu:z3c PR B0 5 z5z:=by
 refine z0m [(29,z7c),(21,z5h),(28,z4z),(20,z6i)] [] z5z [[.bool]] Tryz.func5 zg3 ⟨zp2,zh5,zjh,zj0,trivial⟩ ?_;intro vs r hwf h;unfold z5z at h
 split at h
 ·skip
  rw [R.get_ok] at h;refine ⟨0,(zfe 0).trans ?_⟩;rw [← h]
 ·simp [R.get] at h
open Go Go.Proofs Go.RowKit
set_option maxRecDepth 100000 in
theorem zsd {P:Program} {w:World} {name:String} {g:Nat} {cs:Array Value} (hn:P.globalNamed name=some g) (hv:w.var? P name=some cs):∃ T fr,w.heap[g]?=some (.cells cs T fr):=by
 unfold World.var? at hv;rw [hn] at hv;simp only [Option.bind_some] at hv
 split at hv
 ·rename_i c T fr hh
  simp only [Option.some.injEq] at hv;subst hv;exact ⟨T,fr,hh⟩
 ·cases hv
set_option maxRecDepth 100000 in
theorem y4q {w:World} {name:String} {g t:Nat} {ms:Array (String × TypeId)} {tn:String} {d:DataW Unit} (h:Lib.VarReads Tryz.prog w name (.iface tn d)) (hn:Tryz.prog.globalNamed name=some g)
  (ht:(Tryz.prog.globals[g]?).map (·.type)=some t) (hu:Tryz.prog.underlying t=some (.interface ms)):∃ c T fr te pe,w.heap[g]?=some (.cells c T fr)∧c[0]?=some (.iface te pe):=by
 obtain ⟨g',t',cs,fuel,p,h1,h2,h3,h4⟩:=h;obtain rfl:=Option.some.inj (hn.symm.trans h1);obtain rfl:=Option.some.inj (ht.symm.trans h2);obtain ⟨f',u,v,hcs,_,_⟩:=iface_of_trod hu h4;obtain ⟨T,fr,hh⟩:=zsd hn h3;refine ⟨cs,T,fr,u,v,hh,?_⟩
 have:cs = #[.iface u v]:=by
  apply Array.ext';rw [hcs]
 rw [this]
 rfl
set_option maxRecDepth 100000 in
theorem ybl {W:World} {l:List (String × DataW Unit)} (hL:laidMet Tryz.prog l W) (hsh:W.ShapedOpen Tryz.prog)
  (hp:("internal/strconv.uint64pow10", Lib.tabData .u64 Lib.pow10Tab)∈l)
  {n1:String} {d1:DataW Unit} (h1:("strconv.ErrRange", .iface n1 d1)∈l)
  {n2:String} {d2:DataW Unit} (h2:("strconv.ErrSyntax", .iface n2 d2)∈l)
  : Glob B0 W:=by
 have hz:∀ g,g < 4→g < Tryz.prog.globals.size→g < W.heap.size:=fun g _ hg=>by
  have hb:((List.range Tryz.prog.globals.size).all fun g=>(((begin Tryz.prog (fun _ _=>0) default).world.heap[g]?).bind Obj.row?).isSome)=true:=by kernel_rfl
  have:=List.all_eq_true.1 hb g (List.mem_range.2 hg)
  obtain ⟨⟨z,t⟩,hz⟩:=Option.isSome_iff_exists.1 this;obtain ⟨cs,hh,_⟩:=hsh.1 g z t hg hz;exact (Array.getElem?_eq_some_iff.1 hh).1
 have hsize:4≤W.heap.size:=by
  first
  | exact Nat.zero_le _
  | (
    have:=hz (4 - 1) (by decide) (of_decide_eq_true (by kernel_rfl))
    omega)
 have low:∀ {g:Nat},g < 4→(fun b=>if b < B0.ng then W.heap[b]? else none) g=W.heap[g]?:=fun h=>if_pos (show _ < B0.ng from h)
 refine ⟨hsize,?_⟩;show GF _;constructor
 first | exact trivial | skip
 case gm=>
  obtain ⟨m,hm⟩:=cell_of_shapedOpen_int (P:=Tryz.prog) (g:=1) (t:=3) (zero:=#[.int .i64 0]) hsh (of_decide_eq_true (by kernel_rfl)) (by kernel_rfl) rfl (by kernel_rfl) (by kernel_rfl) Tryz.underlying3
  simp only [World.cell?] at hm
  split at hm
  ·rename_i c T fr' hh
   exact ⟨c,T,fr',m,(low (by decide)).trans hh,hm⟩
  ·cases hm
 case gp=>
  have gp:Tryz.prog.globalNamed "internal/strconv.uint64pow10" = some 0:=by kernel_rfl
  obtain ⟨g',t',cp,fuel,p,e1,e2,e3,e4⟩:=Lib.laidMet.reads hL hp;obtain rfl:=Option.some.inj (gp.symm.trans e1);obtain ⟨T,fr',hh⟩:=zsd gp e3;refine ⟨T,fr',(low (by decide)).trans ?_⟩
  rw [hh];have et:(Tryz.prog.globals[0]?).map (·.type)=some 262:=by kernel_rfl
  obtain rfl:=Option.some.inj (et.symm.trans e2)
  have:=Lib.cells_of_tab (e:=103) (n:=20) (by kernel_rfl) (by kernel_rfl) (by kernel_rfl) (by kernel_rfl) e4
  congr 1
  congr 1
  apply Array.ext';exact this
 case gs=>
  obtain ⟨cs,Ts,fs,tes,pes,hs1,hs2⟩:=y4q (g:=2) (Lib.laidMet.reads hL h2) (by kernel_rfl) (show _=some 120 by kernel_rfl) Tryz.underlying120
  exact ⟨cs,Ts,fs,tes,pes,(low (by decide)).trans hs1,hs2⟩
 case gr=>
  obtain ⟨cr,Tr,fr,ter,per,hr1,hr2⟩:=y4q (g:=3) (Lib.laidMet.reads hL h1) (by kernel_rfl) (show _=some 120 by kernel_rfl) Tryz.underlying120
  exact ⟨cr,Tr,fr,ter,per,(low (by decide)).trans hr1,hr2⟩
def X0:Zone:=⟨fun _=>False,fun _=>False⟩
def γ0:Nat→Value:=fun _=>.nilIface
abbrev O0:Nat→Prop:=z07 X0 γ0 []
set_option maxRecDepth 100000 in
theorem yia (W:World):Rel B0.base 0 W X0 γ0 ⟨[],[]⟩ zu9 W:=by
 have no:∀ n ob,z03 ([]:Store) n≠some ob:=fun n ob h=>by simp [z03,lkd] at h
 refine ⟨rfl,rfl,fun i=>by simp only [St.get,lkd,VRel],fun n ob h=>absurd h (no n ob),fun b h=>?_,fun n m ob ob' b _ h=>absurd h (no n ob),Keep.refl _ _,fun b h=>?_,fun b h=>h.elim,fun p _ ob h=>absurd h (no _ ob)⟩
 ·obtain ⟨n,ob,h,_⟩:=h
  exact absurd h (no n ob)
 ·obtain ⟨n,ob,h,_⟩:=h
  exact absurd h (no n ob)
set_option maxRecDepth 100000 in
theorem zy6 {f:Nat} {fn:Func} (hf:PR.funcs[f]?=some fn) (hn:(fn.name == "runtime.NumGoroutine")=false) (hb:fn.body.isNone=false) {xs:List Value} {w:World} {R:Ending→World→Prop} (h:Does PR f xs w R):Calls PR f xs.toArray w R:=by
 have:(callFunc f xs.toArray).run PR w = .ok (.enter f xs.toArray) w:=by
  unfold callFunc;have hn':¬ fn.name = "runtime.NumGoroutine":=by simpa using hn
  have hb':¬ fn.body=none:=fun h=>by rw [h] at hb; cases hb
  simp [hf,hn',hb']
 unfold Does at h;rw [this] at h;exact h
set_option maxRecDepth 100000 in
theorem y82 {f:Nat} {fn:Func} {sp:z0u} (hS:z3c PR B0 f sp) (hf:PR.funcs[f]?=some fn) (hn:(fn.name == "runtime.NumGoroutine")=false) (hb:fn.body.isNone=false) {vs:List V} {xs:List Value} {W:World}
  (hsp:(sp vs).get=some (.bool true,[])) (hbor:z5r vs=none) (hG:Glob B0 W) (hV:VRels γ0 [] W O0 (vs.map z7t) xs) :
  Calls PR f xs.toArray W fun e w'=>e = .returned (.bool true)∧Below W.heap.size W w':=by
 refine zy6 hf hn hb ?_;have em:zbh vs=[]:=by unfold zbh; rw [hbor]
 refine Does.mono (hS W X0 γ0 vs xs (.bool true) [] hsp hG (fun b h=>h.elim) (by rw [em]; exact yia W) (by rw [em]; exact hV)) ?_
 rintro e w' ⟨x,rfl,γ',hR,hx,_⟩
 simp only [y42,z7t,VRel] at hx;subst hx;exact ⟨rfl,hR.keep.os,hR.keep.tape,hR.keep.output,hR.keep.size,fun b hb=>hR.keep.block b hb (fun h=>h)⟩
open Go
def CellsK (w:World) (O:Nat→Prop):List Kd→List IV→List Value→Prop
 | [],[],[]=>True
 | k :: ks,x :: f,v :: cs=>Kd.Rel w O k x v∧CellsK w O ks f cs
 | _,_,_=>False
section
variable {w:World} {O:Nat→Prop}
set_option maxRecDepth 100000 in
theorem CellsK.append:∀ {ks:List Kd} {f:List IV} {cs:List Value} {ks':List Kd} {f':List IV} {cs':List Value},CellsK w O ks f cs→CellsK w O ks' f' cs'→CellsK w O (ks++ks') (f++f') (cs++cs')
 | [],[],[],_,_,_,_,h'=>h'
 | _ :: ks,_ :: f,_ :: cs,_,_,_,h,h'=>by
  simp only [CellsK] at h;simp only [List.cons_append,CellsK];exact ⟨h.1,h.2.append h'⟩
 | [],_ :: _,_,_,_,_,h,_=>by simp [CellsK] at h
 | [],[],_ :: _,_,_,_,h,_=>by simp [CellsK] at h
 | _ :: _,[],_,_,_,_,h,_=>by simp [CellsK] at h
 | _ :: _,_ :: _,[],_,_,_,h,_=>by simp [CellsK] at h
set_option maxRecDepth 100000 in
theorem CellsK.get:∀ {ks:List Kd} {f:List IV} {cs:List Value},CellsK w O ks f cs→∀ (j:Nat) (k:Kd),ks[j]?=some k→∃ v,cs[j]?=some v∧Kd.Rel w O k (nth f j) v
 | [],_,_,_,j,k,h=>by simp at h
 | k :: ks,x :: f,v :: cs,h,j,k',hj=>by
  simp only [CellsK] at h;cases j with
  | zero=>
   simp only [List.getElem?_cons_zero,Option.some.injEq] at hj;subst hj;exact ⟨v,rfl,by simpa only [nth] using h.1⟩
  | succ j=>
   obtain ⟨u,h1,h2⟩:=h.2.get j k' (by simpa using hj)
   exact ⟨u,by simpa using h1,by simpa only [nth] using h2⟩
 | _ :: _,[],_,h,_,_,_=>by simp [CellsK] at h
 | _ :: _,_ :: _,[],h,_,_,_=>by simp [CellsK] at h
end
set_option maxRecDepth 100000 in
theorem y5h {H:Type} {P:Program}:∀ {ts:List TypeId} {ds:List (DataW H)} {i:Nat} {t:TypeId} {d:DataW H},ts[i]?=some t→ds[i]?=some d→∀ y∈d.weights P t,y∈DataW.weightsEach P ts ds
 | [],_,i,_,_,h,_,_,_=>by simp at h
 | _ :: _,[],i,_,_,_,h,_,_=>by simp at h
 | t0 :: ts,d0 :: ds,0,t,d,h,h',y,hy=>by
  simp only [List.getElem?_cons_zero,Option.some.injEq] at h h';subst h; subst h';simp only [DataW.weightsEach,List.mem_append];exact .inl hy
 | t0 :: ts,d0 :: ds,i+1,t,d,h,h',y,hy=>by
  simp only [DataW.weightsEach,List.mem_append];exact .inr (y5h (by simpa using h) (by simpa using h') y hy)
section
variable {H:Type} {enc:TypeId × Value→H} {P:Program} {w:World} {base:Nat} {sp:Nat→Bool} {held:Bool} {O:Nat→Prop}
end
open Go Go.Proofs Go.RowKit Go.ChangeShapes Go.WideShapes
set_option maxRecDepth 100000 in
theorem CellsK.len {w:World} {O:Nat→Prop}:∀ {ks:List Kd} {f:List IV} {cs:List Value},CellsK w O ks f cs→f.length=ks.length
 | [],[],[],_=>rfl
 | _ :: _,_ :: _,_ :: _,h=>by
  simp only [CellsK] at h;simp only [List.length_cons,h.2.len]
 | [],_ :: _,_,h=>by simp [CellsK] at h
 | [],[],_ :: _,h=>by simp [CellsK] at h
 | _ :: _,[],_,h=>by simp [CellsK] at h
 | _ :: _,_ :: _,[],h=>by simp [CellsK] at h
section
variable {H:Type} {enc:TypeId × Value→H} {P:Program} {W:World} {base b0:Nat} {sp:Nat→Bool} {held:Bool}
set_option maxRecDepth 100000 in
theorem zk6 (hl:laidOutB P=true) {W':World} (hb:Below W.heap.size W W'):∀ {ts:List TypeId} {vs:List Value} {ds:List (DataW H)} {ps:List MemPlace},DataW.TrodAll enc P W 0 (fun _=>true) true ts vs ds ps →
  (∀ t∈ts,P.readableRec t=true∧t < P.types.size)→(∀ x∈ps,x.block < W.heap.size)→DataW.TrodAll enc P W' 0 (fun b=>decide (b < W.heap.size)) true ts vs ds ps
 | [],vs,ds,ps,h,_,_=>by
  obtain ⟨rfl,rfl,rfl⟩:=trodAll_nil h
  rfl
 | t :: ts,vs,ds,ps,h,ht,hp=>by
  obtain ⟨v,vs1,d,ds1,a,b,rfl,rfl,rfl,h1,h2⟩:=trodAll_cons h;have hh:=ht t (List.mem_cons_self ..);exact ⟨a,b,Below.trod hl hh.1 hh.2 h1 hb (fun x hx=>hp x (List.mem_append.2 (.inl hx))),zk6 hl hb h2 (fun t' h'=>ht t' (List.mem_cons_of_mem _ h')) (fun x hx=>hp x (List.mem_append.2 (.inr hx))),rfl⟩
end
set_option maxRecDepth 100000 in
theorem y8t:ownKnob Tryz.prog.godebug=none:=by kernel_rfl
set_option maxRecDepth 100000 in
theorem zsg:laidOutB Tryz.prog=true:=by kernel_rfl
set_option maxRecDepth 100000 in
theorem y7t {os:Os} (started:os.Started) {H:Type} {enc:TypeId × Value→H} {spec:ChangeSpec} {f:Nat} {fn:Func} {sp:z0u} {laid:List (String × DataW Unit)} (hS:z3c PR B0 f sp) (hf:Tryz.prog.funcs[f]?=some fn)
  (hn:(fn.name == "runtime.NumGoroutine")=false) (hb:fn.body.isNone=false) (hini:Tryz.prog.inits.idxOf? f=none) (hres:fn.resultTypes = #[4]) (hvars:spec.vars=[])
  (hspec:∀ (ds:List (DataW H)),ds.length=fn.params.toList.length→spec.fn H ds={ results:=[.lit (.bool true)],args:=ds })
  (hpar:fn.params.toList.all (fun t=>Tryz.prog.readableRec t&&decide (t < Tryz.prog.types.size))=true)
  (hglob:∀ W:World,laidMetH Tryz.prog laid W→W.ShapedOpen Tryz.prog→Glob B0 W)
  (witness:∃ (w:World) (tape:Tape) (i:Input),w.os=os∧(w.forCall tape i).Shaped Tryz.prog∧i.vars=[]∧Input.okWide Tryz.prog (w.forCall tape i) .any w.heap.size f i ∧
   (OpenSpec.ofChange spec).preRow enc Tryz.prog fn [] false laid (w.forCall tape i).memory i.args∧({}:Assume).holds Tryz.prog (lone (Frame.enter Tryz.prog f i.args .normal) [] (w.forCall tape i)))
  (harg:∀ (W:World) (base:Nat) (vs:List Value) (ds:List (DataW H)) (p:List MemPlace),DataW.TrodAll enc Tryz.prog W 0 (fun _=>true) true fn.params.toList vs ds p →
   (∀ (j:Nat) t v,fn.params.toList[j]?=some t→vs[j]?=some v→Value.okWide Tryz.prog W .any base t v) →
   (∀ (j:Nat) t d,fn.params.toList[j]?=some t→ds[j]?=some d→∀ y∈d.weights Tryz.prog t,y≤reachBytes) →
   ∃ l:List V,(sp l).get=some (.bool true,[])∧z5r l=none∧VRels γ0 [] W O0 (l.map z7t) vs) :
  ReturnsInHanded {} Tryz.checked os f .any ((OpenSpec.ofChange spec).preRow enc Tryz.prog fn [] false laid) (spec.post enc Tryz.prog fn false true false false):=by
 refine returnsInHanded_of_row (C:=Tryz.checked) (s:=OpenSpec.ofChange spec) (F:=fun _ _ _=>0) y8t started hini hf witness ?_
 intro W base args ds gs before hval hW _ _ hwt hL hsh _;have hW':=hW;obtain ⟨p,q,hA,hV,rfl,_,_⟩:=hW;have hvars':(OpenSpec.ofChange spec).vars=[]:=hvars;rw [hvars'] at hV;obtain ⟨rfl,rfl⟩:=trodVars_none hV;have hlen:ds.length=fn.params.toList.length:=by
  have:∀ {ts:List TypeId} {vs:List Value} {ds:List (DataW H)} {ps:List MemPlace},DataW.TrodAll enc Tryz.prog W 0 (fun _=>true) true ts vs ds ps→ds.length=ts.length:=by
   intro ts
   induction ts with
   | nil=>intro vs ds ps h; obtain ⟨_,rfl,_⟩:=trodAll_nil h; rfl
   | cons t ts ih=>
    intro vs ds ps h;obtain ⟨v,vs1,d,ds1,a,b,rfl,rfl,rfl,h1,h2⟩:=trodAll_cons h;simp only [List.length_cons,ih h2]
  exact this hA
 simp only [List.append_nil] at hW' hwt;obtain ⟨l,hl,hbor,hrel⟩:=harg W base args.toList ds p hA (fun j t v h1 h2=>hval j t v (by simpa using h1) (by simpa using h2)) (fun j t d h1 h2 y hy=>by
  have hm:=y5h (P:=Tryz.prog) (ts:=fn.params.toList++(OpenSpec.ofChange spec).bare.plain.varTypes Tryz.prog) (ds:=ds) (i:=j) (t:=t) (d:=d) (by
   rw [List.getElem?_append_left (by rw [← hlen]; exact (List.getElem?_eq_some_iff.1 h2).1)]
   exact h1) h2 y hy
  have:=List.all_eq_true.1 hwt y hm
  simpa using this)
 have hc:=y82 hS hf hn hb hl hbor (hglob W hL hsh) hrel;have ea:args.toList.toArray=args:=by simp
 rw [ea] at hc;refine hc.mono ?_
 rintro e W' ⟨rfl,bel⟩
 have hfn:spec.fn H (ds++[])={ results:=[.lit (.bool true)],args:=ds }:=by rw [List.append_nil]; exact hspec ds hlen
 have hlt:∀ x∈p,x.block < W.heap.size:=fun x hx=>hW'.lt x hx
 have post:spec.post enc Tryz.prog fn false true false false W args (.bool true) W':=by
  refine ⟨ds,[],p,[],p,[],hW',?_,?_,?_,bel.frame _,fun h=>by cases h⟩
  ·rw [hfn,hres]
   exact trodAll_mk1 (shut_bool Tryz.underlying4 _)
  ·rw [hfn]
   exact zk6 zsg bel hA (fun t ht=>by
    have:=List.all_eq_true.1 hpar t ht
    simpa using this) hlt
  ·rw [hvars,hfn]
   rfl
 exact ⟨_,rfl,post⟩
end Go.FM
namespace Go.Proofs.YtehhekmihbaghaaGreatDoor
open Go Go.ChangeShapes Go.WideShapes Go.ChangeAt Go.RowKit Go.FM
theorem y8t:ownKnob Tryz.prog.godebug=none:=by kernel_rfl
theorem zsg:laidOutB Tryz.prog=true:=by kernel_rfl
abbrev zlq:List (String × DataW Unit):=Rows.topLinesRow.laid
noncomputable def zys (os:Os):World:=
 let w0:=World.doorLaid Tryz.prog 72 os
 { w0 with heap:=w0.heap.modify 4 fun
  | .cells _ t frozen=>.cells (Lib.firstTab.map fun z=>Value.int .u8 z).toArray t frozen
  | o=>o }
theorem ycb (os:Os) (args:Array Value):laidMetH Tryz.prog zlq ((zys os).forCall (fun _ _=>0) ⟨#[],args,[]⟩).memory:=
 laidMetH_of_parts3 (fuel:=8) (laidMet_of_run' 8 (by kernel_rfl) (by kernel_rfl)) (by kernel_rfl) (by kernel_rfl)
theorem y8d {W:World} (hL:laidMetH Tryz.prog zlq W) (hsh:W.ShapedOpen Tryz.prog):Glob B0 W:=by
 have hL':laidMet Tryz.prog zlq W:=by
  rw [MakeChecks.laidMetH_plain _ _ _ (by kernel_rfl)] at hL
  exact hL
 exact ybl hL' hsh (n1 := "*errors.errorString") (n2 := "*errors.errorString") (.tail _ (.tail _ (.head _))) (.tail _ (.tail _ (.tail _ (.tail _ (.head _))))) (.tail _ (.tail _ (.tail _ (.tail _ (.tail _ (.head _))))))
end Go.Proofs.YtehhekmihbaghaaGreatDoor
