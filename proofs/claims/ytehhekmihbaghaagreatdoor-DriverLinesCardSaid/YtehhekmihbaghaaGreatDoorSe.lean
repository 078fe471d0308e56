/-
  A small machine that reads a function of the program and reckons what a call of it comes to; what Go's library on the road comes to; the functions of the program, one by one. No conditions beyond each specification's own. (A PROOF THAT IS GONE THROUGH, IN PLAIN LEAN: its boxes are r, NORMAL FORMS: what the functions' runs come to (written by a, check.ends COMES TO WHAT IS SAID., and so on.)
-/
import Derived.Test.YtehhekmihbaghaaGreatDoorSd
import Derived.Test.YtehhekmihbaghaaGreatDoorSb
import Derived.Test.YtehhekmihbaghaaGreatDoorSc
import Derived.Shelf.Vars
import Derived.Lib.LaidU8
import Derived.Lib.LaidTab
import Derived.Carry
import Derived.ChangeArms
import Derived.OpenShut
import Derived.Lib.ItoaMem
import Derived.Test.YtehhekmihbaghaaGreatDoorRows
import Derived.ProofKit
import Derived.LaidMore
import Derived.LaidHandle
import Derived.Deep.DeepHandedRow
import Derived.Stop.Joined
import Derived.Test.YtehhekmihbaghaaGreatDoorTie
import Derived.Test.YtehhekmihbaghaaGreatDoorCards
import Derived.SevenTiedAt
import Derived.Deep.DeepWitnessRowRef
set_option linter.all false
set_option maxRecDepth 100000
namespace Go.FM
open Go
theorem y78 {x:IV} {left most:Int} {st:Int × Int} (h:zr8 (left,most) x=some st):left≠0∧zd0 x=true∧((zcb x=true∧st=(left - 1,most))∨(zcb x=false∧st=(left+1,max most (left+1)))):=by
 unfold zr8 at h;cases hz:(left==0) with
 | true=>simp only [hz,v42,v2h] at h; cases h
 | false=>
  have hne:left≠0:=by simpa using hz
  simp only [hz,v2i] at h;cases hr:zd0 x with
  | false=>rw [hr] at h; cases h
  | true=>
   rw [hr] at h;simp only [v0c,v1q] at h;cases hs:zcb x with
   | true=>rw [hs] at h; exact ⟨hne,rfl,.inl ⟨rfl,(v1w h).symm⟩⟩
   | false=>rw [hs] at h; exact ⟨hne,rfl,.inr ⟨rfl,(v1w h).symm⟩⟩
theorem zr5 {x:IV} (h:zd0 x=true) (hs:zcb x=false):0≤z1n x∧z1n x≤4:=by
 unfold zd0 at h;rw [hs,z02,v02,v06,v06] at h;exact h
theorem y35 {x:IV} {left out:List IV} {most:Int} {st:Int × Int} {lo:List IV × List IV} (hl:∀ y∈left,(bxI y).good) (ho:∀ y∈out,(bxI y).good) (hd:zr8 (ic left.length,most) x=some st) (hp:zs8 (left,out) x=some lo) :
  (∀ y∈lo.1,(bxI y).good)∧(∀ y∈lo.2,(bxI y).good)∧st.1=ic lo.1.length:=by
 obtain ⟨hne,hr,hd⟩:=y78 hd;have hlen:0 < left.length:=by simp only [ic] at hne; omega
 have ht:(z73 left).good:=hl _ (zr4 hlen).1;unfold zs8 at hp;rcases hd with ⟨hs,rfl⟩ | ⟨hs,rfl⟩
 ·rw [hs] at hp
  obtain rfl:=v1w hp;refine ⟨fun y hy=>hl y (y66 hy),fun y hy=>?_,?_⟩
  ·rcases v0k.1 hy with hy | hy
   ·exact ho y hy
   ·obtain rfl:=v28.1 hy
    rw [y92]; exact ht
  ·show ic left.length - 1=ic (zi1 left).length
   rw [zjh]; simp only [ic]; omega
 ·rw [hs] at hp
  have hpl:=zr5 hr hs;have ej:z1n x=(((z1n x).toNat:Nat):Int):=by omega
  cases hc:(decide (zi2 x < ((z73 left).g (z1n x).toNat).lo)||decide (zi2 x≥((z73 left).g (z1n x).toNat).hi)) with
  | true=>simp only [hc,v1q,v2h] at hp; cases hp
  | false=>
   simp only [hc,v1q] at hp;obtain rfl:=v1w hp;simp only [v30,v19] at hc;refine ⟨fun y hy=>?_,ho,?_⟩
   ·rcases v0k.1 hy with hy | hy
    ·exact hl y (y66 hy)
    ·rcases v15.1 hy with rfl | hy
     ·rw [y92,ej]; exact ycw ht (by omega) (by omega) (by omega)
     ·obtain rfl:=v28.1 hy
      rw [y92,ej]; exact yd1 ht (by omega) (by omega) (by omega)
   ·show ic left.length+1=ic (zi1 left++[_,_]).length
    rw [v08,zjh];simp only [ic,v05,v0o]; omega
theorem yce:∀ {l:List IV} {left out:List IV} {most:Int} {st:Int × Int} {lo:List IV × List IV},(∀ y∈left,(bxI y).good)→(∀ y∈out,(bxI y).good)→yee l (ic left.length,most)=some st→y7k l (left,out)=some lo→∀ y∈lo.2,(bxI y).good
 | [],left,out,most,st,lo,_,ho,_,hp=>by
  obtain rfl:=v1w hp;exact ho
 | x :: l,left,out,most,st,lo,hl,ho,hd,hp=>by
  rw [yee] at hd;rw [y7k] at hp;cases h1:zr8 (ic left.length,most) x with
  | none=>rw [h1] at hd; cases hd
  | some s1=>
   cases h2:zs8 (left,out) x with
   | none=>rw [h2] at hp; cases hp
   | some l1=>
    rw [h1] at hd;rw [h2] at hp;obtain ⟨g1,g2,g3⟩:=y35 hl ho h1 h2;obtain ⟨a,b⟩:=l1;obtain ⟨c,d⟩:=s1;obtain rfl:c=ic a.length:=g3;exact yce g1 g2 hd hp
theorem y3z {l:List IV} (h:zmy l > 0):∃ st,yee l (1,1)=some st:=by
 unfold zmy at h;cases hc:decide (ic l.length > 65536) with
 | true=>rw [hc,z00] at h; omega
 | false=>
  rw [hc,z02] at h;cases hd:yee l (1,1) with
  | none=>rw [hd] at h; exact absurd h (by decide)
  | some st=>exact ⟨st,rfl⟩
theorem yf1 {b:Bx} (hb:b.good) {l outs:List IV} (h:psF b l=some outs):∀ y∈outs,(bxI y).good:=by
 unfold psF at h;cases hd:decide (zmy l > 0) with
 | false=>rw [hd,z02] at h; cases h
 | true=>
  rw [hd,z00] at h;obtain ⟨st,hst⟩:=y3z (v0f hd);cases hp:y7k l ([b.I],[]) with
  | none=>rw [hp] at h; cases h
  | some lo=>
   rw [hp] at h;obtain rfl:=v1w h;refine yce (left:=[b.I]) (out:=[]) (most:=1) (fun y hy=>?_) (fun y hy=>by cases hy) hst hp
   obtain rfl:=v28.1 hy;rw [y92]; exact hb
open Go Go.Proofs
def z98 (N:Nat):Env:=mkE [(111,z7e),(112,z2e),(55,z1y)] [(3,⟨[0,4,5,6,7,8,9],[500],[⟨.tmp 9,500,252,true,ykb⟩]⟩)] 88 N
open Go Go.Proofs
set_option maxRecDepth 100000
def ztt (l O:List IV) (n:Nat) (lo hi:Int) (any:Bool):St:=⟨[(0,.list false [.int .u64] l),(4,.int .i64 0),(5,.int .i64 0),(6,.int .i64 lo),(7,.int .i64 hi),(8,.bool any),(9,.row 500 0 n)],[(500,some (.row true 252 true ykb O))]⟩
abbrev ykp:KP:=⟨[0,4,5,6,7,8,9],[500],[⟨.tmp 9,500,252,true,ykb⟩]⟩
noncomputable abbrev yku (N:Nat):Out→St→Res:=z06 0 (kSq (z98 N) (z0j z9d [1,1,1,1]) (z30 (z98 N) none [.tmp 4,.tmp 5] [[.int .i64],[.int .i64]]))
def eW (n:Nat):Int:=IntKind.wrap IntKind.i64 (ic (n - 0) - 1)
def eX (O:List IV) (n:Nat):IV:=O.getD (0+(eW n).toNat) default
def eWd (l:List IV) (x:IV):Int:=(l.getD (zmd x).toNat default).toInt
theorem yhd (N:Nat) (l:List IV) (b:Bx):z11 (z98 N) z9d [.tmp 4,.tmp 5] [[.int .i64],[.int .i64]] [.list false [.int .u64] l,b.V] =
 lpE (z98 N) (z0j z9d [1,1,1,0,0,0]) ykp N (ztt l [ye0 0 b] 1 0 0 false) (yku N):=by kernel_rfl
theorem ybc (N:Nat) (l O:List IV) (n:Nat) (lo hi:Int) (any:Bool) (again:St→Res) (k:Out→St→Res):rnd (z98 N) (z0j z9d [1,1,1,0,0,0]) (ztt l O n lo hi any) (z3t again ykp k) =
 cond (decide (ic (n - 0) > 0)) (cond (decide (0≤eW n)&&decide (eW n < ic (n - 0))) (cond (decide (0≤eW n)&&decide (eW n≤ic (n - 0)))
 (cond (decide (0≤zmd (eX O n))&&decide (zmd (eX O n) < ic l.length))
 (cond (!(zau (eWd l (eX O n)))) (again (ztt l O (0+(eW n).toNat) lo hi any))
 (cond (zui (eX O n)).emp (again (ztt l O (0+(eW n).toNat) lo hi any))
 (cond (!(z07 (eWd l (eX O n))).lf)
 (cond (zmk (z07 (eWd l (eX O n))).f) (cond (decide ((0+(eW n).toNat+2)*88≤z0c))
 (again (ztt l (O.take (0+(eW n).toNat)++[ye0 (z07 (eWd l (eX O n))).l ((zui (eX O n)).cutL (z07 (eWd l (eX O n))).f (z07 (eWd l (eX O n))).a),ye0 (z07 (eWd l (eX O n))).r ((zui (eX O n)).cutH (z07 (eWd l (eX O n))).f (z07 (eWd l (eX O n))).a)]) (0+(eW n).toNat+2) lo hi any)) none) none)
 (cond (!any) (again (ztt l O (0+(eW n).toNat) (min (z07 (eWd l (eX O n))).v (z07 (eWd l (eX O n))).v) (max (z07 (eWd l (eX O n))).v (z07 (eWd l (eX O n))).v) true))
 (again (ztt l O (0+(eW n).toNat) (min lo (z07 (eWd l (eX O n))).v) (max hi (z07 (eWd l (eX O n))).v) any)))))) none) none) none)
 (k (.exit 0) (ztt l O n lo hi any)):=by kernel_rfl
theorem yhn (N:Nat) (l O:List IV) (n:Nat) (lo hi:Int) (any:Bool):yku N (.exit 0) (ztt l O n lo hi any)=some (.tup [.int .i64 lo,.int .i64 hi],[]):=by kernel_rfl
theorem zie (N:Nat) {l:List IV} (hT:z94 l 4=true) {b:Bx} (hb:b.good):∀ (c:Nat) (O:List IV) (n:Nat) (lo hi:Int) (any:Bool),n≤O.length→EnI l b ⟨O.take n,lo,hi,any⟩→enW (O.take n) < c →
  lpE (z98 N) (z0j z9d [1,1,1,0,0,0]) ykp c (ztt l O n lo hi any) (yku N)=some (.tup [.int .i64 (tLo l b),.int .i64 (tHi l b)],[])
 | 0,_,_,_,_,_,_,_,h=>absurd h (by omega)
 | c+1,O,0,lo,hi,any,hn,h,hc=>by
  obtain ⟨e1,e2⟩:=yk0 hT hb.emp hb.ok h rfl;replace e1:lo=tLo l b:=e1;replace e2:hi=tHi l b:=e2;rw [z05,ybc,show decide (ic (0 - 0) > 0)=false from rfl,z02,yhn,e1,e2]
 | c+1,O,j+1,lo,hi,any,hn,h,hc=>by
  have ht:=zs6 hT;have hlen:(O.take (j+1)).length=j+1:=by rw [v0j]; omega
  have hl:0 < (En.mk (O.take (j+1)) lo hi any).todo.length:=by show 0 < (O.take (j+1)).length; omega
  have hd:=h.depth ht;replace hd:(O.take (j+1)).length≤31:=hd;have hs:=yin ht h hl;have hw:=yh6 ht h hl;have htop:z3p (O.take (j+1))=O.getD j default:=by
   unfold z3p;rw [hlen,v0m,v0m,v13,v1f (by omega)]
   rfl
  have hpop:zi1 (O.take (j+1))=O.take j:=by
   unfold zi1;rw [hlen,v3t]
   congr 1
   omega
  have ew:eW (j+1)=(j:Int):=by
   unfold eW;rw [show ic (j+1 - 0) - 1=(j:Int) by simp only [ic]; omega]
   exact z19 (by omega) (by omega)
  have ej:0+(eW (j+1)).toNat=j:=by rw [ew]; omega
  have ex:eX O (j+1)=z3p (O.take (j+1)):=by unfold eX; rw [ej,htop]
  have ha:=h.at_ _ _ (zr4 hl).2;replace ha:((((O.take (j+1)).length - 1:Nat)):Int)≤zmd (z3p (O.take (j+1)))∧zmd (z3p (O.take (j+1))) < ic l.length:=ha;have i1:decide (ic (j+1 - 0) > 0)=true:=v01 (by simp only [ic]; omega)
  have i2:(decide (0≤eW (j+1))&&decide (eW (j+1) < ic (j+1 - 0)))=true:=by rw [ew,v01 (by omega),v01 (by simp only [ic]; omega)]; rfl
  have i3:(decide (0≤eW (j+1))&&decide (eW (j+1)≤ic (j+1 - 0)))=true:=by rw [ew,v01 (by omega),v01 (by simp only [ic]; omega)]; rfl
  rw [z05,ybc,i1,z00,i2,z00,i3,z00,ej,ex,v01 (show 0≤zmd (z3p (O.take (j+1))) by omega),v01 ha.2,v0t,z00]
  unfold y36 at hs hw;simp only [za4,hpop] at hs hw;have eWdef:eWd l (z3p (O.take (j+1)))=(l.getD (zmd (z3p (O.take (j+1)))).toNat default).toInt:=rfl;rw [← eWdef] at hs hw;have hfk:(z07 (eWd l (z3p (O.take (j+1))))).lf=false→zmk (z07 (eWd l (z3p (O.take (j+1))))).f=true:=fun hf=>by
   have hk:(zmd (z3p (O.take (j+1)))).toNat < l.length:=by have:=ha.2; simp only [ic] at this; omega
   have:=(ht.fork _ hk hf).1
   replace this:0≤(z07 (eWd l (z3p (O.take (j+1))))).f∧(z07 (eWd l (z3p (O.take (j+1))))).f < 4:=this;unfold zmk;rw [v01 this.1,v01 (by omega)]
   rfl
  generalize eWd l (z3p (O.take (j+1)))=wd at hs hw hfk ⊢
  generalize zui (z3p (O.take (j+1)))=vb at hs hw ⊢
  cases hnb:zau wd with
  | false=>
   rw [v0h,z00];simp only [hnb,v0h,v42,v2h] at hs hw;exact zie N hT hb c O j lo hi any (by omega) hs (by omega)
  | true=>
   rw [v0c,z02];simp only [hnb,v0c,v2i] at hs hw;cases he:vb.emp with
   | true=>
    rw [z00];simp only [he,v2h] at hs hw;exact zie N hT hb c O j lo hi any (by omega) hs (by omega)
   | false=>
    rw [z02];simp only [he,v1q] at hs hw;cases hlf:(z07 wd).lf with
    | true=>
     rw [v0c,z02];simp only [hlf,v0c,v1q] at hs hw;cases any with
     | false=>
      rw [v0h,z00];exact zie N hT hb c O j _ _ true (by omega) hs (by omega)
     | true=>
      rw [v0c,z02];exact zie N hT hb c O j _ _ true (by omega) hs (by omega)
    | false=>
     rw [v0h,z00];simp only [hlf,v0h,v2h] at hs hw;have e2:∀ v1 v2:IV,(O.take j++[v1,v2]).take (j+2)=O.take j++[v1,v2]:=fun v1 v2=>v0z (by simp only [v08,v0j,v05,v0o]; omega)
     rw [hfk hlf,z00,v01 (show (j+2)*88≤z0c by unfold z0c; omega),z00]
     refine zie N hT hb c _ (j+2) lo hi any (by simp only [v08,v0j,v05,v0o]; omega) ?_ ?_
     ·rw [e2]; exact hs
     ·rw [e2]; omega
theorem zud:z2y PR B0 158 zb2:=by
 refine z0i [(111,z7e),(112,z2e),(55,z1y)] [(3,⟨[0,4,5,6,7,8,9],[500],[⟨.tmp 9,500,252,true,ykb⟩]⟩)] zb2 [[.int .i64],[.int .i64]] Tryz.func158 y0y ⟨zfg,z6n,z5t,trivial⟩ ?_;intro vs r hwf h;unfold zb2 at h
 split at h
 ·rename_i l b
  replace h:=z2r h;obtain ⟨b,rfl,h⟩:=h;cases hg:(z94 l 4&&z5q b) with
  | false=>rw [hg] at h; simp [R.get] at h
  | true=>
  rw [hg,R.get_br,z00,R.get_ok] at h;rw [v02] at hg;refine ⟨3 ^ 31+1,(yhd (3 ^ 31+1) l b).trans ?_⟩;rw [← h];have hgd:=zeh.1 hg.2;refine zie (3 ^ 31+1) hg.1 hgd (3 ^ 31+1) [ye0 0 b] 1 0 0 false (v09 _) (yje (zs6 hg.1) hgd.ok) ?_;show enW [ye0 0 b] < 3 ^ 31+1;unfold enW;simp only [v0d,v16,v49,List.sum_nil,y57];show 3 ^ 31+0 < 3 ^ 31+1;omega
 ·simp [R.get] at h
open Go Go.Proofs
def z96 (N:Nat):Env:=mkE [(111,z7e),(110,z9s)] [(6,⟨[4,5,6,7,19,20,21],[500,501],[⟨.tmp 6,500,36,true,zac⟩,⟨.tmp 7,501,36,true,zac⟩]⟩)] 75 N
open Go Go.Proofs
set_option maxRecDepth 100000
def yef (l L:List IV) (n:Nat) (out:List IV) (m:Nat) (i:Int):St:=⟨[(4,.zs),(5,.bool false),(6,.row 500 0 n),(7,.row 501 0 m),(19,.list true z2x l),(20,.int .i64 (ic l.length)),(21,.int .i64 i)],[(500,some (.row true 36 true zac L)),(501,some (.row true 36 true zac out))]⟩
abbrev ykx:KP:=⟨[4,5,6,7,19,20,21],[500,501],[⟨.tmp 6,500,36,true,zac⟩,⟨.tmp 7,501,36,true,zac⟩]⟩
def plK (p:Int) (f:Nat→Res):Res:=cond (decide (p=ic 0)) (f 0) (cond (decide (p=ic 1)) (f 1) (cond (decide (p=ic 2)) (f 2) (cond (decide (p=ic 3)) (f 3) (cond (decide (p=ic 4)) (f 4) none))))
def eW' (n:Nat):Int:=IntKind.wrap IntKind.i64 (ic (n - 0) - 1)
def pX (L:List IV) (n:Nat):IV:=L.getD (0+(eW' n).toNat) default
noncomputable abbrev kPs (N:Nat):Out→St→Res:=z06 0 (kSq (z96 N) (z0j z9b [1,1,1,1,1]) (z30 (z96 N) none [.tmp 4,.tmp 5] [[.list true zac],[.bool]]))
theorem yl6 (N:Nat) (l:List IV) (b:Bx):z11 (z96 N) z9b [.tmp 4,.tmp 5] [[.list true zac],[.bool]] [b.V,.list true z2x l] =
 cond (!decide (zmy l > 0)) (some (.tup [.list true zac [],.bool false],[])) (lpE (z96 N) (z0j z9b [1,1,1,1,0,1,0,0]) ykx N (yef l [b.I] 1 [] 0 0) (kPs N)):=by kernel_rfl
theorem yl0 (N:Nat) (l L out:List IV) (n m:Nat) (i:Int):kPs N (.exit 0) (yef l L n out m i)=some (.tup [.list true zac (List.take m out),.bool true],[]):=by kernel_rfl
theorem ygf (N:Nat) (l L out:List IV) (n m:Nat) (i:Int):kPs N .ret (yef l L n out m i)=some (.tup [.list true zac [],.bool false],[]):=by kernel_rfl
theorem yjc (N:Nat) (l L out:List IV) (n m:Nat) (i:Int) (again:St→Res) (k:Out→St→Res):rnd (z96 N) (z0j z9b [1,1,1,1,0,1,0,0]) (yef l L n out m i) (z3t again ykx k) =
 cond (decide (i < ic l.length)) (cond (decide (0≤i)&&decide (i < ic l.length)) (cond (decide (0≤eW' n)&&decide (eW' n < ic (n - 0))) (cond (decide (0≤eW' n)&&decide (eW' n≤ic (n - 0)))
 (cond (zcb (l.getD i.toNat default)) (cond (decide ((m+1)*80≤z0c)) (again (yef l L (0+(eW' n).toNat) (out.take m++[(bxI (pX L n)).I]) (m+1) (zdj (i+1)))) none)
 (plK (z1n (l.getD i.toNat default)) fun j=>cond (decide (zi2 (l.getD i.toNat default) < cI (pX L n) (2*j))) (k .ret (yef l L (0+(eW' n).toNat) out m i))
 (plK (z1n (l.getD i.toNat default)) fun j=>cond (decide (zi2 (l.getD i.toNat default)≥cI (pX L n) (2*j+1))) (k .ret (yef l L (0+(eW' n).toNat) out m i))
 (cond (zmk (z1n (l.getD i.toNat default))) (cond (decide ((0+(eW' n).toNat+2)*80≤z0c))
 (again (yef l (L.take (0+(eW' n).toNat)++[((bxI (pX L n)).cutH (z1n (l.getD i.toNat default)) (zi2 (l.getD i.toNat default))).I,((bxI (pX L n)).cutL (z1n (l.getD i.toNat default)) (zi2 (l.getD i.toNat default))).I]) (0+(eW' n).toNat+2) out m (zdj (i+1)))) none) none)))) none) none) none)
 (k (.exit 0) (yef l L n out m i)):=by kernel_rfl
theorem ygj {p:Int} {a:Nat} (h:p=(a:Int)) (ha:a < 5) (f:Nat→Res):plK p f=f a:=by
 subst h
 match a,ha with
 | 0,_=>rfl
 | 1,_=>rfl
 | 2,_=>rfl
 | 3,_=>rfl
 | 4,_=>rfl
 | n+5,h=>omega
theorem ykt (x:IV):∀ {a:Nat},a < 5→(bxI x).g a=⟨cI x (2*a),cI x (2*a+1)⟩
 | 0,_=>rfl
 | 1,_=>rfl
 | 2,_=>rfl
 | 3,_=>rfl
 | 4,_=>rfl
 | n+5,h=>by omega
def yi9 (o:Option (List IV × List IV)):Res:=match o with
 | some lo=>some (.tup [.list true zac lo.2,.bool true],[])
 | none=>some (.tup [.list true zac [],.bool false],[])
theorem yci (N:Nat) (l:List IV) (hl:l.length≤65536):∀ (d c i:Nat) (L:List IV) (n:Nat) (out:List IV) (most:Int) (st:Int × Int),i+d=l.length→d < c→n≤L.length→n≤i+1→out.length≤i→yee (l.drop i) (ic n,most)=some st →
  lpE (z96 N) (z0j z9b [1,1,1,1,0,1,0,0]) ykx c (yef l L n out out.length (i:Int)) (kPs N)=yi9 (y7k (l.drop i) (L.take n,out))
 | d,0,_,_,_,_,_,_,_,h,_,_,_,_=>absurd h (by omega)
 | 0,c+1,i,L,n,out,most,st,hd,_,_,_,_,_=>by
  rw [z05,yjc,zbh (by omega),z02,v1e (by omega),yl0,v0w]
  rfl
 | d+1,c+1,i,L,n,out,most,st,hd,hc,hn,hn2,ho,hdp=>by
  have hi:i < l.length:=by omega
  rw [v0i hi,yee] at hdp;rw [z05,yjc,z9k hi,z00,zep,v0t,z00,zah hi,v0i hi,y7k];have ei:zdj ((i:Int)+1)=((i+1:Nat):Int):=z82 (by omega)
  rw [ei];generalize l[i]=x at hdp ⊢
  cases h1:zr8 (ic n,most) x with
  | none=>rw [h1] at hdp; cases hdp
  | some s1=>
   rw [h1] at hdp;obtain ⟨hne,hr,hcase⟩:=y78 h1;obtain ⟨j,rfl⟩:∃ j,n=j+1:=⟨n - 1,by simp only [ic] at hne; omega⟩
   have hlen:(L.take (j+1)).length=j+1:=by rw [v0j]; omega
   have htop:z3p (L.take (j+1))=L.getD j default:=by
    unfold z3p;rw [hlen,v0m,v0m,v13,v1f (by omega)]
    rfl
   have hpop:zi1 (L.take (j+1))=L.take j:=by
    unfold zi1;rw [hlen,v3t]
    congr 1
    omega
   have ew:eW' (j+1)=(j:Int):=by
    unfold eW';rw [show ic (j+1 - 0) - 1=(j:Int) by simp only [ic]; omega]
    exact z19 (by omega) (by omega)
   have ej:0+(eW' (j+1)).toNat=j:=by rw [ew]; omega
   have ex:pX L (j+1)=z3p (L.take (j+1)):=by unfold pX; rw [ej,htop]
   have i2:(decide (0≤eW' (j+1))&&decide (eW' (j+1) < ic (j+1 - 0)))=true:=by rw [ew,v01 (by omega),v01 (by simp only [ic]; omega)]; rfl
   have i3:(decide (0≤eW' (j+1))&&decide (eW' (j+1)≤ic (j+1 - 0)))=true:=by rw [ew,v01 (by omega),v01 (by simp only [ic]; omega)]; rfl
   have et:z73 (L.take (j+1))=bxI (z3p (L.take (j+1))):=rfl;rw [i2,z00,i3,z00,ej,ex];unfold zs8;simp only [hpop,et];generalize z3p (L.take (j+1))=y;rcases hcase with ⟨hs,rfl⟩ | ⟨hs,rfl⟩
   ·rw [hs,z00,z00,v01 (show (out.length+1)*80≤z0c by unfold z0c; omega),z00,v0w]
    have:=yci N l hl d c (i+1) L j (out++[(bxI y).I]) most st (by omega) (by omega) (by omega) (by omega) (by simp only [v08,v05,v0o]; omega) (by rw [show ic j=ic (j+1) - 1 by simp only [ic]; omega]; exact hdp)
    rw [show (out++[(bxI y).I]).length=out.length+1 by simp] at this
    exact this
   ·have hpl:=zr5 hr hs
    obtain ⟨a,ha⟩:∃ a:Nat,z1n x=(a:Int):=⟨(z1n x).toNat,by omega⟩
    have ha5:a < 5:=by omega
    rw [hs,z02,z02,ygj ha ha5,ygj ha ha5];have eg:=ykt y ha5;rw [show (z1n x).toNat=a by omega,eg]
    show cond (decide (zi2 x < cI y (2*a))) _ _=yi9 (match cond (decide (zi2 x < cI y (2*a))||decide (zi2 x≥cI y (2*a+1))) none _ with | some st'=>y7k (l.drop (i+1)) st' | none=>none)
    cases decide (zi2 x < cI y (2*a)) with
    | true=>rw [z00,ygf,v42,z00]; rfl
    | false=>
     rw [z02,v2i];cases decide (zi2 x≥cI y (2*a+1)) with
     | true=>rw [z00,ygf,z00]; rfl
     | false=>
      have hin:zmk (z1n x)=true:=by unfold zmk; rw [v01 hpl.1,v01 (by omega)]; rfl
      rw [z02,z02,hin,z00,v01 (show (j+2)*80≤z0c by unfold z0c; omega),z00]
      have e2:∀ v1 v2:IV,(L.take j++[v1,v2]).take (j+2)=L.take j++[v1,v2]:=fun v1 v2=>v0z (by simp only [v08,v0j,v05,v0o]; omega)
      have:=yci N l hl d c (i+1) (L.take j++[((bxI y).cutH (z1n x) (zi2 x)).I,((bxI y).cutL (z1n x) (zi2 x)).I]) (j+2) out (max most (ic (j+1)+1)) st (by omega) (by omega) (by simp only [v08,v0j,v05,v0o]; omega) (by omega) (by omega) (by rw [show ic (j+2)=ic (j+1)+1 by simp only [ic]; omega]; exact hdp)
      rw [e2] at this;exact this
theorem zup:z2y PR B0 67 zb9:=by
 refine z0i [(111,z7e),(110,z9s)] [(6,⟨[4,5,6,7,19,20,21],[500,501],[⟨.tmp 6,500,36,true,zac⟩,⟨.tmp 7,501,36,true,zac⟩]⟩)] zb9 [[.list true [.int .i64,.int .i64,.int .i64,.int .i64,.int .i64,.int .i64,.int .i64,.int .i64,.int .i64,.int .i64]],[.bool]] Tryz.func67 y1h ⟨zfg,zsr,trivial⟩ ?_;intro vs r hwf h;unfold zb9 at h
 split at h
 ·rename_i b l
  replace h:=z2r h;obtain ⟨b,rfl,h⟩:=h;rw [R.get_br] at h;refine ⟨l.length+1,(yl6 (l.length+1) l b).trans ?_⟩;cases hd:decide (zmy l > 0) with
  | false=>
   have e:psF b l=none:=by unfold psF; rw [hd,z02]
   rw [e] at h;rw [v0h,z00];exact h
  | true=>
   obtain ⟨st,hst⟩:=y3z (v0f hd);have hl:l.length≤65536:=by
    have:=v0f hd
    unfold zmy at this
    by_cases hc:ic l.length > 65536
    ·rw [v01 hc,z00] at this; omega
    ·simp only [ic] at hc; omega
   have run:=yci (l.length+1) l hl l.length (l.length+1) 0 [b.I] 1 [] 1 st (by omega) (by omega) (v09 _) (by omega) (v09 _) hst
   rw [v11] at run;have e:psF b l=(y7k l ([b.I],[])).map (·.2):=by unfold psF; rw [hd,z00]
   rw [v0c,z02];refine v4a run ?_;show yi9 (y7k l ([b.I],[]))=_;rw [e] at h;cases hp:y7k l ([b.I],[]) with
   | none=>rw [hp] at h; exact h
   | some lo=>rw [hp] at h; exact h
 ·simp [R.get] at h
open Go Go.Proofs
theorem y67 (N:Nat) (ts:List IV) (b:Bx) (k:Int) (hts:ts.length≤8) (hT:∀ t∈ts,z94 (zdz t) 4=true) (hb:z5q b=true):∀ (m i n:Nat) (lo hi:Int),i+m=ts.length→m < n→(-2147483648*(i+1)≤lo∧lo≤2147483648*(i+1))→(-2147483648*(i+1)≤hi∧hi≤2147483648*(i+1)) →
  lpE (z0f N) (z0j z12 [1,1,1,0,1,0,0]) ⟨[1,5,6,7,8,9,40,41,42],[5],[]⟩ n ⟨[(1,(.int .i64 k)),(5,(.ptr 5 0 0)),(6,(.int .i64 0)),(7,(.int .i64 0)),(8,(.int .i64 lo)),(9,(.int .i64 hi)),(40,(.list true zjw ts)),(41,(.int .i64 (ic ts.length))),(42,(.int .i64 (i:Int)))],[(5,(some (.box (Bx.cs b))))]⟩ (z06 0 (kSq (z0f N) (z0j z12 [1,1,1,1]) (z30 (z0f N) none [(ResultVar.tmp 6),(ResultVar.tmp 7)] [[(.int .i64)],[(.int .i64)]]))) =
   some (.tup [.int .i64 (zxv (fun l=>tLo l b) k (ts.drop i) lo),.int .i64 (zxv (fun l=>tHi l b) k (ts.drop i) hi)],[])
 | m,i,0,_,_,_,h,_,_=>absurd h (by omega)
 | 0,i,n+1,lo,hi,hd,_,_,_=>by
  have hlt:i=ts.length:=by omega
  subst hlt;rw [z05,zgz,zbh (v09 _),z02,v26];exact zn4 N b _ _ _ _ _ _ _ _
 | m+1,i,n+1,lo,hi,hd,hn,h1,h2=>by
  have hlt:i < ts.length:=by omega
  have ei:IntKind.wrap IntKind.i64 ((i:Int)+1)=((i+1:Nat):Int):=z82 (by omega)
  rw [z05,zgz,ei,z9k hlt,z00,zep,v0t,z00,zah hlt,v0i hlt,zxv,zxv];obtain ⟨q1,q2⟩:=ykf (zdz ts[i]) b;have q1:=z5b q1;have q2:=z5b q2;have hti:z94 (IV.toList (IV.cell ts[i] 1)) 4=true:=hT _ (v2j hlt);cases ((ts[i].cell 0).toInt==k) with
  | true=>
   rw [z00,z00,z00,hti,hb,v0t,z00];have ew:IntKind.wrap IntKind.i64 (lo+tLo (zdz ts[i]) b)=lo+tLo (zdz ts[i]) b:=z19 (by omega) (by omega)
   have ew2:IntKind.wrap IntKind.i64 (hi+tHi (zdz ts[i]) b)=hi+tHi (zdz ts[i]) b:=z19 (by omega) (by omega)
   have ih:=y67 N ts b k hts hT hb m (i+1) n (lo+tLo (zdz ts[i]) b) (hi+tHi (zdz ts[i]) b) (by omega) (by omega) (by omega) (by omega)
   rw [← ew,← ew2] at ih;refine v4a ih ?_;rw [ew,ew2]
  | false=>
   rw [z02,z02,z02];exact y67 N ts b k hts hT hb m (i+1) n lo hi (by omega) (by omega) (by omega) (by omega)
theorem ztz:z2y PR B0 113 zbe:=by
 refine z0i [(112,z2e),(158,zb2),(53,z1z)] [(5,⟨[1,5,6,7,8,9,40,41,42],[5],[]⟩)] zbe [[.int .i64],[.int .i64]] Tryz.func113 y3r ⟨z6n,zud,z5w,trivial⟩ ?_;intro vs r hwf h;unfold zbe at h
 split at h
 ·rename_i m k b
  replace h:=z3n h;obtain ⟨m,rfl,h⟩:=h;replace h:=z2r h;obtain ⟨b,rfl,h⟩:=h;cases hg:(b.emp||z5q b) with
  | false=>rw [hg] at h; simp [R.get] at h
  | true=>
  rw [hg,R.get_br,z00,R.get_ok] at h;refine ⟨10,?_⟩;rw [← h];refine (zxj 10 m k b).trans ?_;unfold sLo sHi sOK;cases hm:z2b m with
  | false=>rfl
  | true=>
   rw [v0c,z02];cases h0:decide (k < 0) with
   | true=>
    have:zc3 m k=false:=by unfold zc3; rw [v07 (show ¬ 0≤k by have:=v0f h0; omega)]; rfl
    rw [this]
    rfl
   | false=>
    rw [z02];cases h1:decide (k≥m.c) with
    | true=>
     have:zc3 m k=false:=by unfold zc3; rw [v07 (show ¬ k < m.c by have:=v0f h1; omega),v2c]
     rw [this]
     rfl
    | false=>
     have hc:zc3 m k=true:=by unfold zc3; rw [v01 (show 0≤k by have:=v0s h0; omega),v01 (show k < m.c by have:=v0s h1; omega)]; rfl
     rw [z02,hc];cases he:b.emp with
     | true=>rfl
     | false=>
      rw [he,v2i] at hg;have hb:=y03 hm k;have run:=y67 10 m.ts b k (z28 hm).2.2.1 (fun t ht=>ye7 hm ht) hg m.ts.length 0 10 (zcn m k) (zcn m k) (by omega) (by have:=(z28 hm).2.2.1; omega) (by omega) (by omega)
      rw [z02];rcases zti hm hc with rfl | rfl | rfl <;> exact run
 ·simp [R.get] at h
theorem zsv (N:Nat) (m:Md) (q:Qy) (b:Bx) (hb:(b.emp||z5q b)=true):∀ (d i n:Nat),((i+d:Nat):Int)=m.c→d < n→m.c < 1000 →
  lpE (z1r N) (z0j z2i [1,1,1,0,1,0,1,1,1,0,0,1,0,0]) ⟨[3,4,5,6,7,42,43],[3,4,5],[]⟩ n ⟨[(3,(.ptr 3 0 0)),(4,(.ptr 4 0 0)),(5,(.ptr 5 0 0)),(6,(.bool false)),(7,(.int .i64 (sLo m q.c b))),(42,(.int .i64 m.c)),(43,(.int .i64 (i:Int)))],[(3,(some (.box (Md.cs m)))),(4,(some (.box (Qy.cs q)))),(5,(some (.box (Bx.cs b))))]⟩ (z06 1 (kSq (z1r N) (z0j z2i [1,1,1,0,1,0,1,1,1,0,1]) (z06 0 (kSq (z1r N) (z0j z2i [1,1,1,1]) (z30 (z1r N) none [(ResultVar.tmp 6)] [[.bool]])))))=some (.bool (y5g m q b d i),[])
 | d,i,0,_,h,_=>absurd h (by omega)
 | 0,i,n+1,hd,_,_=>by
  rw [z05,zg4,v07 (show ¬ (i:Int) < m.c by omega),z02]
  exact zm1 N m q b _ _ _ _
 | d+1,i,n+1,hd,hn,hc=>by
  have ei:IntKind.wrap IntKind.i64 ((i:Int)+1)=((i+1:Nat):Int):=z82 (by omega)
  rw [z05,zg4,ei,v01 (show (i:Int) < m.c by omega),z00,hb,z00,y5g]
  have en:((i:Int) != q.c)=!((i:Int)==q.c):=rfl;rw [en];cases ((i:Int)==q.c) with
  | true=>
   rw [v0c,z02,v0v,z02];exact zsv N m q b hb d (i+1) n (by omega) (by omega) hc
  | false=>
   rw [v0h,z00,v0r];cases decide (sHi m (i:Int) b≥sLo m q.c b) with
   | true=>
    rw [z00,z00];exact zld N m q b _ _ _ _
   | false=>
    rw [z02,z02];exact zsv N m q b hb d (i+1) n (by omega) (by omega) hc
theorem zre:z2y PR B0 68 z9j:=by
 refine z0i [(112,z2e),(113,zbe)] [(9,⟨[3,4,5,6,7,42,43],[3,4,5],[]⟩)] z9j [[.bool]] Tryz.func68 zzh ⟨z6n,ztz,trivial⟩ ?_;intro vs r hwf h;unfold z9j at h
 split at h
 ·rename_i m q b
  replace h:=z3n h;obtain ⟨m,rfl,h⟩:=h;replace h:=z38 h;obtain ⟨q,rfl,h⟩:=h;replace h:=z2r h;obtain ⟨b,rfl,h⟩:=h;cases hg:(z3f m q&&(b.emp||z5q b)) with
  | false=>rw [hg] at h; simp [R.get] at h
  | true=>
  rw [hg,R.get_br,z00,R.get_ok] at h;rw [v02] at hg;obtain ⟨hr,hb⟩:=hg;have hb':b.emp=true∨b.good:=by
   rw [v2v] at hb;exact hb.imp id zeh.1
  refine ⟨1000,?_⟩;rw [← h,← y26 hr hb'];refine (zuz 1000 m q b).trans ?_;obtain ⟨hm,_,_,_,hk⟩:=zi7 hr;unfold yd2;cases he:b.emp with
  | true=>rfl
  | false=>
   have hgd:z5q b=true:=by rw [he,v2i] at hb; exact hb
   rw [z02,z02,hgd,v2i,z00];rcases zn8 hk with ⟨e,_⟩ | ⟨e,h2,_⟩ | ⟨e,hf,_⟩
   ·rw [e]
    show cond (decide (q.lo≤sLo m q.c b)) (some (V.bool (decide (sHi m q.c b≤q.hi)),[])) (some (V.bool false,[]))=some (V.bool (decide (q.lo≤sLo m q.c b)&&decide (sHi m q.c b≤q.hi)),[]);cases decide (q.lo≤sLo m q.c b) <;> rfl
   ·rw [e]
    have hc:=(z28 hm).2.1;exact zsv 1000 m q b (by rw [he,hgd]; rfl) m.c.toNat 0 1000 (by omega) (by omega) (by omega)
   ·rw [e]
    have hp:=y30 hm e hf;have hg2:z5q (y0c q b)=true:=zeh.2 (zp0 (zeh.1 hgd) ((zeh.1 hgd) 4 (by omega)) (by rcases zct hp with e | e | e | e <;> rw [e] <;> decide))
    have fin:(cond (decide ((b.g q.ft.toNat).lo≥b.s4.hi)) (some (V.bool true,[])) (cond ((y0c q b).emp||z5q (y0c q b)) (cond q.fl (some (V.bool (decide (sHi m q.c (y0c q b)≤sLo m q.c b)),[])) (some (V.bool (decide (sLo m q.c (y0c q b)≥sHi m q.c b)),[]))) none):Res) =
      some (V.bool (cond (decide ((b.g q.ft.toNat).lo≥b.s4.hi)) true (cond q.fl (decide (sHi m q.c (y0c q b)≤sLo m q.c b)) (decide (sLo m q.c (y0c q b)≥sHi m q.c b)))),[]):=by
     rw [hg2,Bool.or_true,z00];cases decide ((b.g q.ft.toNat).lo≥b.s4.hi) <;> cases q.fl <;> rfl
    refine v4a ?_ fin;unfold y0c;rcases zct hp with e | e | e | e <;> rw [e] <;> rfl
 ·simp [R.get] at h
theorem zwc (N:Nat) (m:Md) (q:Qy) (hr:z3f m q=true) (l:List IV) (hl:l.length < 100000) (hg:∀ y∈l,(bxI y).good):∀ (d i n:Nat),i+d=l.length→d < n →
  lpE (z10 N) (z0j z1h [1,1,1,0,1,0,1,0,1,0,1,0,0]) ⟨[3,4,6,9,29,30,31],[3,4],[]⟩ n ⟨[(3,(.ptr 3 0 0)),(4,(.ptr 4 0 0)),(6,(.bool false)),(9,(.bool true)),(29,(.list true zac l)),(30,(.int .i64 (ic l.length))),(31,(.int .i64 (i:Int)))],[(3,(some (.box (Md.cs m)))),(4,(some (.box (Qy.cs q))))]⟩ (z06 1 (kSq (z10 N) (z0j z1h [1,1,1,0,1,0,1,0,1,1]) (z06 0 (kSq (z10 N) (z0j z1h [1,1,1,1]) (z30 (z10 N) none [(ResultVar.tmp 6)] [[.bool]]))))) =
   some (.bool ((l.drop i).all fun x=>z4e m q (bxI x)),[])
 | d,i,0,_,h=>absurd h (by omega)
 | 0,i,n+1,hd,_=>by
  rw [z05,zao,zbh (by omega),z02,v1e (by omega)]
  exact zcm N m q _ _ l _ _
 | d+1,i,n+1,hd,hn=>by
  have hi:i < l.length:=by omega
  have hgi:=hg _ (v2j hi);rw [z05,zao,z9k hi,z00,zep,v0t,z00,z82 (by omega),zah hi,v0i hi,v32,hr,zeh.2 hgi,Bool.or_true,v0t,z00]
  cases z4e m q (bxI l[i]) with
  | false=>
   rw [v0h,z00];exact zjr N m q _ _ l _ _
  | true=>
   rw [v0c,z02,v0r];exact zwc N m q hr l hl hg d (i+1) n (by omega) (by omega)
theorem yi4 {b:Bx} {l outs:List IV} (h:psF b l=some outs):outs.length≤65536:=by
 have key:∀ {l:List IV} {st lo:List IV × List IV},y7k l st=some lo→lo.2.length≤st.2.length+l.length:=by
  intro l
  induction l with
  | nil=>intro st lo h; obtain rfl:=v1w h; exact v09 _
  | cons x l ih=>
   intro st lo h;rw [y7k] at h;cases h1:zs8 st x with
   | none=>rw [h1] at h; cases h
   | some s1=>
    rw [h1] at h
    have:=ih h
    have h2:s1.2.length≤st.2.length+1:=by
     unfold zs8 at h1;cases hs:zcb x with
     | true=>rw [hs] at h1; obtain rfl:=v1w h1; simp
     | false=>
      rw [hs,z02] at h1;cases hc:(decide (zi2 x < ((z73 st.1).g (z1n x).toNat).lo)||decide (zi2 x≥((z73 st.1).g (z1n x).toNat).hi)) with
      | true=>rw [hc] at h1; cases h1
      | false=>rw [hc] at h1; obtain rfl:=v1w h1; exact Nat.le_succ _
    simp only [v05];omega
 unfold psF at h;cases hd:decide (zmy l > 0) with
 | false=>rw [hd,z02] at h; cases h
 | true=>
  rw [hd,z00] at h;have hl:l.length≤65536:=by
   have:=v0f hd
   unfold zmy at this
   by_cases hc:ic l.length > 65536
   ·rw [v01 hc,z00] at this; omega
   ·simp only [ic] at hc; omega
  cases hp:y7k l ([b.I],[]) with
  | none=>rw [hp] at h; cases h
  | some lo=>
   rw [hp] at h;obtain rfl:=v1w h
   have:=key hp
   simp only [v0o] at this;show lo.2.length≤65536;omega
theorem zpu:z2y PR B0 26 z8b:=by
 refine z0i [(69,zh7),(68,z9j),(67,zb9),(70,z5i),(65,z2j),(66,z6k)] [(8,⟨[3,4,6,9,29,30,31],[3,4],[]⟩)] z8b [[.bool]] Tryz.func26 ztr ⟨y6z,zre,zup,zg2,z7h,zhu,trivial⟩ ?_;intro vs r hwf h;unfold z8b at h
 split at h
 ·rename_i m q v
  replace h:=z3n h;obtain ⟨m,rfl,h⟩:=h;replace h:=z38 h;obtain ⟨q,rfl,h⟩:=h;replace h:=yb5 h;obtain ⟨v,rfl,h⟩:=h;rw [R.get_ok] at h;refine ⟨70000,?_⟩;rw [← h];refine (zsa 70000 m q v).trans ?_;unfold zs9;cases hr:z3f m q with
  | false=>rfl
  | true=>
   rw [v0c,z02,v0r];cases v.kind==1 with
   | true=>
    rw [z00,z00];cases hp:psF (z9x q) v.proof with
    | none=>
     show cond false _ _=_;rw [z02,z05,zao];exact zcm 70000 m q _ _ [] _ _
    | some l=>
     show cond true _ _=_;rw [z00];have hl:=yi4 hp
     have:=zwc 70000 m q hr l (by omega) (yf1 (y96 hr) hp) l.length 0 70000 (by omega) (by omega)
     rw [v11] at this;exact this
   | false=>
    rw [z02,z02];cases v.kind==2 with
    | false=>rfl
    | true=>
     rw [z00,z00];show cond ((z9x q).has v.p v.twin) (some (V.bool (z5u m q v.p v.twin),[])) (some (V.bool false,[]))=some (V.bool ((z9x q).has v.p v.twin&&z5u m q v.p v.twin),[]);cases (z9x q).has v.p v.twin <;> rfl
 ·simp [R.get] at h
open Go Go.Proofs
def z4l (N:Nat):Env:=mkE [] [(4,⟨[2,13,14,15],[],[]⟩)] 37 N
abbrev z2f (b2:Bool) (l13:List IV) (x14 x15:Int):St:=⟨[(2,(.bool b2)),(13,(.list true [.bool,(.int .i64),(.int .i64)] l13)),(14,(.i x14)),(15,(.i x15))],[]⟩
theorem zza (N:Nat) (l:List IV):z11 (z4l N) z69 [.tmp 2] [[.bool]] [(.list true [.bool,.int .i64,.int .i64] l)]=(cond (decide (ic (List.length l) < 1)) (some ((.bool false),[])) (cond (decide (ic (List.length l) > 65536)) (some ((.bool false),[])) (lpE (z4l N) (z0j z69 [1,1,0,1,0,0]) ⟨[2,13,14,15],[],[]⟩ N (z2f false l (ic (List.length l)) 0) (z06 0 (kSq (z4l N) (z0j z69 [1,1,1]) (z30 (z4l N) none [(ResultVar.tmp 2)] [[.bool]])))))):=by kernel_rfl
theorem zgu (N:Nat) (b2:Bool) (l13:List IV) (x14 x15:Int) (again:St→Res) (k:Out→St→Res):rnd (z4l N) (z0j z69 [1,1,0,1,0,0]) (z2f b2 l13 x14 x15) (z3t again ⟨[2,13,14,15],[],[]⟩ k)=(cond (decide (x15 < x14)) (cond (decide (0≤x15)&&decide (x15 < ic (List.length l13))) (cond (IV.toBool (IV.cell (List.getD l13 (Int.toNat x15) default) 0)) (cond (! (IV.toBool (IV.cell (List.getD l13 (Int.toNat x15) default) 0)==true&&(IV.toInt (IV.cell (List.getD l13 (Int.toNat x15) default) 1)==0&&(IV.toInt (IV.cell (List.getD l13 (Int.toNat x15) default) 2)==0&&true)))) (k .ret (z2f false l13 x14 x15)) (cond (decide (IV.toInt (IV.cell (List.getD l13 (Int.toNat x15) default) 1) < 0)) (k .ret (z2f false l13 x14 x15)) (cond (decide (IV.toInt (IV.cell (List.getD l13 (Int.toNat x15) default) 1) > 4)) (k .ret (z2f false l13 x14 x15)) (again (z2f b2 l13 x14 (IntKind.wrap IntKind.i64 (x15+1))))))) (cond (decide (IV.toInt (IV.cell (List.getD l13 (Int.toNat x15) default) 1) < 0)) (k .ret (z2f false l13 x14 x15)) (cond (decide (IV.toInt (IV.cell (List.getD l13 (Int.toNat x15) default) 1) > 4)) (k .ret (z2f false l13 x14 x15)) (again (z2f b2 l13 x14 (IntKind.wrap IntKind.i64 (x15+1))))))) none) (k (.exit 0) (z2f b2 l13 x14 x15))):=by kernel_rfl
theorem znn (N:Nat) (b2:Bool) (l13:List IV) (x14 x15:Int):(z06 0 (kSq (z4l N) (z0j z69 [1,1,1]) (z30 (z4l N) none [(ResultVar.tmp 2)] [[.bool]]))) (.exit 0) (z2f b2 l13 x14 x15)=(some ((.bool true),[])):=by kernel_rfl
theorem zmx (N:Nat) (b2:Bool) (l13:List IV) (x14 x15:Int):(z06 0 (kSq (z4l N) (z0j z69 [1,1,1]) (z30 (z4l N) none [(ResultVar.tmp 2)] [[.bool]]))) .ret (z2f b2 l13 x14 x15)=(some ((.bool b2),[])):=by kernel_rfl
def y0j (N:Nat):Env:=mkE [(106,zbo)] [] 47 N
theorem zzt (N:Nat) (u00:Int) (u01:List IV) (u04 u05 u06 u07 u03 u02:Int):z11 (y0j N) zpb [.tmp 2] [[.bool]] [(.agg [(.i u00),(.list true [.bool,.int .i64,.int .i64] u01),(.i u04),(.i u05),(.i u06),(.i u07),(.i u03),(.i u02)])]=(cond (decide (u02 < 0)) (some ((.bool false),[])) (cond (decide (u02 > 65536)) (some ((.bool false),[])) (cond (u04==0&&(u05==0&&(u06==0&&(u07==0&&true)))) (cond (u00==1) (cond (u03==0) (some ((.bool (zw7 u01)),[])) (some ((.bool false),[]))) (cond (u00==2) (some ((.bool (ic (List.length u01)==0)),[])) (cond (u00==3) (cond (u03==0) (some ((.bool (ic (List.length u01)==0)),[])) (some ((.bool false),[]))) (cond (u00==4) (cond (u03==0) (some ((.bool (ic (List.length u01)==0)),[])) (some ((.bool false),[]))) (some ((.bool false),[])))))) (cond (u00==1) (some ((.bool false),[])) (cond (u00==2) (some ((.bool (ic (List.length u01)==0)),[])) (cond (u00==3) (some ((.bool false),[])) (cond (u00==4) (some ((.bool false),[])) (some ((.bool false),[]))))))))):=by kernel_rfl
def z74 (N:Nat):Env:=mkE [(43,z32),(97,z1t),(60,z0z)] [(2,⟨[0,11,12,13],[900000],[]⟩)] 26 N
abbrev za1 (l11:List IV) (x12 x13:Int) (u00:ByteArray):St:=⟨[(0,(.ptr 900000 0 0)),(11,(.list false [(.int .i64)] l11)),(12,(.i x12)),(13,(.i x13))],[(900000,(some (.bld u00)))]⟩
theorem y12 (N:Nat) (b word:ByteArray) (l:List IV):z11 (z74 N) z91 [] [] [(.bor [.bld b]),(.str word),(.list false [.int .i64] l)]=(cond (decide (ByteArray.size b+ByteArray.size word≤strMax)) (lpE (z74 N) (z0j z91 [1,0,1,0,0]) ⟨[0,11,12,13],[900000],[]⟩ N (za1 l (ic (List.length l)) 0 (b++word)) (z06 0 (kSq (z74 N) (z0j z91 [1,1]) (z30 (z74 N) (some [(.bld b)]) [] [])))) none):=by kernel_rfl
theorem zj2 (N:Nat) (l11:List IV) (x12 x13:Int) (u00:ByteArray) (again:St→Res) (k:Out→St→Res):rnd (z74 N) (z0j z91 [1,0,1,0,0]) (za1 l11 x12 x13 u00) (z3t again ⟨[0,11,12,13],[900000],[]⟩ k)=(cond (decide (x13 < x12)) (cond (decide (0≤x13)&&decide (x13 < ic (List.length l11))) (cond (decide (ByteArray.size u00+1≤strMax)) (cond (decide (ByteArray.size (ByteArray.push u00 (zdq 32))+ByteArray.size (z0p (IV.toInt (List.getD l11 (Int.toNat x13) default)))≤strMax)) (again (za1 l11 x12 (IntKind.wrap IntKind.i64 (x13+1)) (ByteArray.push u00 (zdq 32)++z0p (IV.toInt (List.getD l11 (Int.toNat x13) default))))) none) none) none) (k (.exit 0) (za1 l11 x12 x13 u00))):=by kernel_rfl
theorem zq8 (N:Nat) (b:ByteArray) (l11:List IV) (x12 x13:Int) (u00:ByteArray):(z06 0 (kSq (z74 N) (z0j z91 [1,1]) (z30 (z74 N) (some [(.bld b)]) [] []))) (.exit 0) (za1 l11 x12 x13 u00)=(cond (decide (ByteArray.size u00+1≤strMax)) (some ((.tup []),[[(.bld (ByteArray.push u00 (zdq 10)))]])) none):=by kernel_rfl
open Go Go.Proofs
theorem y1f (N:Nat) (l:List IV) (K:Out→St→Res) (hl:l.length≤65536)
  (hx:∀ b2 x14 x15,K (.exit 0) ⟨[(2,(.bool b2)),(13,(.list true [.bool,(.int .i64),(.int .i64)] l)),(14,(.int .i64 x14)),(15,(.int .i64 x15))],[]⟩=some (.bool true,[]))
  (hr:∀ b2 x14 x15,K .ret ⟨[(2,(.bool b2)),(13,(.list true [.bool,(.int .i64),(.int .i64)] l)),(14,(.int .i64 x14)),(15,(.int .i64 x15))],[]⟩=some (.bool b2,[])) :
  ∀ (d i n:Nat),i+d=l.length→d < n→lpE (z4l N) (z0j z69 [1,1,0,1,0,0]) ⟨[2,13,14,15],[],[]⟩ n ⟨[(2,(.bool false)),(13,(.list true [.bool,(.int .i64),(.int .i64)] l)),(14,(.int .i64 (ic l.length))),(15,(.int .i64 (i:Int)))],[]⟩ K=some (.bool ((l.drop i).all y88),[])
 | 0,i,n+1,hd,_=>by
  rw [z05,zgu];rw [zbh (by omega),v1e (by omega)]
  simp only [v1q,List.all_nil];exact hx ..
 | d+1,i,n+1,hd,hn=>by
  rw [z05,zgu];have hi:i < l.length:=by omega
  rw [z9k hi,zep,z82 (by omega),zah hi,v0i hi,v32]
  generalize l[i]=x;have ih:=y1f N l K hl hx hr d (i+1) n (by omega) (by omega)
  rw [ih];generalize (List.drop (i+1) l).all y88=rest;unfold y88 zcb z1n zi2;simp only [v2h,v1c,yct,zmi,zkb];cases hs:IV.toBool (IV.cell x 0) <;> cases hp0:decide (IV.toInt (IV.cell x 1) < 0) <;> cases hp4:decide (4 < IV.toInt (IV.cell x 1)) <;> cases hz:decide (IV.toInt (IV.cell x 1)=0) <;> cases ha:decide (IV.toInt (IV.cell x 2)=0) <;>
   (simp only [v2h,v1q,v0c,v0h,v1c,v2c,v0r,v0v,beq_self_eq_true,hr]
    try rfl)
 | 0,_,0,_,h=>by omega
 | _+1,_,0,_,h=>by omega
theorem zu1:z2y PR B0 106 zbo:=by
 refine z0i [] [(4,⟨[2,13,14,15],[],[]⟩)] zbo [[.bool]] Tryz.func106 y16 trivial ?_;intro vs r hwf h;unfold zbo at h
 split at h
 ·rename_i l
  refine ⟨l.length+1,?_⟩;rw [← h];refine (zza (l.length+1) l).trans ?_;simp only [R.get_ok];unfold zw7
  by_cases h1:l.length < 1
  ·have e1:decide (ic l.length < 1)=true:=v01 (by show ((l.length:Nat):Int) < 1; omega)
   have e2:decide (1≤l.length)=false:=v07 (by omega)
   rw [e1,e2]; rfl
  ·have e1:decide (ic l.length < 1)=false:=v07 (by show ¬ ((l.length:Nat):Int) < 1; omega)
   have e2:decide (1≤l.length)=true:=v01 (by omega)
   rw [e1,e2];simp only [v1q,v0r]
   by_cases h3:l.length≤65536
   ·have e3:decide (ic l.length > 65536)=false:=v07 (by show ¬ ((l.length:Nat):Int) > 65536; omega)
    have e4:decide (l.length≤65536)=true:=v01 h3;rw [e3,e4];simp only [v1q,v0r]
    have:=y1f (l.length+1) l _ h3 (fun b2 x14 x15=>znn (l.length+1) b2 l x14 x15) (fun b2 x14 x15=>zmx (l.length+1) b2 l x14 x15) l.length 0 (l.length+1) (by omega) (by omega)
    rw [v11] at this;exact this
   ·have e3:decide (ic l.length > 65536)=true:=v01 (by show ((l.length:Nat):Int) > 65536; omega)
    have e4:decide (l.length≤65536)=false:=v07 h3;rw [e3,e4]; rfl
 ·simp [R.get] at h
theorem yb4 (l:List IV):(ic l.length==0)=l.isEmpty:=by
 cases l with
 | nil=>rfl
 | cons a l=>
  simp only [ic,List.isEmpty_cons,v05];rw [v1a];omega
theorem zuc:z2y PR B0 62 zbd:=by
 refine z0i [(106,zbo)] [] zbd [[.bool]] Tryz.func62 y1b ⟨zu1,trivial⟩ ?_;intro vs r hwf h;unfold zbd at h
 split at h
 ·rename_i k p a b c d t s
  refine ⟨0,?_⟩;rw [← h];refine (zzt 0 k p a b c d t s).trans ?_;simp only [R.get_ok,yb4];unfold Vd.right Vd.bare;simp only [yct,zmi,v1c];generalize zw7 p=sp;generalize p.isEmpty=pe;cases decide (s < 0) <;> cases decide (65536 < s) <;> simp only [v2h,v1q,v0c,v0h,v0r,v0v]
  by_cases k1:k=1
  ·subst k1
   cases a==0 <;> cases b==0 <;> cases c==0 <;> cases d==0 <;> cases t==0 <;> cases sp <;> cases pe <;> rfl
  by_cases k2:k=2
  ·subst k2
   cases a==0 <;> cases b==0 <;> cases c==0 <;> cases d==0 <;> cases t==0 <;> cases sp <;> cases pe <;> rfl
  by_cases k3:k=3
  ·subst k3
   cases a==0 <;> cases b==0 <;> cases c==0 <;> cases d==0 <;> cases t==0 <;> cases sp <;> cases pe <;> rfl
  by_cases k4:k=4
  ·subst k4
   cases a==0 <;> cases b==0 <;> cases c==0 <;> cases d==0 <;> cases t==0 <;> cases sp <;> cases pe <;> rfl
  simp only [v1a.2 k1,v1a.2 k2,v1a.2 k3,v1a.2 k4,v1q,v0v,v3q,Bool.cond_self]
 ·simp [R.get] at h
theorem zhz:∀ (l:List IV) (s:ByteArray),s.size≤(zuw s l).size
 | [],s=>v09 _
 | x :: l,s=>by
  simp only [zuw];refine v1p ?_ (zhz l _);simp only [v0g,v3i];omega
theorem y8r (N:Nat) (l:List IV) (K:Out→St→Res) (hl:l.length≤strMax) (z:Res)
  (hx:∀ s x12 x13,s=zuw s []→K (.exit 0) ⟨[(0,(.ptr 900000 0 0)),(11,(.list false [(.int .i64)] l)),(12,(.int .i64 x12)),(13,(.int .i64 x13))],[(900000,(some (.bld s)))]⟩=cond (decide (s.size+1≤strMax)) (some (.tup [],[[.bld (s.push (zdq 10))]])) none) :
  ∀ (d i n:Nat) (s:ByteArray),i+d=l.length→d < n→(zuw s (l.drop i)).size≤strMax→lpE (z74 N) (z0j z91 [1,0,1,0,0]) ⟨[0,11,12,13],[900000],[]⟩ n ⟨[(0,(.ptr 900000 0 0)),(11,(.list false [(.int .i64)] l)),(12,(.int .i64 (ic l.length))),(13,(.int .i64 (i:Int)))],[(900000,(some (.bld s)))]⟩ K =
   cond (decide ((zuw s (l.drop i)).size+1≤strMax)) (some (.tup [],[[.bld ((zuw s (l.drop i)).push (zdq 10))]])) none
 | 0,i,n+1,s,hd,_,_=>by
  rw [z05,zj2,zbh (by omega),v1e (by omega)]
  simp only [v1q,zuw];exact hx s _ _ rfl
 | d+1,i,n+1,s,hd,hn,hs=>by
  have hi:i < l.length:=by omega
  unfold strMax at hl;rw [z05,zj2,z9k hi,zep,z82 (by omega),zah hi]
  rw [v0i hi] at hs ⊢
  simp only [zuw] at hs ⊢
  have e32:zdq 32=32:=rfl;rw [e32];have hsz:=zhz (l.drop (i+1)) (s.push 32++z0p l[i].toInt);have h1:decide (s.size+1≤strMax)=true:=v01 (by
   simp only [v0g,v3i] at hsz;omega)
  have h2:decide ((s.push 32).size+(z0p l[i].toInt).size≤strMax)=true:=v01 (by
   simp only [v0g] at hsz;omega)
  rw [h1,h2];simp only [v2h,v1c];exact y8r N l K (by unfold strMax; omega) z hx d (i+1) n _ (by omega) (by omega) hs
 | 0,_,0,_,_,h,_=>by omega
 | _+1,_,0,_,_,h,_=>by omega
theorem zz3:z2y PR B0 63 zcq:=by
 refine z0i [(43,z32),(97,z1t),(60,z0z)] [(2,⟨[0,11,12,13],[900000],[]⟩)] zcq [] Tryz.func63 y6d ⟨z8t,z6r,z3o,trivial⟩ ?_;intro vs r hwf h;unfold zcq at h
 split at h
 ·rename_i s w l
  refine ⟨l.length+1,?_⟩;rw [← h];refine (y12 (l.length+1) s w l).trans ?_;simp only [R.get_br,R.get_ok,R.get_no];have hwf:=hwf (by simp [zc8,z6e])
  simp only [yfd,wfV,wfLs,wfL] at hwf;rw [R.get_br,R.get_ok,R.get_no] at h;cases hc:decide ((z4s s w l).size≤strMax) with
  | false=>rw [hc] at h; cases h
  | true=>
   have hle:=v0f hc;unfold z4s at hle ⊢
   rw [v3i] at hle;have h1:=zhz l (s++w);have e1:decide (s.size+w.size≤strMax)=true:=v01 (by rw [v0g] at h1; omega)
   rw [e1];simp only [v2h]
   have:=y8r (l.length+1) l _ hwf.2.2.1.1 none (fun s' x12 x13 _=>zq8 (l.length+1) s l x12 x13 s') l.length 0 (l.length+1) (s++w) (by omega) (by omega) (by rw [v11]; omega)
   rw [v11] at this;refine this.trans ?_;rw [v01 hle]
   rfl
 ·simp [R.get] at h
open Go Go.Proofs
def z63 (N:Nat):Env:=mkE [(62,zbd),(63,zcq),(56,z1f)] [(9,⟨[2,3,25,26,27],[3],[]⟩)] 61 N
abbrev z70 (s2:ByteArray) (l25:List IV) (x26 x27:Int) (so3:ByteArray):St:=⟨[(2,(.str s2)),(3,(.ptr 3 0 0)),(25,(.list true z2x l25)),(26,(.i x26)),(27,(.i x27))],[(3,(some (.bld so3)))]⟩
theorem zxx (N:Nat) (v:Vd):z11 (z63 N) z7g [.tmp 2] [[.str]] [(Vd.V v)]=(cond (!Vd.right v) (some ((.str ({data:=#[]})),[])) (cond (Vd.kind v==1) (cond (decide (ByteArray.size (z4s ByteArray.empty {data:=#[104,111,108,100,115]} [IV.int (Vd.spent v),IV.int (ic (List.length (Vd.proof v)))])≤strMax)) (lpE (z63 N) (z0j z7g [1,1,1,0,1,0,1,0,1,1,0,0]) ⟨[2,3,25,26,27],[3],[]⟩ N (z70 ({data:=#[]}) (Vd.proof v) (ic (List.length (Vd.proof v))) 0 (z4s ByteArray.empty {data:=#[104,111,108,100,115]} [IV.int (Vd.spent v),IV.int (ic (List.length (Vd.proof v)))])) (z06 1 (z06 0 (kSq (z63 N) (z0j z7g [1,1,1,1]) (z30 (z63 N) none [(ResultVar.tmp 2)] [[.str]]))))) none) (cond (Vd.kind v==2) (cond (decide (ByteArray.size (z4s ByteArray.empty {data:=#[102,97,105,108,115]} (List.drop 0 (List.take (1+4+1) (List.take (1+4) (List.take 1 [IV.int (Vd.spent v)]++[IV.int (Vd.w0 v),IV.int (Vd.w1 v),IV.int (Vd.w2 v),IV.int (Vd.w3 v)])++[IV.int (Vd.twin v)]))))≤strMax)) (some ((.str (z4s ByteArray.empty {data:=#[102,97,105,108,115]} (List.drop 0 (List.take (1+4+1) (List.take (1+4) (List.take 1 [IV.int (Vd.spent v)]++[IV.int (Vd.w0 v),IV.int (Vd.w1 v),IV.int (Vd.w2 v),IV.int (Vd.w3 v)])++[IV.int (Vd.twin v)]))))),[])) none) (cond (Vd.kind v==3) (cond (decide (ByteArray.size (z4s ByteArray.empty {data:=#[117,110,107,110,111,119,110]} [IV.int (Vd.spent v)])≤strMax)) (some ((.str (z4s ByteArray.empty {data:=#[117,110,107,110,111,119,110]} [IV.int (Vd.spent v)])),[])) none) (cond (decide (ByteArray.size (z4s ByteArray.empty {data:=#[119,114,111,110,103]} [IV.int (Vd.spent v)])≤strMax)) (some ((.str (z4s ByteArray.empty {data:=#[119,114,111,110,103]} [IV.int (Vd.spent v)])),[])) none))))):=by kernel_rfl
theorem zh0 (N:Nat) (s2:ByteArray) (l25:List IV) (x26 x27:Int) (so3:ByteArray) (again:St→Res) (k:Out→St→Res):rnd (z63 N) (z0j z7g [1,1,1,0,1,0,1,0,1,1,0,0]) (z70 s2 l25 x26 x27 so3) (z3t again ⟨[2,3,25,26,27],[3],[]⟩ k)=(cond (decide (x27 < x26)) (cond (decide (0≤x27)&&decide (x27 < ic (List.length l25))) (cond (IV.toBool (IV.cell (List.getD l25 (Int.toNat x27) default) 0)) (cond (decide (ByteArray.size (z4s so3 {data:=#[115,117,109]} [])≤strMax)) (again (z70 s2 l25 x26 (IntKind.wrap IntKind.i64 (x27+1)) (z4s so3 {data:=#[115,117,109]} []))) none) (cond (decide (ByteArray.size (z4s so3 {data:=#[99,117,116]} [IV.int (IV.toInt (IV.cell (List.getD l25 (Int.toNat x27) default) 1)),IV.int (IV.toInt (IV.cell (List.getD l25 (Int.toNat x27) default) 2))])≤strMax)) (again (z70 s2 l25 x26 (IntKind.wrap IntKind.i64 (x27+1)) (z4s so3 {data:=#[99,117,116]} [IV.int (IV.toInt (IV.cell (List.getD l25 (Int.toNat x27) default) 1)),IV.int (IV.toInt (IV.cell (List.getD l25 (Int.toNat x27) default) 2))]))) none)) none) (k (.exit 1) (z70 s2 l25 x26 x27 so3))):=by kernel_rfl
theorem znx (N:Nat) (s2:ByteArray) (l25:List IV) (x26 x27:Int) (so3:ByteArray):(z06 1 (z06 0 (kSq (z63 N) (z0j z7g [1,1,1,1]) (z30 (z63 N) none [(ResultVar.tmp 2)] [[.str]])))) (.exit 1) (z70 s2 l25 x26 x27 so3)=(some ((.str so3),[])):=by kernel_rfl
open Go Go.Proofs
theorem zw8 (s w:ByteArray) (l:List IV):s.size≤(z4s s w l).size:=by
 unfold z4s
 have:=zhz l (s++w)
 rw [v0g] at this;rw [v3i];omega
theorem zd7:∀ (l:List IV) (s:ByteArray),s.size≤(z9a s l).size
 | [],s=>v09 _
 | x :: l,s=>by
  unfold z9a;refine v1p ?_ (zd7 l _);cases zcb x
  ·exact zw8 _ _ _
  ·exact zw8 _ _ _
theorem zw5 (N:Nat) (l:List IV) (t:ByteArray) (K:Out→St→Res) (hl:l.length≤65536)
  (hx:∀ s x26 x27,K (.exit 1) ⟨[(2,(.str t)),(3,(.ptr 3 0 0)),(25,(.list true z2x l)),(26,(.int .i64 x26)),(27,(.int .i64 x27))],[(3,(some (.bld s)))]⟩=some (.str s,[])) :
  ∀ (d i n:Nat) (s:ByteArray),i+d=l.length→d < n→(z9a s (l.drop i)).size≤strMax →
   lpE (z63 N) (z0j z7g [1,1,1,0,1,0,1,0,1,1,0,0]) ⟨[2,3,25,26,27],[3],[]⟩ n ⟨[(2,(.str t)),(3,(.ptr 3 0 0)),(25,(.list true z2x l)),(26,(.int .i64 (ic l.length))),(27,(.int .i64 (i:Int)))],[(3,(some (.bld s)))]⟩ K=some (.str (z9a s (l.drop i)),[])
 | 0,i,n+1,s,hd,_,_=>by
  rw [z05,zh0,zbh (by omega),v1e (l:=l) (i:=i) (by omega)]
  simp only [z02,z9a];exact hx s _ _
 | d+1,i,n+1,s,hd,hn,hs=>by
  have hi:i < l.length:=by omega
  rw [z05,zh0,z9k hi,zep,z82 (by omega),zah hi]
  rw [v0i hi] at hs ⊢
  simp only [z9a] at hs ⊢
  simp only [z00,v1c];have hsz:=zd7 (l.drop (i+1)) (cond (zcb l[i]) (z4s s ygw []) (z4s s yhi [.int (z1n l[i]),.int (zi2 l[i])]));have ih:=fun s' h'=>zw5 N l t K hl hx d (i+1) n s' (by omega) (by omega) h'
  have es:(l[i].cell 0).toBool=zcb l[i]:=rfl;rw [es];cases hc:zcb l[i] with
  | true=>
   rw [hc] at hsz hs;simp only [z00] at hsz hs ⊢
   rw [v01 (show (z4s s ygw []).size≤strMax by omega)]
   simp only [z00];exact ih _ hs
  | false=>
   rw [hc] at hsz hs;simp only [z02] at hsz hs ⊢
   have e2:[IV.int (IV.toInt (IV.cell l[i] 1)),IV.int (IV.toInt (IV.cell l[i] 2))]=[.int (z1n l[i]),.int (zi2 l[i])]:=rfl;rw [e2,v01 (show (z4s s yhi [.int (z1n l[i]),.int (zi2 l[i])]).size≤strMax by omega)]
   simp only [z00];exact ih _ hs
 | 0,_,0,_,_,h,_=>by omega
 | _+1,_,0,_,_,h,_=>by omega
theorem yed {v:Vd} (h:v.right=true):v.proof.length≤65536:=by
 unfold Vd.right at h;simp only [v02,v2v] at h;rcases h.2.2 with h1 | h1 | h1
 ·have:=h1.2.2
  unfold zw7 at this;simp only [v02,v06] at this;exact this.2.1
 ·have:=h1.2
  cases hp:v.proof with
  | nil=>simp
  | cons a b=>rw [hp] at this; cases this
 ·have:=h1.2.2
  cases hp:v.proof with
  | nil=>simp
  | cons a b=>rw [hp] at this; cases this
theorem ztx:z2y PR B0 24 zb0:=by
 refine z0i [(62,zbd),(63,zcq),(56,z1f)] [(9,⟨[2,3,25,26,27],[3],[]⟩)] zb0 [[.str]] Tryz.func24 y4h ⟨zuc,zz3,z4z,trivial⟩ ?_;intro vs r hwf h;unfold zb0 at h
 split at h
 ·rename_i k p a b c d t s
  obtain ⟨v,hv⟩:∃ v:Vd,v=⟨k,p,a,b,c,d,t,s⟩:=⟨_,rfl⟩;refine ⟨v.proof.length+1,?_⟩;rw [← h];rw [← hv] at h ⊢
  have hn:=zxx (v.proof.length+1) v;rw [show Vd.V v = .agg [.int .i64 k,.list true [.bool,.int .i64,.int .i64] p,.int .i64 a,.int .i64 b,.int .i64 c,.int .i64 d,.int .i64 t,.int .i64 s] by rw [hv]; rfl] at hn
  refine hn.trans ?_;clear hn;rw [R.get_br,R.get_ok,R.get_no] at h;simp only [R.get_br,R.get_ok,R.get_no];cases hc:decide ((za0 v).size≤strMax) with
  | false=>rw [hc] at h; cases h
  | true=>
   have hle:=v0f hc;simp only [z00];unfold za0 at hle ⊢
   cases hr:Vd.right v with
   | false=>rfl
   | true=>
    rw [hr] at hle;simp only [v0c,z00,z02] at hle ⊢
    have e0:ByteArray.empty=z3k:=rfl;simp only [e0];cases k1:v.kind==1 with
    | true=>
     rw [k1] at hle;simp only [z00] at hle ⊢
     have h1:=zd7 v.proof (z4s z3k zyg [.int v.spent,.int (ic v.proof.length)]);rw [v01 (show (z4s z3k zyg [.int v.spent,.int (ic v.proof.length)]).size≤strMax by omega)]
     simp only [z00]
     have:=zw5 (v.proof.length+1) v.proof z3k _ (yed hr) (fun s' x26 x27=>znx (v.proof.length+1) z3k v.proof x26 x27 s') v.proof.length 0 (v.proof.length+1) (z4s z3k zyg [.int v.spent,.int (ic v.proof.length)]) (by omega) (by omega) (by rw [v11]; exact hle)
     rw [v11] at this;exact this
    | false=>
     rw [k1] at hle;simp only [z02] at hle ⊢
     cases k2:v.kind==2 with
     | true=>
      rw [k2] at hle;simp only [z00] at hle ⊢
      have ew:(List.drop 0 (List.take (1+4+1) (List.take (1+4) (List.take 1 [IV.int (Vd.spent v)]++[IV.int (Vd.w0 v),IV.int (Vd.w1 v),IV.int (Vd.w2 v),IV.int (Vd.w3 v)])++[IV.int (Vd.twin v)])))=[.int v.spent,.int v.w0,.int v.w1,.int v.w2,.int v.w3,.int v.twin]:=rfl;rw [ew,v01 hle]
      rfl
     | false=>
      rw [k2] at hle;simp only [z02] at hle ⊢
      cases k3:v.kind==3 with
      | true=>
       rw [k3] at hle;simp only [z00] at hle ⊢
       rw [v01 hle]
       rfl
      | false=>
       rw [k3] at hle;simp only [z02] at hle ⊢
       rw [v01 hle]
       rfl
 ·simp [R.get] at h
open Go
abbrev zk7:ByteArray:=⟨#[113,117,101,114,121,32]⟩
abbrev yhf:ByteArray:=⟨#[109,111,100,101,108,10]⟩
def z5p (s:ByteArray):List IV:=cond (s.toList==z3k.toList) [] ((z0s (z40 s zwh) zwh).map IV.str)
def z3v:z0q
 | [.str s]=>.br (decide (s.size < 4294967281)) (.ok (.list false [.str] (z5p s)) []) .no
 | _=>.no
def ybe:Vd:=⟨4,[],0,0,0,0,0,0⟩
def yk7 (m:Md) (l:ByteArray):Bool:=y4v l&&(yi1 l==m.d&&z3f m (zkh l))
def ygd (m:Md) (q:Qy):Vd:=cond ((yd5 m q).kind==3||zs9 m q (yd5 m q)) (yd5 m q) ybe
def ya5 (m:Md) (l:ByteArray):Vd:=cond (yk7 m l) (ygd m (zkh l)) ybe
def z79:z0q
 | [m,.str l]=>zf6 m fun m=>.br (decide (l.size < 4294967281)) (.ok (ya5 m l).V []) .no
 | _=>.no
def zqm (i:Nat):ByteArray:=(zk7++z0p (i:Int))++zwh
def ydm (i:Int):ByteArray:=(zk7++z0p i)++zwh
def ygo (m:Md):ByteArray→Nat→List IV→ByteArray
 | s,_,[]=>s
 | s,i,x :: l=>ygo m (s++zqm i++za0 (ya5 m x.toStr)) (i+1) l
def ykd (a b:ByteArray):ByteArray:=cond (zx2 a) (ygo (ze2 a) z3k 0 (z5p b)) yhf
def zb5:z0q
 | [.str a,.str b]=>.br (decide (a.size < 4294967281)&&(decide (b.size < 4294967281)&&decide ((ykd a b).size≤strMax))) (.ok (.str (ykd a b)) []) .no
 | _=>.no
def Vd.I (v:Vd):IV:=.agg [.int v.kind,.list v.proof,.int v.w0,.int v.w1,.int v.w2,.int v.w3,.int v.twin,.int v.spent]
open Go Go.Proofs
open Go Go.Proofs
def zv6 (N:Nat):Env:=mkE [(46,z2p),(47,z2l)] [] 8 N
theorem zs7 (N:Nat) (s:ByteArray):z11 (zv6 N) zjc [.tmp 2] [[.list false [.str]]] [(.str s)]=(cond (ByteArray.toList s==ByteArray.toList {data:=#[]}) (some ((.list false [.str] []),[])) (cond (decide (ByteArray.size (z40 s {data:=#[10]}) < 4294967281)&&decide (1≤ByteArray.size {data:=#[10]})) (some ((.list false [.str] (List.map IV.str (z0s (z40 s {data:=#[10]}) {data:=#[10]}))),[])) none)):=by kernel_rfl
def zsc (N:Nat):Env:=mkE [(73,zda),(26,z8b),(65,z2j),(35,zb6)] [] 46 N
theorem zpl (N:Nat) (m:Md) (line:ByteArray):z11 (zsc N) zh8 [.cell 4 55] [[.int .i64,.list true [.bool,.int .i64,.int .i64],.int .i64,.int .i64,.int .i64,.int .i64,.int .i64,.int .i64]] [(Md.V m),(.str line)]=(cond (decide (ByteArray.size line < 4294967281)) (cond (!y4v line) (some ((.agg [(.i 4),(.list true z2x []),(.i 0),(.i 0),(.i 0),(.i 0),(.i 0),(.i 0)]),[])) (cond (yi1 line != Md.d m) (some ((.agg [(.i 4),(.list true z2x []),(.i 0),(.i 0),(.i 0),(.i 0),(.i 0),(.i 0)]),[])) (cond (!z3f m (zkh line)) (some ((.agg [(.i 4),(.list true z2x []),(.i 0),(.i 0),(.i 0),(.i 0),(.i 0),(.i 0)]),[])) (cond (Vd.kind (yd5 m (zkh line))==3) (some ((Vd.V (yd5 m (zkh line))),[])) (cond (zs9 m (zkh line) (yd5 m (zkh line))) (some ((Vd.V (yd5 m (zkh line))),[])) (some ((.agg [(.i 4),(.list true z2x []),(.i 0),(.i 0),(.i 0),(.i 0),(.i 0),(.i 0)]),[]))))))) none):=by kernel_rfl
def z6b (N:Nat):Env:=mkE [(24,zb0),(32,z79),(31,z3v),(43,z32),(56,z1f),(60,z0z),(19,zbk)] [(6,⟨[4,5,7,18,19,20],[5,7],[]⟩)] 37 N
abbrev z5k (u00 s4:ByteArray) (l18:List IV) (x19 x20:Int) (so7:ByteArray):St:=⟨[(4,(.str s4)),(5,(.ptr 5 0 0)),(7,(.ptr 7 0 0)),(18,(.list false [.str] l18)),(19,(.i x19)),(20,(.i x20))],[(5,(some (.box (Md.cs (ze2 u00))))),(7,(some (.bld so7)))]⟩
theorem zzo (N:Nat) (u00 u01:ByteArray):z11 (z6b N) z77 [.tmp 4] [[.str]] [(.str u00),(.str u01)]=(cond (decide (ByteArray.size u00 < 4294967281)) (cond (!zx2 u00) (some ((.str ({data:=#[109,111,100,101,108,10]})),[])) (cond (decide (ByteArray.size u01 < 4294967281)) (lpE (z6b N) (z0j z77 [1,1,1,1,0,1,0,0]) ⟨[4,5,7,18,19,20],[5,7],[]⟩ N (z5k u00 ({data:=#[]}) (z5p u01) (ic (List.length (z5p u01))) 0 ByteArray.empty) (z06 0 (kSq (z6b N) (z0j z77 [1,1,1,1,1]) (z30 (z6b N) none [(ResultVar.tmp 4)] [[.str]])))) none)) none):=by kernel_rfl
theorem zhm (N:Nat) (u00 s4:ByteArray) (l18:List IV) (x19 x20:Int) (so7:ByteArray) (again:St→Res) (k:Out→St→Res):rnd (z6b N) (z0j z77 [1,1,1,1,0,1,0,0]) (z5k u00 s4 l18 x19 x20 so7) (z3t again ⟨[4,5,7,18,19,20],[5,7],[]⟩ k)=(cond (decide (x20 < x19)) (cond (decide (0≤x20)&&decide (x20 < ic (List.length l18))) (cond (decide (ByteArray.size {data:=#[113,117,101,114,121,32]}+ByteArray.size (z0p x20)≤strMax)) (cond (decide (ByteArray.size ({data:=#[113,117,101,114,121,32]}++z0p x20)+ByteArray.size {data:=#[10]}≤strMax)) (cond (decide (ByteArray.size so7+ByteArray.size (ydm x20)≤strMax)) (cond (decide (ByteArray.size (IV.toStr (List.getD l18 (Int.toNat x20) default)) < 4294967281)) (cond (decide (ByteArray.size (za0 (ya5 (ze2 u00) (IV.toStr (List.getD l18 (Int.toNat x20) default))))≤strMax)) (cond (decide (ByteArray.size (so7++(ydm x20))+ByteArray.size (za0 (ya5 (ze2 u00) (IV.toStr (List.getD l18 (Int.toNat x20) default))))≤strMax)) (again (z5k u00 s4 l18 x19 (IntKind.wrap IntKind.i64 (x20+1)) (so7++(ydm x20)++za0 (ya5 (ze2 u00) (IV.toStr (List.getD l18 (Int.toNat x20) default)))))) none) none) none) none) none) none) none) (k (.exit 0) (z5k u00 s4 l18 x19 x20 so7))):=by kernel_rfl
theorem zmz (N:Nat) (u00 s4:ByteArray) (l18:List IV) (x19 x20:Int) (so7:ByteArray):(z06 0 (kSq (z6b N) (z0j z77 [1,1,1,1,1]) (z30 (z6b N) none [(ResultVar.tmp 4)] [[.str]]))) (.exit 0) (z5k u00 s4 l18 x19 x20 so7)=(some ((.str so7),[])):=by kernel_rfl
open Go
theorem zn3 {s t:ByteArray} (h:s.data.toList=t.data.toList):s=t:=ByteArray.ext (Array.ext' h)
theorem zib (s t:ByteArray):(s.toList==t.toList)=decide (s=t):=by
 rw [Lib.toList_data,Lib.toList_data]
 by_cases h:s=t
 ·subst h; simp
 ·rw [v07 h,v1a]
  exact fun e=>h (zn3 e)
theorem zrd (s:ByteArray):s.size=s.data.toList.length:=by rw [v14]; rfl
theorem y3i (s sep:ByteArray):(z0s s sep).map (·.data.toList)=Lib.split s.data.toList sep.data.toList:=by
 unfold z0s Lib.split;rw [Lib.splitB_data]
open Go
theorem zlj (s t:ByteArray):(s++t).data.toList=s.data.toList++t.data.toList:=by simp
open Go
open Go
theorem zkk {x y:IV}:yl8 x y=true↔zcb x=zcb y∧z1n x=z1n y∧zi2 x=zi2 y:=by simp [yl8]
theorem zx4:∀ {l m:List IV},zjf l m=true→zjf m l=true
 | [],[],_=>rfl
 | [],_ :: _,h=>by simp [zjf] at h
 | _ :: _,[],h=>by simp [zjf] at h
 | x :: l,y :: m,h=>by
  simp only [zjf,v02] at h ⊢
  obtain ⟨h1,h2,h3⟩:=zkk.1 h.1;exact ⟨zkk.2 ⟨h1.symm,h2.symm,h3.symm⟩,zx4 h.2⟩
theorem zri:∀ {l m n:List IV},zjf l m=true→zjf m n=true→zjf l n=true
 | [],[],[],_,_=>rfl
 | [],[],_ :: _,_,h=>by simp [zjf] at h
 | [],_ :: _,_,h,_=>by simp [zjf] at h
 | _ :: _,[],_,h,_=>by simp [zjf] at h
 | _ :: _,_ :: _,[],_,h=>by simp [zjf] at h
 | x :: l,y :: m,z :: n,h,k=>by
  simp only [zjf,v02] at h k ⊢
  obtain ⟨h1,h2,h3⟩:=zkk.1 h.1;obtain ⟨k1,k2,k3⟩:=zkk.1 k.1;exact ⟨zkk.2 ⟨h1.trans k1,h2.trans k2,h3.trans k3⟩,zri h.2 k.2⟩
structure VSame (a b:Vd):Prop where
 kind:a.kind=b.kind
 proof:zjf a.proof b.proof=true
 w0:a.w0=b.w0
 w1:a.w1=b.w1
 w2:a.w2=b.w2
 w3:a.w3=b.w3
 twin:a.twin=b.twin
 spent:a.spent=b.spent
theorem VSame.symm {a b:Vd} (h:VSame a b):VSame b a:=⟨h.kind.symm,zx4 h.proof,h.w0.symm,h.w1.symm,h.w2.symm,h.w3.symm,h.twin.symm,h.spent.symm⟩
theorem VSame.trans {a b c:Vd} (h:VSame a b) (k:VSame b c):VSame a c:=⟨h.kind.trans k.kind,zri h.proof k.proof,h.w0.trans k.w0,h.w1.trans k.w1,h.w2.trans k.w2,h.w3.trans k.w3,h.twin.trans k.twin,h.spent.trans k.spent⟩
open Go
theorem zox:∀ {l m:List ByteArray},l.map (·.data.toList)=m.map (·.data.toList)→l=m
 | [],[],_=>rfl
 | [],_ :: _,h=>by simp at h
 | _ :: _,[],h=>by simp at h
 | x :: l,y :: m,h=>by
  simp only [v0d,v2s] at h;rw [zbi h.1,zox h.2]
open Go
theorem zgs (c:UInt8) (x y:List UInt8) (r:List (List UInt8)):Lib.join (x :: y :: r) [c]=x++c :: Lib.join (y :: r) [c]:=by
 rw [Lib.join_cons,Lib.join_cons];simp [Lib.joinTail]
theorem zjk (c:UInt8):∀ (x:List UInt8) (r:List (List UInt8)),(∀ w∈x :: r,c ∉ w)→Lib.split (Lib.join (x :: r) [c]) [c]=x :: r
 | x,[],h=>by rw [Lib.join_one]; exact yfl x c (h x (v0a ..))
 | x,y :: r,h=>by
  rw [zgs,yg4 x _ c (h x (v0a ..)),zjk c y r (fun w hw=>h w (v0b _ hw))]
theorem y5b {s:ByteArray} {l:List UInt8} (h:s.data.toList=l++[10]):(y3g s).data.toList=l:=by
 have hz:s.size=l.length+1:=by rw [zdw,h,v08]; rfl
 have hs:zhw s yeh=true:=by
  unfold zhw;have e1:ByteArray.size yeh=1:=rfl;rw [e1,v01 (show 1≤s.size by omega),v0r,zqk]
  refine v01 (zbi ?_);rw [v3l,v3s,v2e,h,hz];simp
 have e1:ByteArray.size yeh=1:=rfl;unfold y3g z40;rw [hs,e1];show (s.extract 0 (s.size - 1)).data.toList=l;rw [v3l,v3s,v2e,h,hz];simp
open Go
def lfs (L:List (List UInt8)):List UInt8:=L.flatMap fun l=>l++[10]
theorem zyn (l:List UInt8) (L:List (List UInt8)):lfs (l :: L)=l++10 :: lfs L:=by simp [lfs]
theorem ygv (L M:List (List UInt8)):lfs (L++M)=lfs L++lfs M:=by simp [lfs]
theorem y34 {s:ByteArray} {l:List UInt8} (h:s.data.toList=l++[10]):(z40 s zwh).data.toList=l:=y5b h
def yjj:Nat→List Vd→ByteArray
 | _,[]=>z3k
 | i,v :: r=>zqm i++(za0 v++yjj (i+1) r)
theorem yg1 (i:Nat):0 < (zqm i).size:=by
 unfold zqm;rw [v0g];show 0 < _+1;omega
theorem y8h:∀ (i:Nat) (vs:List Vd),vs.length≤(yjj i vs).size
 | _,[]=>v09 _
 | i,v :: r=>by
  have:=y8h (i+1) r
  have hp:=yg1 i;unfold yjj;rw [v0g,v0g,v05];omega
open Go
open Go
theorem yda (m:Md):∀ (ls:List IV) (s:ByteArray) (i:Nat),ygo m s i ls=s++yjj i (ls.map fun x=>ya5 m x.toStr)
 | [],s,i=>by
  show s=s++z3k;exact (v3k).symm
 | x :: l,s,i=>by
  rw [ygo,yda m l,v0d,yjj,v2d,v2d]
open Go Go.Proofs
theorem zbz:z2y PR B0 31 z3v:=by
 refine z0i [(46,z2p),(47,z2l)] [] z3v [[.list false [.str]]] Tryz.func31 zuu ⟨z7t,zaj,trivial⟩ ?_;intro vs r hwf h;unfold z3v at h
 split at h
 ·rename_i s
  cases hg:(decide (s.size < 4294967281)) with
  | false=>rw [hg] at h; simp [R.get] at h
  | true=>
  rw [hg,R.get_br,z00,R.get_ok] at h;refine ⟨0,(zs7 0 s).trans ?_⟩;have hz:=v0f hg;have ht:=zli s zwh;rw [show decide (1≤ByteArray.size { data:=#[10] })=true from rfl,v1c,v01 (show (z40 s { data:=#[10] }).size < 4294967281 by exact v3z ht hz),z00,← h]
  unfold z5p;cases (s.toList==z3k.toList) <;> rfl
 ·simp [R.get] at h
theorem znp:z2y PR B0 32 z79:=by
 refine z0i [(73,zda),(26,z8b),(65,z2j),(35,zb6)] [] z79 [[.int .i64,.list true [.bool,.int .i64,.int .i64],.int .i64,.int .i64,.int .i64,.int .i64,.int .i64,.int .i64]] Tryz.func32 zsw ⟨zzw,zpu,z7h,zub,trivial⟩ ?_;intro vs r hwf h;unfold z79 at h
 split at h
 ·rename_i m l
  replace h:=z3n h;obtain ⟨m,rfl,h⟩:=h;cases hg:(decide (l.size < 4294967281)) with
  | false=>rw [hg] at h; simp [R.get] at h
  | true=>
  rw [hg,R.get_br,z00,R.get_ok] at h;refine ⟨0,(zpl 0 m l).trans ?_⟩;rw [hg,z00,← h];unfold ya5 yk7 ygd;rw [show (yi1 l != m.d)=!(yi1 l==m.d) from rfl]
  cases y4v l
  ·rfl
  cases (yi1 l==m.d)
  ·rfl
  cases z3f m (zkh l)
  ·rfl
  cases ((yd5 m (zkh l)).kind==3)
  ·cases zs9 m (zkh l) (yd5 m (zkh l)) <;> rfl
  ·rfl
 ·simp [R.get] at h
theorem y47 (m:Md) (s:ByteArray) (i:Nat) (l:List IV):s.size+l.length≤(ygo m s i l).size:=by
 rw [yda,v0g]
 have:=y8h i (l.map fun x=>ya5 m x.toStr)
 rw [v12] at this;omega
theorem y7q (N:Nat) (a:ByteArray) (ls:List IV) (hs:∀ x∈ls,x.toStr.size < 4294967281) (hl:ls.length≤strMax) (K:Out→St→Res) (hx:∀ x y so,K (.exit 0) (z5k a z3k ls x y so)=some (.str so,[])) :
  ∀ (d i n:Nat) (so:ByteArray),i+d=ls.length→d < n→(ygo (ze2 a) so i (ls.drop i)).size≤strMax →
   lpE (z6b N) (z0j z77 [1,1,1,1,0,1,0,0]) ⟨[4,5,7,18,19,20],[5,7],[]⟩ n (z5k a z3k ls (ic ls.length) (i:Int) so) K=some (.str (ygo (ze2 a) so i (ls.drop i)),[])
 | 0,i,n+1,so,hd,_,_=>by
  rw [z05,zhm,zbh (by omega),v1e (by omega),z02]
  exact hx _ _ _
 | d+1,i,n+1,so,hd,hn,hz=>by
  have hi:i < ls.length:=by omega
  rw [v0i hi] at hz ⊢
  rw [ygo] at hz ⊢
  have h1:=y47 (ze2 a) (so++zqm i++za0 (ya5 (ze2 a) ls[i].toStr)) (i+1) (ls.drop (i+1));have h2:(so++zqm i++za0 (ya5 (ze2 a) ls[i].toStr)).size=so.size+(zk7.size+(z0p (i:Int)).size+zwh.size)+(za0 (ya5 (ze2 a) ls[i].toStr)).size:=by
   unfold zqm;simp only [v0g]
  have e1:zk7.size=6:=rfl;have e2:zwh.size=1:=rfl;have h3:(so++zqm i).size=so.size+(zk7.size+(z0p (i:Int)).size+zwh.size):=by
   unfold zqm;simp only [v0g]
  have h4:=hs ls[i] (v2j hi);unfold strMax at hl;rw [z05,zhm,z9k hi,zep,z82 (by omega),zah hi]
  rw [v01 (show ByteArray.size { data:=#[113,117,101,114,121,32] }+(z0p (i:Int)).size≤strMax by show zk7.size+_≤_; omega)]
  rw [v01 (show ByteArray.size ({ data:=#[113,117,101,114,121,32] }++z0p (i:Int))+ByteArray.size { data:=#[10] }≤strMax by rw [v0g]; show zk7.size+_+zwh.size≤_; omega)]
  rw [v01 (show so.size+(ydm (i:Int)).size≤strMax by rw [← v0g]; show (so++zqm i).size≤_; omega)]
  rw [v01 h4,v01 (show (za0 (ya5 (ze2 a) ls[i].toStr)).size≤strMax by omega)]
  rw [v01 (show (so++ydm (i:Int)).size+(za0 (ya5 (ze2 a) ls[i].toStr)).size≤strMax by show (so++zqm i).size+_≤_; omega)]
  simp only [z00,v1c];exact y7q N a ls hs (by unfold strMax; omega) K hx d (i+1) n _ (by omega) (by omega) hz
 | 0,_,0,_,_,h,_=>by omega
 | _+1,_,0,_,_,h,_=>by omega
theorem y50 {s sep:ByteArray} {n:Nat} (h:s.size < n):∀ x∈z0s s sep,x.size < n:=fun x hx=>by
 have:=(z97 sep _ s).2 x hx
 omega
theorem y55 {s:ByteArray} {n:Nat} (h:s.size < n):∀ x∈z5p s,x.toStr.size < n:=by
 intro x hx;unfold z5p at hx;cases he:(s.toList==z3k.toList) with
 | true=>rw [he,z00] at hx; cases hx
 | false=>
  rw [he,z02] at hx;obtain ⟨y,hy,rfl⟩:=List.mem_map.1 hx;have ht:=zli s zwh;exact y50 (v3z ht h) y hy
theorem zv0:z2y PR B0 22 zb5:=by
 refine z0i [(24,zb0),(32,z79),(31,z3v),(43,z32),(56,z1f),(60,z0z),(19,zbk)] [(6,⟨[4,5,7,18,19,20],[5,7],[]⟩)] zb5 [[.str]] Tryz.func22 y3v ⟨ztx,znp,zbz,z8t,z4z,z3o,zv8,trivial⟩ ?_;intro vs r hwf h;unfold zb5 at h
 split at h
 ·rename_i a b
  cases hg:(decide (a.size < 4294967281)&&(decide (b.size < 4294967281)&&decide ((ykd a b).size≤strMax))) with
  | false=>rw [hg] at h; simp [R.get] at h
  | true=>
  rw [hg,R.get_br,z00,R.get_ok] at h;rw [v02,v02] at hg;have hz:=v0f hg.2.2;refine ⟨(z5p b).length+1,(zzo _ a b).trans ?_⟩;rw [hg.1,z00,← h];unfold ykd at hz ⊢
  cases ht:zx2 a with
  | false=>rfl
  | true=>
   rw [ht,z00] at hz;simp only [v0c,z02,z00];rw [hg.2.1,z00];have hl:=y47 (ze2 a) z3k 0 (z5p b);have e0:z3k.size=0:=rfl
   have:=y7q ((z5p b).length+1) a (z5p b) (y55 (v0f hg.2.1)) (by omega) _ (fun x y so=>zmz ((z5p b).length+1) a z3k (z5p b) x y so) (z5p b).length 0 ((z5p b).length+1) z3k (by omega) (by omega) (by rw [v11]; exact hz)
   rw [v11] at this;exact this
 ·simp [R.get] at h
open Go Go.Proofs
open Go Go.Proofs
open Go
theorem y8s:∀ (x:List UInt8) (L:List (List UInt8)),lfs (x :: L)=Lib.join (x :: L) [10]++[10]
 | x,[]=>by rw [zyn,Lib.join_one]; rfl
 | x,y :: L=>by rw [zyn,y8s y L,zgs]; simp
theorem zvz (s:ByteArray) (hs:s.data.toList≠[]):(z5p s).map (fun y=>y.toStr.data.toList)=Lib.split (z40 s zwh).data.toList [10]:=by
 unfold z5p;have e:(s.toList==z3k.toList)=false:=by
  rw [zib];exact v07 fun h=>hs (by rw [h])
 rw [e,z02,v3x]
 have:((fun x=>x.toStr.data.toList) ∘ IV.str)=fun b:ByteArray=>b.data.toList:=rfl
 rw [this,y3i]
theorem ycz {s:ByteArray} {x:List UInt8} {L:List (List UInt8)} (h:s.data.toList=lfs (x :: L)) (hno:∀ l∈x :: L,(10:UInt8) ∉ l):(z5p s).map (fun y=>y.toStr.data.toList)=x :: L:=by
 rw [y8s] at h;rw [zvz s (by rw [h]; simp),y34 h,zjk 10 x L hno]
theorem yhj {s:ByteArray} {l:List UInt8} {c:UInt8} (h:s.data.toList=l++[c]) (hc:c≠10):z40 s zwh=s:=by
 have hz:s.size=l.length+1:=by rw [zrd,h,v08]; rfl
 have hf:zhw s zwh=false:=by
  unfold zhw;have e1:ByteArray.size zwh=1:=rfl;rw [e1,v01 (show 1≤s.size by omega),v0r,zib]
  refine v07 fun he=>hc ?_
  have:=congrArg (fun b:ByteArray=>b.data.toList) he
  simp only [v3l,v3s,v2e,h,hz] at this
  simpa using this
 unfold z40;rw [hf,z02]
theorem y1t:∀ (x:List UInt8) (L:List (List UInt8)) (l:List UInt8) (c:UInt8),(x :: L).getLast?=some (l++[c])→∃ r,Lib.join (x :: L) [10]=r++[c]
 | x,[],l,c,h=>⟨l,by rw [Lib.join_one]; simpa using h⟩
 | x,y :: L,l,c,h=>by
  obtain ⟨r,hr⟩:=y1t y L l c (by rw [List.getLast?_cons_cons] at h; exact h)
  exact ⟨x++10 :: r,by rw [zgs,hr]; simp⟩
theorem yau {s:ByteArray} {x:List UInt8} {L:List (List UInt8)} (h:s.data.toList=Lib.join (x :: L) [10]) (hno:∀ l∈x :: L,(10:UInt8) ∉ l) {l:List UInt8} {c:UInt8} (hl:(x :: L).getLast?=some (l++[c])) :
  (z5p s).map (fun y=>y.toStr.data.toList)=x :: L:=by
 obtain ⟨r,hr⟩:=y1t x L l c hl;have hc:c≠10:=by
  have hm:l++[c]∈x :: L:=List.mem_of_getLast? hl
  have:=hno _ hm
  intro e;rw [e] at this;simp at this
 rw [zvz s (by rw [h,hr]; simp),yhj (h.trans hr) hc,h,zjk 10 x L hno]
theorem y4t (s:ByteArray):∃ l:List ByteArray,z5p s=l.map IV.str:=by
 unfold z5p;cases (s.toList==z3k.toList) with
 | true=>exact ⟨[],rfl⟩
 | false=>exact ⟨_,rfl⟩
theorem y33 {s:ByteArray} {L:List ByteArray} (h:(z5p s).map (fun y=>y.toStr.data.toList)=L.map (·.data.toList)):z5p s=L.map IV.str:=by
 obtain ⟨l,hl⟩:=y4t s;rw [hl] at h ⊢
 rw [v3x] at h
 have:((fun x=>x.toStr.data.toList) ∘ IV.str)=fun b:ByteArray=>b.data.toList:=rfl
 rw [this] at h;rw [zox h]
open Go
theorem Qy.In.sp {q:Qy} (hq:q.In):∀ s∈q.spans,InR s.1∧InR s.2:=by
 intro s hs;simp only [Qy.spans,v15,v1t,v3n] at hs;rcases hs with rfl | rfl | rfl | rfl | rfl
 ·exact ⟨hq.a0,hq.b0⟩
 ·exact ⟨hq.a1,hq.b1⟩
 ·exact ⟨hq.a2,hq.b2⟩
 ·exact ⟨hq.a3,hq.b3⟩
 ·exact ⟨hq.a4,hq.b4⟩
open Go
open Go
def Qy.I (q:Qy):IV:=.agg [.int q.k,.int q.c,.int q.a0,.int q.b0,.int q.a1,.int q.b1,.int q.a2,.int q.b2,.int q.a3,.int q.b3,.int q.a4,.int q.b4,.int q.lo,.int q.hi,.int q.ft,.bool q.fl,.int q.bu]
def zlb:List IV→List IV→Bool
 | [],[]=>true
 | x :: l,y :: m=>(x.toStr.toList==y.toStr.toList)&&zlb l m
 | _,_=>false
def z1x:z0q
 | [.list false [.str] l,.list false [.str] m]=>.ok (.bool (zlb l m)) []
 | _=>.no
def z3a:z0q
 | []=>.ok (.bool true) []
 | _=>.no
def z5v:z0q
 | [.list false [.str] _,.bool _]=>.ok (.bool true) []
 | _=>.no
open Go
open Go
open Go Go.Proofs
open Go
open Go Go.Proofs
open Go Go.Proofs
structure Ns.At (i:Nat) (s:Ns):Prop where
 nl:s.nodes.length=2*i+1
 ll:s.leaves.length=i+1
 lt:∀ x∈s.leaves,0≤x.toInt∧x.toInt < (2*i+1:Nat)
theorem yk1 {part:List IV} {i:Nat} {s:Ns} (h:s.At i) (hi:i≤100):0≤nsK part i s∧nsK part i s < ((i+1:Nat):Int)∧zk0 0 (ic s.leaves.length - 1)=((i+1:Nat):Int):=by
 have e:ic s.leaves.length=((i+1:Nat):Int):=by rw [h.ll]
 obtain ⟨m,a,b⟩:=yc0 (n:=(part.getD i default).toInt) (lo:=0) (hi:=ic s.leaves.length - 1) (by rw [e]; omega) (by omega) (by rw [e]; omega)
 unfold nsK;rw [e] at a b m ⊢
 exact ⟨a,by omega,by rw [m]; omega⟩
theorem Ns.At.step {part byl atl val:List IV} {dim:Int} {i:Nat} {s:Ns} (h:s.At i) (hi:i≤100):(y3b part byl atl val dim i s).At (i+1):=by
 obtain ⟨k0,k1,_⟩:=yk1 (part:=part) h hi;refine ⟨?_,?_,?_⟩
 ·simp only [y3b,v08,v2g,v05,v0o,h.nl]
  omega
 ·simp only [y3b,v08,v0j,v1j,v05,v0o,h.ll]
  omega
 ·intro x hx
  simp only [y3b,v0k] at hx;rcases hx with (hx | hx) | hx
  ·have:=h.lt x (v2p hx)
   omega
  ·have:=h.lt x (v2o hx)
   omega
  ·simp only [v15,v1t,v3n] at hx
   rcases hx with rfl | rfl
   ·simp only [IV.toInt,ic,h.nl]; omega
   ·simp only [IV.toInt,ic,h.nl]; omega
open Go Go.Proofs
open Go Go.Proofs
open Go Go.Proofs
def z13 (N:Nat):Env:=mkE [] [(4,⟨[0,1,4,5],[],[]⟩)] 26 N
abbrev z0w (l0 l1:List IV) (b4:Bool) (x5:Int):St:=⟨[(0,(.list false [.str] l0)),(1,(.list false [.str] l1)),(4,(.bool b4)),(5,(.i x5))],[]⟩
theorem zej (N:Nat) (a b:List IV):z11 (z13 N) z1k [.tmp 4] [[.bool]] [(.list false [.str] a),(.list false [.str] b)]=(cond (ic (List.length a) != ic (List.length b)) (some ((.bool false),[])) (lpE (z13 N) (z0j z1k [1,1,0,1,0,0]) ⟨[0,1,4,5],[],[]⟩ N (z0w a b false 0) (z06 0 (kSq (z13 N) (z0j z1k [1,1,1]) (z30 (z13 N) none [(ResultVar.tmp 4)] [[.bool]]))))):=by kernel_rfl
theorem z7y (N:Nat) (l0 l1:List IV) (b4:Bool) (x5:Int) (again:St→Res) (k:Out→St→Res):rnd (z13 N) (z0j z1k [1,1,0,1,0,0]) (z0w l0 l1 b4 x5) (z3t again ⟨[0,1,4,5],[],[]⟩ k)=(cond (decide (x5 < ic (List.length l0))) (cond (decide (0≤x5)&&decide (x5 < ic (List.length l0))) (cond (decide (0≤x5)&&decide (x5 < ic (List.length l1))) (cond (!ByteArray.toList (IV.toStr (List.getD l0 (Int.toNat x5) default))==ByteArray.toList (IV.toStr (List.getD l1 (Int.toNat x5) default))) (k .ret (z0w l0 l1 false x5)) (again (z0w l0 l1 b4 (IntKind.wrap IntKind.i64 (x5+1))))) none) none) (k (.exit 0) (z0w l0 l1 b4 x5))):=by kernel_rfl
theorem zcd (N:Nat) (l0 l1:List IV) (b4:Bool) (x5:Int):(z06 0 (kSq (z13 N) (z0j z1k [1,1,1]) (z30 (z13 N) none [(ResultVar.tmp 4)] [[.bool]]))) (.exit 0) (z0w l0 l1 b4 x5)=(some ((.bool true),[])):=by kernel_rfl
theorem zce (N:Nat) (l0 l1:List IV) (b4:Bool) (x5:Int):(z06 0 (kSq (z13 N) (z0j z1k [1,1,1]) (z30 (z13 N) none [(ResultVar.tmp 4)] [[.bool]]))) .ret (z0w l0 l1 b4 x5)=(some ((.bool b4),[])):=by kernel_rfl
def zex (N:Nat):Env:=mkE [(30,z1x),(28,z5x),(31,z3v),(22,zb5),(20,z7p)] [] 16 N
theorem zek (N:Nat):z11 (zex N) z9y [.tmp 0] [[.bool]] []=(some ((.bool true),[])):=by kernel_rfl
open Go Go.Proofs
def zmm (N:Nat):Env:=mkE [(71,z6s)] [] 14 N
theorem zle (N:Nat):z11 (zmm N) zei [.cell 0 30] [[.int .i64,.int .i64,.int .i64,.int .i64,.int .i64,.list true [.int .i64,.list false [.int .u64]]]] []=(some ((.agg [(.i 1),(.i 1),(.i 3),(.i 0),(.i 0),(.list true zjw [(IV.agg [IV.int 0,IV.list [IV.int (zym false 0 0 5 1 2),IV.int (zym true 10 0 0 0 0),IV.int (zym true 20 0 0 0 0)]])])]),[])):=by kernel_rfl
open Go Go.Proofs
theorem y1u:∀ {l m:List IV},zlb l m=true→l.length=m.length
 | [],[],_=>rfl
 | [],_ :: _,h=>by simp [zlb] at h
 | _ :: _,[],h=>by simp [zlb] at h
 | x :: l,y :: m,h=>by
  simp only [zlb,v02] at h;simp [y1u h.2]
theorem y2o (N:Nat) (l m:List IV) (K:Out→St→Res) (hlm:l.length=m.length) (hl:l.length≤strMax)
  (hx:∀ x,K (.exit 0) (z0w l m false x)=some (.bool true,[])) (hr:∀ x,K .ret (z0w l m false x)=some (.bool false,[])) :
  ∀ (d i n:Nat),i+d=l.length→d < n→lpE (z13 N) (z0j z1k [1,1,0,1,0,0]) ⟨[0,1,4,5],[],[]⟩ n (z0w l m false (i:Int)) K=some (.bool (zlb (l.drop i) (m.drop i)),[])
 | 0,i,n+1,hd,_=>by
  rw [z05,z7y,zbh (by omega),v1e (by omega),v1e (by omega),z02]
  exact hx _
 | d+1,i,n+1,hd,hn=>by
  have hi:i < l.length:=by omega
  have hm:i < m.length:=by omega
  have hl':=hl;unfold strMax at hl';rw [z05,z7y,z9k hi,z9k hm,zep,z82 (by omega),zah hi,zah hm,v0i hi,v0i hm]
  simp only [z00,v1c,zlb];cases (l[i].toStr.toList==m[i].toStr.toList) with
  | false=>
   rw [v0h,z00,v0v];exact hr _
  | true=>
   rw [v0c,z02,v0r];exact y2o N l m K hlm hl hx hr d (i+1) n (by omega) (by omega)
 | 0,_,0,_,h=>by omega
 | _+1,_,0,_,h=>by omega
theorem z8m:z2y PR B0 30 z1x:=by
 refine z0i [] [(4,⟨[0,1,4,5],[],[]⟩)] z1x [[.bool]] Tryz.func30 zfp trivial ?_;intro vs r hwf h;unfold z1x at h
 split at h
 ·rename_i l m
  rw [R.get_ok] at h;refine ⟨l.length+1,(zej _ l m).trans ?_⟩;rw [← h];have hl:=(hwf (by simp [zc8])).1
  simp only [wfV,wfL] at hl
  by_cases hlm:l.length=m.length
  ·have e:(ic l.length != ic m.length)=false:=by simp [ic,hlm]
   rw [e,z02]
   have:=y2o (l.length+1) l m _ hlm hl.1 (fun x=>zcd (l.length+1) l m false x) (fun x=>zce (l.length+1) l m false x) l.length 0 (l.length+1) (by omega) (by omega)
   rw [v11,v11] at this;exact this
  ·have e:(ic l.length != ic m.length)=true:=by simp [ic]; omega
   rw [e]
   have:zlb l m=false:=by
    cases hs:zlb l m with
    | false=>rfl
    | true=>exact absurd (y1u hs) hlm
   rw [this]
   rfl
 ·simp [R.get] at h
theorem zjy:z2y PR B0 28 z5x:=by
 refine z0i [(71,z6s)] [] z5x [[.int .i64,.int .i64,.int .i64,.int .i64,.int .i64,.list true [.int .i64,.list false [.int .u64]]]] Tryz.func28 znk ⟨zm8,trivial⟩ ?_;intro vs r hwf h;unfold z5x at h
 split at h
 ·skip
  rw [R.get_ok] at h;refine ⟨0,(zle 0).trans ?_⟩;rw [← h]
  rfl
 ·simp [R.get] at h
theorem ze0:z2y PR B0 6 z3a:=by
 refine z0i [(30,z1x),(28,z5x),(31,z3v),(22,zb5),(20,z7p)] [] z3a [[.bool]] Tryz.func6 zez ⟨z8m,zjy,zbz,zv0,zit,trivial⟩ ?_;intro vs r hwf h;unfold z3a at h
 split at h
 ·skip
  rw [R.get_ok] at h;refine ⟨0,(zek 0).trans ?_⟩;rw [← h]
 ·simp [R.get] at h
open Go Go.Proofs
def z08 (N:Nat):Env:=mkE [(30,z1x),(6,z3a),(31,z3v)] [(4,⟨[0,1,4,5,6,7],[59],[⟨.tmp 5,59,9,false,[.str]⟩]⟩),(8,⟨[0,1,4,5,6,7,8,9],[59],[⟨.tmp 5,59,9,false,[.str]⟩]⟩)] 91 N
abbrev z03 (l0:List IV) (b1 b4:Bool) (n5:Nat) (s6:ByteArray) (x7:Int) (lo59:List IV):St:=⟨[(0,(.list false [.str] l0)),(1,(.bool b1)),(4,(.bool b4)),(5,(.row 59 0 n5)),(6,(.str s6)),(7,(.i x7))],[(59,(some (.row true 9 false [.str] lo59)))]⟩
abbrev z0n (l0:List IV) (b1 b4:Bool) (n5:Nat) (s6:ByteArray) (x7:Int) (s8:ByteArray) (x9:Int) (lo59:List IV):St:=⟨[(0,(.list false [.str] l0)),(1,(.bool b1)),(4,(.bool b4)),(5,(.row 59 0 n5)),(6,(.str s6)),(7,(.i x7)),(8,(.str s8)),(9,(.i x9))],[(59,(some (.row true 9 false [.str] lo59)))]⟩
theorem ze3 (N:Nat) (l:List IV) (a1:Bool):z11 (z08 N) z0b [.tmp 4] [[.bool]] [(.list false [.str] l),(.bool a1)]=(lpE (z08 N) (z0j z0b [1,1,1,0,1,0,0]) ⟨[0,1,4,5,6,7],[59],[⟨(.tmp 5),59,9,false,[.str]⟩]⟩ N (z03 l a1 false 0 ({data:=#[]}) 0 []) (z06 0 (kSq (z08 N) (z0j z0b [1,1,1,1]) (z30 (z08 N) none [(ResultVar.tmp 4)] [[.bool]])))):=by kernel_rfl
theorem z7j (N:Nat) (l0:List IV) (b1 b4:Bool) (n5:Nat) (s6:ByteArray) (x7:Int) (lo59:List IV) (again:St→Res) (k:Out→St→Res):rnd (z08 N) (z0j z0b [1,1,1,0,1,0,0]) (z03 l0 b1 b4 n5 s6 x7 lo59) (z3t again ⟨[0,1,4,5,6,7],[59],[⟨(.tmp 5),59,9,false,[.str]⟩]⟩ k)=(cond (decide (x7 < ic (List.length l0))) (cond (decide (x7 < 10)) (lpE (z08 N) (z0j z0b [1,1,1,0,1,0,0,1,0,0,1,0,1,0,0]) ⟨[0,1,4,5,6,7,8,9],[59],[⟨(.tmp 5),59,9,false,[.str]⟩]⟩ N (z0n l0 b1 b4 n5 s6 x7 ({data:=#[]}) 0 lo59) (z06 2 (kSq (z08 N) (z0j z0b [1,1,1,0,1,0,0,1,0,0,1,1]) (z06 1 (kSq (z08 N) (z0j z0b [1,1,1,0,1,0,0,1,1]) (z3t again ⟨[0,1,4,5,6,7],[59],[⟨(.tmp 5),59,9,false,[.str]⟩]⟩ k)))))) (k (.exit 0) (z03 l0 b1 b4 n5 s6 x7 lo59))) (k (.exit 0) (z03 l0 b1 b4 n5 s6 x7 lo59))):=by kernel_rfl
theorem zck (N:Nat) (l0:List IV) (b1 b4:Bool) (n5:Nat) (s6:ByteArray) (x7:Int) (s8:ByteArray) (x9:Int) (lo59:List IV) (again:St→Res) (k:Out→St→Res):rnd (z08 N) (z0j z0b [1,1,1,0,1,0,0,1,0,0,1,0,1,0,0]) (z0n l0 b1 b4 n5 s6 x7 s8 x9 lo59) (z3t again ⟨[0,1,4,5,6,7,8,9],[59],[⟨(.tmp 5),59,9,false,[.str]⟩]⟩ k)=(cond (decide (0≤x7)&&decide (x7 < ic (List.length l0))) (cond (decide (x9 < ic (ByteArray.size (IV.toStr (List.getD l0 (Int.toNat x7) default))))) (cond (decide (x9 < 9)) (cond (decide (0≤x7)&&decide (x7 < ic (List.length l0))) (cond (decide (0≤x9)&&decide (x9 < ic (ByteArray.size (IV.toStr (List.getD l0 (Int.toNat x7) default))))) (cond (ic (UInt8.toNat (List.getD (Array.toList (ByteArray.data (IV.toStr (List.getD l0 (Int.toNat x7) default)))) (Int.toNat x9) 0)) != 10) (cond (decide (0≤x7)&&decide (x7 < ic (List.length l0))) (cond (decide (0≤x9)&&(decide (x9≤IntKind.wrap IntKind.i64 (x9+1))&&decide (IntKind.wrap IntKind.i64 (x9+1)≤ic (ByteArray.size (IV.toStr (List.getD l0 (Int.toNat x7) default)))))) (cond (decide (ByteArray.size s8+ByteArray.size (ByteArray.extract (IV.toStr (List.getD l0 (Int.toNat x7) default)) (Int.toNat x9) (Int.toNat (IntKind.wrap IntKind.i64 (x9+1))))≤strMax)) (again (z0n l0 b1 b4 n5 s6 x7 (s8++ByteArray.extract (IV.toStr (List.getD l0 (Int.toNat x7) default)) (Int.toNat x9) (Int.toNat (IntKind.wrap IntKind.i64 (x9+1)))) (IntKind.wrap IntKind.i64 (x9+1)) lo59)) none) none) none) (again (z0n l0 b1 b4 n5 s6 x7 s8 (IntKind.wrap IntKind.i64 (x9+1)) lo59))) none) none) (k (.exit 2) (z0n l0 b1 b4 n5 s6 x7 s8 x9 lo59))) (k (.exit 2) (z0n l0 b1 b4 n5 s6 x7 s8 x9 lo59))) none):=by kernel_rfl
theorem zc5 (N:Nat) (l0:List IV) (b1 b4:Bool) (n5:Nat) (s6:ByteArray) (x7:Int) (lo59:List IV):(z06 0 (kSq (z08 N) (z0j z0b [1,1,1,1]) (z30 (z08 N) none [(ResultVar.tmp 4)] [[.bool]]))) (.exit 0) (z03 l0 b1 b4 n5 s6 x7 lo59)=(cond (decide (ByteArray.size s6 < 4294967281)) (cond (zlb (z5p s6) (List.drop 0 (List.take n5 lo59))) (some ((.bool true),[])) (some ((.bool false),[]))) none):=by kernel_rfl
theorem zc6 (N:Nat) (again:St→Res) (k:Out→St→Res) (l0:List IV) (b1 b4:Bool) (n5:Nat) (s6:ByteArray) (x7:Int) (s8:ByteArray) (x9:Int) (lo59:List IV):(z06 2 (kSq (z08 N) (z0j z0b [1,1,1,0,1,0,0,1,0,0,1,1]) (z06 1 (kSq (z08 N) (z0j z0b [1,1,1,0,1,0,0,1,1]) (z3t again ⟨[0,1,4,5,6,7],[59],[⟨(.tmp 5),59,9,false,[.str]⟩]⟩ k))))) (.exit 2) (z0n l0 b1 b4 n5 s6 x7 s8 x9 lo59)=(cond (!b1) (cond (ByteArray.toList s8==ByteArray.toList {data:=#[]}) (cond (decide ((n5+1)*16≤z0c)) (cond (decide (ByteArray.size s6+ByteArray.size {data:=#[122]}≤strMax)) (cond b1 (cond (decide (ByteArray.size (s6++{data:=#[122]})+ByteArray.size {data:=#[10]}≤strMax)) (again (z03 l0 b1 b4 (n5+1) (s6++{data:=#[122]}++{data:=#[10]}) (IntKind.wrap IntKind.i64 (x7+1)) (List.take n5 lo59++[IV.str {data:=#[122]}]))) none) (cond (decide (IntKind.wrap IntKind.i64 (x7+1) < min (ic (List.length l0)) 10)) (cond (decide (ByteArray.size (s6++{data:=#[122]})+ByteArray.size {data:=#[10]}≤strMax)) (again (z03 l0 b1 b4 (n5+1) (s6++{data:=#[122]}++{data:=#[10]}) (IntKind.wrap IntKind.i64 (x7+1)) (List.take n5 lo59++[IV.str {data:=#[122]}]))) none) (again (z03 l0 b1 b4 (n5+1) (s6++{data:=#[122]}) (IntKind.wrap IntKind.i64 (x7+1)) (List.take n5 lo59++[IV.str {data:=#[122]}]))))) none) none) (cond (decide ((n5+1)*16≤z0c)) (cond (decide (ByteArray.size s6+ByteArray.size s8≤strMax)) (cond b1 (cond (decide (ByteArray.size (s6++s8)+ByteArray.size {data:=#[10]}≤strMax)) (again (z03 l0 b1 b4 (n5+1) (s6++s8++{data:=#[10]}) (IntKind.wrap IntKind.i64 (x7+1)) (List.take n5 lo59++[IV.str s8]))) none) (cond (decide (IntKind.wrap IntKind.i64 (x7+1) < min (ic (List.length l0)) 10)) (cond (decide (ByteArray.size (s6++s8)+ByteArray.size {data:=#[10]}≤strMax)) (again (z03 l0 b1 b4 (n5+1) (s6++s8++{data:=#[10]}) (IntKind.wrap IntKind.i64 (x7+1)) (List.take n5 lo59++[IV.str s8]))) none) (again (z03 l0 b1 b4 (n5+1) (s6++s8) (IntKind.wrap IntKind.i64 (x7+1)) (List.take n5 lo59++[IV.str s8]))))) none) none)) (cond (decide ((n5+1)*16≤z0c)) (cond (decide (ByteArray.size s6+ByteArray.size s8≤strMax)) (cond b1 (cond (decide (ByteArray.size (s6++s8)+ByteArray.size {data:=#[10]}≤strMax)) (again (z03 l0 b1 b4 (n5+1) (s6++s8++{data:=#[10]}) (IntKind.wrap IntKind.i64 (x7+1)) (List.take n5 lo59++[IV.str s8]))) none) (cond (decide (IntKind.wrap IntKind.i64 (x7+1) < min (ic (List.length l0)) 10)) (cond (decide (ByteArray.size (s6++s8)+ByteArray.size {data:=#[10]}≤strMax)) (again (z03 l0 b1 b4 (n5+1) (s6++s8++{data:=#[10]}) (IntKind.wrap IntKind.i64 (x7+1)) (List.take n5 lo59++[IV.str s8]))) none) (again (z03 l0 b1 b4 (n5+1) (s6++s8) (IntKind.wrap IntKind.i64 (x7+1)) (List.take n5 lo59++[IV.str s8]))))) none) none)):=by kernel_rfl
open Go Go.Proofs
theorem zwu:∀ l:List IV,zlb l l=true
 | []=>rfl
 | x :: l=>by simp [zlb,zwu l]
theorem y8d:∀ (L:List (List UInt8)) (x:List UInt8),lfs L++x=Lib.join (L++[x]) [10]
 | [],x=>by rw [v2r,Lib.join_one]; rfl
 | a :: L,x=>by
  have ih:=y8d L x;rw [zyn,v1k,v33,v1k,ih];cases L with
  | nil=>rw [v2r,zgs]
  | cons b L=>rw [v1k,zgs]
structure LnInv (e:Bool) (M i:Nat) (L:List ByteArray) (s:ByteArray):Prop where
 len:L.length=i
 no:∀ x∈L,(10:UInt8) ∉ x.data.toList
 ne:e=false→∀ x∈L,x.data.toList≠[]
 lf:e=true∨i < M→s.data.toList=lfs (L.map (·.data.toList))
 fin:e=false→i=M→(L=[]∧s.data.toList=[])∨s.data.toList=Lib.join (L.map (·.data.toList)) [10]
theorem y8k (L:List ByteArray) (x:ByteArray):(L++[x]).map (·.data.toList)=L.map (·.data.toList)++[x.data.toList]:=by simp
theorem LnInv.snocE {e:Bool} {M i:Nat} {L:List ByteArray} {s x:ByteArray} (h:LnInv e M i L s) (hi:i < M) (hx:(10:UInt8) ∉ x.data.toList) (hn:e=false→x.data.toList≠[]) (hc:e=true∨i+1 < M):LnInv e M (i+1) (L++[x]) (s++x++zwh) where
 len:=by rw [v08,h.len]; rfl
 no y hy:=by
  rcases v0k.1 hy with hy | hy
  ·exact h.no y hy
  ·obtain rfl:=v28.1 hy; exact hx
 ne he y hy:=by
  rcases v0k.1 hy with hy | hy
  ·exact h.ne he y hy
  ·obtain rfl:=v28.1 hy; exact hn he
 lf _:=by
  rw [zlj,zlj,h.lf (.inr hi),y8k,ygv];simp [lfs]
 fin he hm:=by
  rcases hc with h1 | h1
  ·rw [he] at h1; cases h1
  ·omega
theorem LnInv.snocL {M i:Nat} {L:List ByteArray} {s x:ByteArray} (h:LnInv false M i L s) (hi:i < M) (hx:(10:UInt8) ∉ x.data.toList) (hn:x.data.toList≠[]) (hc:i+1=M):LnInv false M (i+1) (L++[x]) (s++x) where
 len:=by rw [v08,h.len]; rfl
 no y hy:=by
  rcases v0k.1 hy with hy | hy
  ·exact h.no y hy
  ·obtain rfl:=v28.1 hy; exact hx
 ne _ y hy:=by
  rcases v0k.1 hy with hy | hy
  ·exact h.ne rfl y hy
  ·obtain rfl:=v28.1 hy; exact hn
 lf h1:=by
  rcases h1 with h1 | h1
  ·cases h1
  ·omega
 fin _ _:=by
  refine .inr ?_;rw [zlj,h.lf (.inr hi),y8k,y8d]
theorem LnInv.lines {e:Bool} {M:Nat} {L:List ByteArray} {s:ByteArray} (h:LnInv e M M L s):z5p s=L.map IV.str:=by
 have hnil:s.data.toList=[]→z5p s=[]:=fun hs=>by
  unfold z5p;rw [zib,v01 (zn3 hs),z00]
 cases e with
 | true=>
  have hs:=h.lf (.inl rfl);cases L with
  | nil=>exact hnil hs
  | cons x L=>
   refine y33 ?_;exact ycz hs fun l hl=>by
    have hl:l∈(x :: L).map (·.data.toList):=hl
    obtain ⟨y,hy,rfl⟩:=List.mem_map.1 hl;exact h.no y hy
 | false=>
  rcases h.fin rfl rfl with ⟨rfl,hs⟩ | hs
  ·exact hnil hs
  ·cases L with
   | nil=>exact hnil hs
   | cons x L=>
    refine y33 ?_;have hne:(x :: L).map (·.data.toList)≠[]:=by simp
    have hlast:((x :: L).map (·.data.toList)).getLast hne∈(x :: L).map (·.data.toList):=List.getLast_mem hne
    obtain ⟨y,hy,hyl⟩:=List.mem_map.1 hlast;have hyn:=h.ne rfl y hy;exact yau (x:=x.data.toList) (L:=L.map (·.data.toList)) hs (fun l hl=>by
     have hl:l∈(x :: L).map (·.data.toList):=hl
     obtain ⟨y,hy,rfl⟩:=List.mem_map.1 hl;exact h.no y hy) (l:=y.data.toList.dropLast) (c:=y.data.toList.getLast hyn) (by
     rw [List.dropLast_concat_getLast hyn,hyl];exact List.getLast?_eq_some_getLast hne)
theorem zzi (N:Nat) (l:List IV) (e:Bool) (n:Nat) (s6:ByteArray) (O:List IV) (i:Nat) (hi:i < l.length) (K:Out→St→Res) :
  ∀ (d j f:Nat) (s:ByteArray),j+d=9→d < f→(10:UInt8) ∉ s.data.toList→s.size≤j →
   ∃ (x:ByteArray) (y:Int),(10:UInt8) ∉ x.data.toList∧x.size≤9 ∧
    lpE (z08 N) (z0j z0b [1,1,1,0,1,0,0,1,0,0,1,0,1,0,0]) ⟨[0,1,4,5,6,7,8,9],[59],[⟨(.tmp 5),59,9,false,[.str]⟩]⟩ f (z0n l e false n s6 (i:Int) s (j:Int) O) K =
     K (.exit 2) (z0n l e false n s6 (i:Int) x y O)
 | d,j,f+1,s,hd,hf,hno,hsz=>by
  have hdone:∃ (x:ByteArray) (y:Int),(10:UInt8) ∉ x.data.toList∧x.size≤9∧K (.exit 2) (z0n l e false n s6 (i:Int) s (j:Int) O)=K (.exit 2) (z0n l e false n s6 (i:Int) x y O):=⟨s,_,hno,by omega,rfl⟩
  rw [z05,zck,zep,v01 (show ((i:Nat):Int) < ic l.length by simp only [ic]; omega),v1c,z00,zah hi]
  by_cases h1:j < l[i].toStr.size
  ·by_cases h2:j < 9
   ·obtain ⟨d,rfl⟩:∃ c,d=c+1:=⟨d - 1,by omega⟩
    have hj1:IntKind.wrap IntKind.i64 ((j:Int)+1)=((j+1:Nat):Int):=by
     rw [show (j:Int)+1=((j+1:Nat):Int) by omega]
     exact z19 (by omega) (by omega)
    have hlen:j < l[i].toStr.data.toList.length:=by rw [← zrd]; exact h1
    rw [v01 (show ((j:Nat):Int) < ic l[i].toStr.size by simp only [ic]; omega),z00,v01 (show ((j:Nat):Int) < 9 by omega),z00,z00,zep,v1c,z00,v0l,hj1,v0l]
    have hget:List.getD l[i].toStr.data.toList j 0=l[i].toStr.data.toList[j]:=by
     rw [v0m,v0e hlen]
     rfl
    have hext:(l[i].toStr.extract j (j+1)).data.toList=[l[i].toStr.data.toList[j]]:=by
     rw [v3l,v3s,v2e,v0i hlen,show j+1 - j=1 by omega]
     rfl
    have hexz:(l[i].toStr.extract j (j+1)).size=1:=by rw [zrd,hext]; rfl
    cases hb:(ic (UInt8.toNat (List.getD l[i].toStr.data.toList j 0)) != 10) with
    | false=>
     rw [z02];exact zzi N l e n s6 O i hi K d (j+1) f s (by omega) (by omega) hno (by omega)
    | true=>
     have hne:l[i].toStr.data.toList[j]≠10:=fun he=>by
      rw [hget,he] at hb;exact absurd hb (by decide)
     rw [z00,z00,v01 (show ((j:Nat):Int)≤((j+1:Nat):Int) by omega),v01 (show ((j+1:Nat):Int)≤ic l[i].toStr.size by simp only [ic]; omega),v0t,v1c,z00,hexz,v01 (show s.size+1≤strMax by unfold strMax; omega),z00]
     refine zzi N l e n s6 O i hi K d (j+1) f _ (by omega) (by omega) ?_ (by rw [v0g,hexz]; omega)
     rw [zlj,hext,v0k]
     rintro (h | h)
     ·exact hno h
     ·exact hne (v28.1 h).symm
   ·rw [v01 (show ((j:Nat):Int) < ic l[i].toStr.size by simp only [ic]; omega),z00,v07 (show ¬ ((j:Nat):Int) < 9 by omega),z02]
    exact hdone
  ·rw [v07 (show ¬ ((j:Nat):Int) < ic l[i].toStr.size by simp only [ic]; omega),z02]
   exact hdone
 | _,_,0,_,_,h,_,_=>by omega
theorem y64 (N:Nat) (hN:20≤N) (l:List IV) (e:Bool) (K:Out→St→Res)
  (hx:∀ n s x O,K (.exit 0) (z03 l e false n s x O)=cond (decide (s.size < 4294967281)) (cond (zlb (z5p s) (List.drop 0 (List.take n O))) (some (.bool true,[])) (some (.bool false,[]))) none) :
  ∀ (d i f:Nat) (s:ByteArray) (L:List ByteArray),i+d=min l.length 10→d < f→LnInv e (min l.length 10) i L s→s.size≤11*i →
   lpE (z08 N) (z0j z0b [1,1,1,0,1,0,0]) ⟨[0,1,4,5,6,7],[59],[⟨(.tmp 5),59,9,false,[.str]⟩]⟩ f (z03 l e false L.length s (i:Int) (L.map IV.str)) K=some (.bool true,[])
 | 0,i,f+1,s,L,hd,hf,h,hs=>by
  have hM:i=min l.length 10:=by omega
  have hend:K (.exit 0) (z03 l e false L.length s (i:Int) (L.map IV.str))=some (.bool true,[]):=by
   rw [hx,v01 (show s.size < 4294967281 by omega),z00,(show LnInv e (min l.length 10) (min l.length 10) L s by rw [← hM]; rw [← hM] at h; exact h).lines,v11]
   have:List.take L.length (L.map IV.str)=L.map IV.str:=v0z (by rw [v12]; exact v09 _)
   rw [this,zwu]
   rfl
  rw [z05,z7j]
  by_cases h1:i < l.length
  ·rw [v01 (show ((i:Nat):Int) < ic l.length by simp only [ic]; omega),z00,v07 (show ¬ ((i:Nat):Int) < 10 by omega),z02]
   exact hend
  ·rw [v07 (show ¬ ((i:Nat):Int) < ic l.length by simp only [ic]; omega),z02]
   exact hend
 | d+1,i,f+1,s,L,hd,hf,h,hs=>by
  have hi:i < l.length:=by omega
  have h10:i < 10:=by omega
  have hlen:=h.len;rw [z05,z7j,v01 (show ((i:Nat):Int) < ic l.length by simp only [ic]; omega),z00,v01 (show ((i:Nat):Int) < 10 by omega),z00]
  obtain ⟨x,y,hxn,hxz,hxe⟩:=zzi N l e L.length s (L.map IV.str) i hi _ 9 0 N z3k (by omega) (by omega) (by simp) (v09 _)
  refine hxe.trans ?_;rw [zc6,z82 (by omega)]
  have hbz:decide ((L.length+1)*16≤z0c)=true:=v01 (by unfold z0c; omega)
  have htk:List.take L.length (L.map IV.str)=L.map IV.str:=v0z (by rw [v12]; exact v09 _)
  have step:∀ z:ByteArray,(10:UInt8) ∉ z.data.toList→z.size≤9→(e=false→z.data.toList≠[]) →
    (cond (decide ((L.length+1)*16≤z0c)) (cond (decide (s.size+z.size≤strMax)) (cond e (cond (decide ((s++z).size+ByteArray.size { data:=#[10] }≤strMax))
     (lpE (z08 N) (z0j z0b [1,1,1,0,1,0,0]) ⟨[0,1,4,5,6,7],[59],[⟨(.tmp 5),59,9,false,[.str]⟩]⟩ f (z03 l e false (L.length+1) (s++z++zwh) ((i+1:Nat):Int) (List.take L.length (L.map IV.str)++[IV.str z])) K) none)
     (cond (decide (((i+1:Nat):Int) < min (ic l.length) 10)) (cond (decide ((s++z).size+ByteArray.size { data:=#[10] }≤strMax))
     (lpE (z08 N) (z0j z0b [1,1,1,0,1,0,0]) ⟨[0,1,4,5,6,7],[59],[⟨(.tmp 5),59,9,false,[.str]⟩]⟩ f (z03 l e false (L.length+1) (s++z++zwh) ((i+1:Nat):Int) (List.take L.length (L.map IV.str)++[IV.str z])) K) none)
     (lpE (z08 N) (z0j z0b [1,1,1,0,1,0,0]) ⟨[0,1,4,5,6,7],[59],[⟨(.tmp 5),59,9,false,[.str]⟩]⟩ f (z03 l e false (L.length+1) (s++z) ((i+1:Nat):Int) (List.take L.length (L.map IV.str)++[IV.str z])) K))) none) none:Res)=some (.bool true,[]):=by
   intro z zn zz zne;have e2:ByteArray.size { data:=#[10] }=1:=rfl;have e3:zwh.size=1:=rfl;have hap:(s++z).size=s.size+z.size:=v0g;have hL:(L++[z]).map IV.str=L.map IV.str++[IV.str z]:=by simp
   have hl1:(L++[z]).length=L.length+1:=by simp
   rw [hbz,z00,v01 (show s.size+z.size≤strMax by unfold strMax; omega),z00,v01 (show (s++z).size+ByteArray.size { data:=#[10] }≤strMax by unfold strMax; omega),z00,htk]
   have ihE:=fun (hc:e=true∨i+1 < min l.length 10)=>y64 N hN l e K hx d (i+1) f (s++z++zwh) (L++[z]) (by omega) (by omega) (h.snocE (by omega) zn zne hc) (by rw [v0g,hap]; omega)
   rw [hL,hl1] at ihE;cases e with
   | true=>exact ihE (.inl rfl)
   | false=>
    rw [z02]
    by_cases hc:i+1 < min l.length 10
    ·rw [v01 (show ((i+1:Nat):Int) < min (ic l.length) 10 by simp only [ic]; omega),z00]
     exact ihE (.inr hc)
    ·rw [v07 (show ¬ ((i+1:Nat):Int) < min (ic l.length) 10 by simp only [ic]; omega),z02]
     have ihL:=y64 N hN l false K hx d (i+1) f (s++z) (L++[z]) (by omega) (by omega) (h.snocL (by omega) zn (zne rfl) (by omega)) (by rw [hap]; omega)
     rw [hL,hl1] at ihL;exact ihL
  cases e with
  | true=>
   rw [v0c,z02];exact step x hxn hxz (fun h=>by cases h)
  | false=>
   rw [v0h,z00];cases he:(x.toList==z3k.toList) with
   | true=>
    rw [z00];exact step ⟨#[122]⟩ (by decide) (by decide) (fun _=>by decide)
   | false=>
    rw [z02];refine step x hxn hxz (fun _ hn=>?_)
    rw [zib] at he;exact v0s he (zn3 hn)
 | _,_,0,_,_,_,h,_,_=>by omega
theorem zdf:z2y PR B0 7 z5v:=by
 refine z0i [(30,z1x),(6,z3a),(31,z3v)] [(4,⟨[0,1,4,5,6,7],[59],[⟨.tmp 5,59,9,false,[.str]⟩]⟩),(8,⟨[0,1,4,5,6,7,8,9],[59],[⟨.tmp 5,59,9,false,[.str]⟩]⟩)] z5v [[.bool]] Tryz.func7 zem ⟨z8m,ze0,zbz,trivial⟩ ?_;intro vs r hwf h;unfold z5v at h
 split at h
 ·rename_i l e
  rw [R.get_ok] at h;refine ⟨20,(ze3 20 l e).trans ?_⟩;rw [← h];refine y64 20 (by omega) l e _ (fun n s x O=>zc5 20 l e false n s x O) (min l.length 10) 0 20 z3k [] (by omega) (by omega) ?_ (v09 _)
  exact { len:=rfl,no:=fun x hx=>(by cases hx),ne:=fun _ x hx=>(by cases hx),lf:=fun _=>rfl,fin:=fun _ _=>.inl ⟨rfl,rfl⟩ }
 ·simp [R.get] at h
open Go Go.Proofs Go.RowKit
theorem zqf {P:Program} {w:World} {name:String} {g:Nat} {cs:Array Value} (hn:P.globalNamed name=some g) (hv:w.var? P name=some cs):∃ T fr,w.heap[g]?=some (.cells cs T fr):=by
 unfold World.var? at hv;rw [hn] at hv;simp only [Option.bind_some] at hv
 split at hv
 ·rename_i c T fr hh
  simp only [v00] at hv;subst hv;exact ⟨T,fr,hh⟩
 ·cases hv
theorem y91 {w:World} {name:String} {g t:Nat} {ms:Array (String × TypeId)} {tn:String} {d:DataW Unit} (h:Lib.VarReads Tryz.prog w name (.iface tn d)) (hn:Tryz.prog.globalNamed name=some g)
  (ht:(Tryz.prog.globals[g]?).map (·.type)=some t) (hu:Tryz.prog.underlying t=some (.interface ms)):∃ c T fr te pe,w.heap[g]?=some (.cells c T fr)∧c[0]?=some (.iface te pe):=by
 obtain ⟨g',t',cs,fuel,p,h1,h2,h3,h4⟩:=h;obtain rfl:=v1w (hn.symm.trans h1);obtain rfl:=v1w (ht.symm.trans h2);obtain ⟨f',u,v,hcs,_,_⟩:=iface_of_trod hu h4;obtain ⟨T,fr,hh⟩:=zqf hn h3;refine ⟨cs,T,fr,u,v,hh,?_⟩
 have:cs = #[.iface u v]:=by
  apply Array.ext';rw [hcs]
 rw [this]
 rfl
theorem yfp {W:World} {l:List (String × DataW Unit)} (hL:laidMet Tryz.prog l W) (hsh:W.ShapedOpen Tryz.prog)
  (hp:("internal/strconv.uint64pow10", Lib.tabData .u64 Lib.pow10Tab)∈l)
  {n1:String} {d1:DataW Unit} (h1:("strconv.ErrRange", .iface n1 d1)∈l)
  {n2:String} {d2:DataW Unit} (h2:("strconv.ErrSyntax", .iface n2 d2)∈l)
  : Glob B0 W:=by
 have hz:∀ g,g < 4→g < Tryz.prog.globals.size→g < W.heap.size:=fun g _ hg=>by
  have hb:((List.range Tryz.prog.globals.size).all fun g=>(((begin Tryz.prog (fun _ _=>0) default).world.heap[g]?).bind Obj.row?).isSome)=true:=by kernel_rfl
  have:=v3a.1 hb g (List.mem_range.2 hg)
  obtain ⟨⟨z,t⟩,hz⟩:=Option.isSome_iff_exists.1 this;obtain ⟨cs,hh,_⟩:=hsh.1 g z t hg hz;exact (Array.getElem?_eq_some_iff.1 hh).1
 have hsize:4≤W.heap.size:=by
  first
  | exact v0y _
  | (
    have:=hz (4 - 1) (by decide) (v0f (by kernel_rfl))
    omega)
 have low:∀ {g:Nat},g < 4→(fun b=>if b < B0.ng then W.heap[b]? else none) g=W.heap[g]?:=fun h=>v1f (show _ < B0.ng from h)
 refine ⟨hsize,?_⟩;show GF _;constructor
 first | exact trivial | skip
 case gm=>
  obtain ⟨m,hm⟩:=cell_of_shapedOpen_int (P:=Tryz.prog) (g:=1) (t:=3) (zero:=#[.int .i64 0]) hsh (v0f (by kernel_rfl)) (by kernel_rfl) rfl (by kernel_rfl) (by kernel_rfl) Tryz.underlying3
  simp only [World.cell?] at hm
  split at hm
  ·rename_i c T fr' hh
   exact ⟨c,T,fr',m,(low (by decide)).trans hh,hm⟩
  ·cases hm
 case gp=>
  have gp:Tryz.prog.globalNamed "internal/strconv.uint64pow10" = some 0:=by kernel_rfl
  obtain ⟨g',t',cp,fuel,p,e1,e2,e3,e4⟩:=Lib.laidMet.reads hL hp;obtain rfl:=v1w (gp.symm.trans e1);obtain ⟨T,fr',hh⟩:=zqf gp e3;refine ⟨T,fr',(low (by decide)).trans ?_⟩
  rw [hh];have et:(Tryz.prog.globals[0]?).map (·.type)=some 262:=by kernel_rfl
  obtain rfl:=v1w (et.symm.trans e2)
  have:=Lib.cells_of_tab (e:=103) (n:=20) (by kernel_rfl) (by kernel_rfl) (by kernel_rfl) (by kernel_rfl) e4
  congr 1
  congr 1
  apply Array.ext';exact this
 case gs=>
  obtain ⟨cs,Ts,fs,tes,pes,hs1,hs2⟩:=y91 (g:=2) (Lib.laidMet.reads hL h2) (by kernel_rfl) (show _=some 120 by kernel_rfl) Tryz.underlying120
  exact ⟨cs,Ts,fs,tes,pes,(low (by decide)).trans hs1,hs2⟩
 case gr=>
  obtain ⟨cr,Tr,fr,ter,per,hr1,hr2⟩:=y91 (g:=3) (Lib.laidMet.reads hL h1) (by kernel_rfl) (show _=some 120 by kernel_rfl) Tryz.underlying120
  exact ⟨cr,Tr,fr,ter,per,(low (by decide)).trans hr1,hr2⟩
def X0:Zone:=⟨fun _=>False,fun _=>False⟩
def γ0:Nat→Value:=fun _=>.nilIface
abbrev O0:Nat→Prop:=z0a X0 γ0 []
theorem ykr (b:Nat):¬ O0 b:=by
 rintro (⟨n,ob,h,_⟩ | h)
 ·simp [z04,lkd] at h
 ·exact h
theorem ylm (W:World):Rel B0.base 0 W X0 γ0 ⟨[],[]⟩ zvv W:=by
 have no:∀ n ob,z04 ([]:Store) n≠some ob:=fun n ob h=>by simp [z04,lkd] at h
 refine ⟨rfl,rfl,fun i=>by simp only [St.get,lkd,VRel],fun n ob h=>absurd h (no n ob),fun b h=>?_,fun n m ob ob' b _ h=>absurd h (no n ob),Keep.refl _ _,fun b h=>?_,fun b h=>h.elim,fun p _ ob h=>absurd h (no _ ob)⟩
 ·obtain ⟨n,ob,h,_⟩:=h
  exact absurd h (no n ob)
 ·obtain ⟨n,ob,h,_⟩:=h
  exact absurd h (no n ob)
theorem zzr {f:Nat} {fn:Func} (hf:PR.funcs[f]?=some fn) (hn:(fn.name == "runtime.NumGoroutine")=false) (hb:fn.body.isNone=false) {xs:List Value} {w:World} {R:Ending→World→Prop} (h:Does PR f xs w R):Calls PR f xs.toArray w R:=by
 have:(callFunc f xs.toArray).run PR w = .ok (.enter f xs.toArray) w:=by
  unfold callFunc;have hn':¬ fn.name = "runtime.NumGoroutine":=by simpa using hn
  have hb':¬ fn.body=none:=fun h=>by rw [h] at hb; cases hb
  simp [hf,hn',hb']
 unfold Does at h;rw [this] at h;exact h
theorem yas {f:Nat} {fn:Func} {sp:z0q} (hS:z2y PR B0 f sp) (hf:PR.funcs[f]?=some fn) (hn:(fn.name == "runtime.NumGoroutine")=false) (hb:fn.body.isNone=false) {vs:List V} {xs:List Value} {W:World}
  (hsp:(sp vs).get=some (.bool true,[])) (hbor:z6e vs=none) (hG:Glob B0 W) (hV:VRels γ0 [] W O0 (vs.map z8s) xs) :
  Calls PR f xs.toArray W fun e w'=>e = .returned (.bool true)∧Below W.heap.size W w':=by
 refine zzr hf hn hb ?_;have em:zcg vs=[]:=by unfold zcg; rw [hbor]
 refine Does.mono (hS W X0 γ0 vs xs (.bool true) [] hsp hG (fun b h=>h.elim) (by rw [em]; exact ylm W) (by rw [em]; exact hV)) ?_
 rintro e w' ⟨x,rfl,γ',hR,hx,_⟩
 simp only [y6u,z8s,VRel] at hx;subst hx;exact ⟨rfl,hR.keep.os,hR.keep.tape,hR.keep.output,hR.keep.size,fun b hb=>hR.keep.block b hb (fun h=>h)⟩
open Go
def agT (P:Program) (e:TypeId):Bool:=match P.underlying e with | some (.struct _)=>true | some (.array _ _)=>true | _=>false
def yis (f:TypeId→Option (List Kd)) (cell:TypeId→Nat):Nat→List (TypeId × Nat)→Option (List Kd)
 | _,[]=>some []
 | off,(t,o) :: r=>match Nat.beq o off with
  | true=>match f t with
   | some ks=>match Nat.beq (cell t) ks.length with
    | true=>match yis f cell (off+ks.length) r with
     | some ks'=>some (ks++ks')
     | none=>none
    | false=>none
   | none=>none
  | false=>none
def kdT (P:Program):Nat→TypeId→Option (List Kd)
 | 0,_=>none
 | n+1,t=>match P.underlying t with
  | some .bool=>some [.bool]
  | some (.int k)=>some [.int k]
  | some .string=>some [.str]
  | some (.slice e)=>match kdT P n e with
   | some ks=>match Nat.ble 1 (P.bytesOf e)&&(Nat.beq (P.cellsOf e) ks.length&&(Nat.ble 1 ks.length&&(agT P e||Nat.beq ks.length 1))) with
    | true=>some [.list (agT P e) ks]
    | false=>none
   | none=>none
  | some (.struct fs)=>match yis (kdT P n) P.cellsOf 0 (fs.toList.map fun f=>(f.type,f.offset)) with
   | some ks=>match Nat.beq (P.cellsOf t) ks.length with | true=>some ks | false=>none
   | none=>none
  | some (.array m e)=>match yis (kdT P n) P.cellsOf 0 ((List.range m).map fun i=>(e,i*P.cellsOf e)) with
   | some ks=>match Nat.beq (P.cellsOf t) ks.length with | true=>some ks | false=>none
   | none=>none
  | _=>none
def CellsK (w:World) (O:Nat→Prop):List Kd→List IV→List Value→Prop
 | [],[],[]=>True
 | k :: ks,x :: f,v :: cs=>Kd.Rel w O k x v∧CellsK w O ks f cs
 | _,_,_=>False
section
variable {w:World} {O:Nat→Prop}
theorem CellsK.append:∀ {ks:List Kd} {f:List IV} {cs:List Value} {ks':List Kd} {f':List IV} {cs':List Value},CellsK w O ks f cs→CellsK w O ks' f' cs'→CellsK w O (ks++ks') (f++f') (cs++cs')
 | [],[],[],_,_,_,_,h'=>h'
 | _ :: ks,_ :: f,_ :: cs,_,_,_,h,h'=>by
  simp only [CellsK] at h;simp only [v1k,CellsK];exact ⟨h.1,h.2.append h'⟩
 | [],_ :: _,_,_,_,_,h,_=>by simp [CellsK] at h
 | [],[],_ :: _,_,_,_,h,_=>by simp [CellsK] at h
 | _ :: _,[],_,_,_,_,h,_=>by simp [CellsK] at h
 | _ :: _,_ :: _,[],_,_,_,h,_=>by simp [CellsK] at h
theorem CellsK.get:∀ {ks:List Kd} {f:List IV} {cs:List Value},CellsK w O ks f cs→∀ (j:Nat) (k:Kd),ks[j]?=some k→∃ v,cs[j]?=some v∧Kd.Rel w O k (nth f j) v
 | [],_,_,_,j,k,h=>by simp at h
 | k :: ks,x :: f,v :: cs,h,j,k',hj=>by
  simp only [CellsK] at h;cases j with
  | zero=>
   simp only [v0p,v00] at hj;subst hj;exact ⟨v,rfl,by simpa only [nth] using h.1⟩
  | succ j=>
   obtain ⟨u,h1,h2⟩:=h.2.get j k' (by simpa using hj)
   exact ⟨u,by simpa using h1,by simpa only [nth] using h2⟩
 | _ :: _,[],_,h,_,_,_=>by simp [CellsK] at h
 | _ :: _,_ :: _,[],h,_,_,_=>by simp [CellsK] at h
theorem zqj {α:Type} {Q:Nat→α→Prop}:∀ n,(∀ i,i < n→∃ x,Q i x)→∃ L:List α,L.length=n∧∀ i x,L[i]?=some x→Q i x
 | 0,_=>⟨[],rfl,fun i x h=>by simp at h⟩
 | n+1,h=>by
  obtain ⟨L,hl,hL⟩:=zqj n (fun i hi=>h i (by omega))
  obtain ⟨x,hx⟩:=h n (by omega)
  refine ⟨L++[x],by simp [hl],fun i y hy=>?_⟩
  rw [v1r] at hy
  split at hy
  ·exact hL i y hy
  ·rename_i hi
   have:i - L.length=0:=by
    rcases v3m (i - L.length) with e | e
    ·exact e
    ·rw [v0q (by simp; omega)] at hy
     cases hy
   rw [this] at hy;simp only [v0p,v00] at hy;subst hy
   have:i=n:=by omega
   subst this;exact hx
end
theorem zyk {H:Type} {P:Program}:∀ {ts:List TypeId} {ds:List (DataW H)} {i:Nat} {t:TypeId} {d:DataW H},ts[i]?=some t→ds[i]?=some d→∀ y∈d.weights P t,y∈DataW.weightsEach P ts ds
 | [],_,i,_,_,h,_,_,_=>by simp at h
 | _ :: _,[],i,_,_,_,h,_,_=>by simp at h
 | t0 :: ts,d0 :: ds,0,t,d,h,h',y,hy=>by
  simp only [v0p,v00] at h h';subst h; subst h';simp only [DataW.weightsEach,v0k];exact .inl hy
 | t0 :: ts,d0 :: ds,i+1,t,d,h,h',y,hy=>by
  simp only [DataW.weightsEach,v0k];exact .inr (zyk (by simpa using h) (by simpa using h') y hy)
theorem zzb {H:Type} {P:Program} {e:TypeId}:∀ {ds:List (DataW H)} {d:DataW H},d∈ds→∀ y∈d.weights P e,y∈DataW.weightsAll P e ds
 | [],_,h,_,_=>by cases h
 | d0 :: ds,d,h,y,hy=>by
  simp only [DataW.weightsAll,v0k];rcases v15.1 h with rfl | h
  ·exact .inl hy
  ·exact .inr (zzb h y hy)
section
variable {H:Type} {enc:TypeId × Value→H} {P:Program} {w:World} {base:Nat} {sp:Nat→Bool} {held:Bool} {O:Nat→Prop}
theorem zjl {f:TypeId→Option (List Kd)} {n:Nat} {cs:List Value}
  (ih:∀ (t:TypeId) (ks:List Kd) (cs:List Value) (d:DataW H) (p:List MemPlace),f t=some ks→DataW.trod enc P w base sp held n t cs=some (d,p)→(∀ y∈d.weights P t,y≤reachBytes)→∃ g,CellsK w O ks g cs) :
  ∀ (parts:List (TypeId × Nat)) (off:Nat) (ks:List Kd) (xs:List (DataW H × List MemPlace)),yis f P.cellsOf off parts=some ks→xs.length=parts.length →
   (∀ (i:Nat) (t:TypeId) (o:Nat),parts[i]?=some (t,o)→DataW.trod enc P w base sp held n t ((cs.drop o).take (P.cellsOf t))=xs[i]?) →
   (∀ (i:Nat) (t:TypeId) (o:Nat) (x:DataW H × List MemPlace),parts[i]?=some (t,o)→xs[i]?=some x→∀ y∈x.1.weights P t,y≤reachBytes)→∃ g,CellsK w O ks g ((cs.drop off).take ks.length)
 | [],off,ks,xs,h,_,_,_=>by
  simp only [yis,v00] at h;subst h;exact ⟨[],by simp only [v0o,List.take_zero,CellsK]⟩
 | (t,o) :: r,off,ks,[],h,hl,_,_=>by simp at hl
 | (t,o) :: r,off,ks,x :: xs,h,hl,ht,hw=>by
  simp only [yis] at h
  split at h
  case h_2=>cases h
  rename_i ho;obtain rfl:=v29 ho
  split at h
  case h_2=>cases h
  rename_i k1 hk1
  split at h
  case h_2=>cases h
  rename_i hc;have hc:=v29 hc
  split at h
  case h_2=>cases h
  rename_i k2 hk2;simp only [v00] at h;subst h;have h0:=ht 0 t o rfl;simp only [v0p] at h0;obtain ⟨d,p⟩:=x;obtain ⟨g1,hg1⟩:=ih t k1 _ d p hk1 h0 (hw 0 t o (d,p) rfl rfl);obtain ⟨g2,hg2⟩:=zjl ih r (o+k1.length) k2 xs hk2 (by simpa using hl) (fun i t' o' hi=>by simpa using ht (i+1) t' o' (by simpa using hi)) (fun i t' o' x hi hx=>hw (i+1) t' o' x (by simpa using hi) (by simpa using hx))
  refine ⟨g1++g2,?_⟩;rw [v08,List.take_add,v3v];rw [hc] at hg1;exact hg1.append hg2
theorem ygx {a:Addr} {v:Value} (h:w.cell? a=some v):a.spot=none∧a.block < w.heap.size:=by
 unfold World.cell? at h
 split at h
 ·rename_i c _ _ hc
  split at h
  ·cases h
  ·rename_i hs
   exact ⟨by simpa using hs,(Array.getElem?_eq_some_iff.1 hc).1⟩
 ·cases h
theorem zz5 (hO:∀ b,¬ O b):∀ (n:Nat) (t:TypeId) (ks:List Kd) (fuel:Nat) (cs:List Value) (d:DataW H) (p:List MemPlace),kdT P n t=some ks →
  DataW.trod enc P w base sp held fuel t cs=some (d,p)→(∀ y∈d.weights P t,y≤reachBytes)→∃ g,CellsK w O ks g cs
 | 0,_,_,_,_,_,_,h,_,_=>by simp [kdT] at h
 | n+1,t,ks,fuel,cs,d,p,h,ht,hw=>by
  simp only [kdT] at h
  split at h
  ·rename_i hu
   simp only [v00] at h;subst h;obtain ⟨b,rfl,_⟩:=DataW.trod_bool hu ht;exact ⟨[.bool b],by simp only [CellsK,Kd.Rel,IV.toBool,and_self]⟩
  ·rename_i k hu
   simp only [v00] at h;subst h;obtain ⟨m,rfl,_,hm⟩:=DataW.trod_int hu ht;simp only [Lit.wf,v02,v06] at hm;exact ⟨[.int m],by simp only [CellsK,Kd.Rel,IV.toInt,v18,v45]; exact hm⟩
  ·rename_i hu
   simp only [v00] at h;subst h;obtain ⟨s,rfl,hd,hs⟩:=DataW.trod_string hu ht;simp only [v04] at hd;refine ⟨[.str s],?_⟩;simp only [CellsK,Kd.Rel,IV.toStr,v18,v45];rw [hd.1] at hw
   have:=hw s.data.toList.length (by simp [DataW.weights])
   have e:s.data.toList.length=s.size:=by rw [v14]; rfl
   rw [e] at this;unfold reachBytes at this;unfold strMax;omega
  ·rename_i e hu
   split at h
   case h_2=>cases h
   rename_i k1 hk1
   split at h
   case h_2=>cases h
   rename_i hc;simp only [v00] at h;subst h;simp only [v02,v2v] at hc;obtain ⟨hb,hce,hk0,hag⟩:=hc;have hb:=v03 hb;have hce:=v29 hce;have hk0:=v03 hk0;rcases DataW.trod_slice hu ht with ⟨rfl,_⟩ | ⟨a,len,cap,elems,rest,m,_,rfl,hx,_,hlc,hcap,hlen,hel,_⟩
   ·refine ⟨[.list []],?_⟩
    simp only [CellsK,Kd.Rel,IV.toList,v18];exact ⟨none,0,rfl,v09 _,v0y _,v0y _,fun i y hi=>by simp at hi⟩
   ·simp only [v04] at hx
    obtain ⟨rfl,_⟩:=hx;simp only [DataW.weights,hu,v15,v0k] at hw;have hsz:len≤strMax:=by
     have:=hw _ (.inl rfl)
     rw [v12,hlen] at this;have h1:len*1≤(len+(rest.map (·.1)).length)*P.bytesOf e:=Nat.mul_le_mul (by omega) hb
     unfold reachBytes at this;unfold strMax;omega
    have hex:∀ i,i < len→∃ g:List IV,∃ ci,w.cells? base (a.add (i*k1.length)) k1.length=some ci∧CellsK w O k1 g ci:=by
     intro i hi;have h1:=hel i hi;have hi':i < elems.length:=by omega
     rw [v0e hi',hce] at h1;simp only [Option.bind_eq_some_iff] at h1;obtain ⟨ci,h2,h3⟩:=h1;obtain ⟨g,hg⟩:=zz5 hO n e k1 m ci elems[i].1 elems[i].2 hk1 h3 (fun y hy=>hw y (.inr (.inl (zzb (v35 (v2j hi')) y hy))))
     exact ⟨g,ci,h2,hg⟩
    obtain ⟨L,hL,hLi⟩:=zqj len hex;refine ⟨[.list (L.map fun g=>match agT P e with | true=>IV.agg g | false=>nth g 0)],?_⟩
    simp only [CellsK,Kd.Rel,IV.toList,v18,v12,hL];refine ⟨some a,cap,rfl,hlc,hcap,hsz,fun i y hi=>?_⟩
    rw [v0x,v1d] at hi;obtain ⟨g,hg,rfl⟩:=hi;obtain ⟨ci,hci,hgc⟩:=hLi i g hg;have hil:i < len:=by rw [← hL]; exact (List.getElem?_eq_some_iff.1 hg).1
    have cellAt:∀ j k,k1[j]?=some k→∃ u,w.cell? ((a.add (i*k1.length)).add j)=some u∧Kd.Rel w O k (nth g j) u:=by
     intro j k hk;obtain ⟨u,h1,h2⟩:=hgc.get j k hk;refine ⟨u,?_,h2⟩;have hj:j < k1.length:=(List.getElem?_eq_some_iff.1 hk).1;unfold World.cells? at hci
     split at hci
     ·obtain ⟨b,hb1,hb2⟩:=Lib.mapM_at hci j j (by simp [hj])
      rw [h1] at hb1;simp only [v00] at hb1;rw [hb2,hb1]
     ·cases hci
    have hspot:a.spot=none∧a.block < w.heap.size:=by
     obtain ⟨g0,hg0⟩:∃ g0,L[0]?=some g0:=⟨L[0]'(by omega),v0e (by omega)⟩
     obtain ⟨c0,hc0,hgc0⟩:=hLi 0 g0 hg0;obtain ⟨u,h1,_⟩:=hgc0.get 0 k1[0] (v0e (by omega))
     unfold World.cells? at hc0
     split at hc0
     ·obtain ⟨b,_,hb2⟩:=Lib.mapM_at hc0 0 0 (List.getElem?_range (show 0 < k1.length by omega))
      have:=ygx hb2
      rw [Nat.zero_mul] at this
      simpa [Addr.add] using this
     ·cases hc0
    obtain ⟨ab,ao,asp⟩:=a;obtain ⟨hs1,hs2⟩:=hspot;simp only at hs1 hs2;subst hs1;refine ⟨ab,ao,rfl,hO ab,hs2,?_⟩;rw [Kd.RelAll_iff];intro j k hk;obtain ⟨u,h1,h2⟩:=cellAt j k hk;rw [Lib.add_plain,Lib.add_plain] at h1;rw [v0n];refine ⟨u,h1,?_⟩;cases hat:agT P e with
    | true=>
     show Kd.Rel w O k (nth g j) u;exact h2
    | false=>
     rw [hat] at hag;have h1l:k1.length=1:=v29 (by simpa using hag)
     have hj:j < k1.length:=(List.getElem?_eq_some_iff.1 hk).1
     have:j=0:=by omega
     subst this;exact h2
  ·rename_i fs hu
   split at h
   case h_2=>cases h
   rename_i k1 hk1
   split at h
   case h_2=>cases h
   rename_i hc;have hc:=v29 hc;simp only [v00] at h;subst h;obtain ⟨xs,m,_,hx,hcl,hxl,hall⟩:=DataW.trod_struct hu ht;simp only [v04] at hx;obtain ⟨rfl,_⟩:=hx;simp only [DataW.weights,hu] at hw;have key:=zjl (enc:=enc) (P:=P) (w:=w) (base:=base) (sp:=sp) (held:=held) (O:=O) (f:=kdT P n) (n:=m) (cs:=cs) (fun t ks cs d p h1 h2 h3=>zz5 hO n t ks m cs d p h1 h2 h3) (fs.toList.map fun f=>(f.type,f.offset)) 0 k1 xs hk1 (by simp [hxl]) (fun i t o hi=>by
     rw [v0x,v1d] at hi;obtain ⟨f,hf,he⟩:=hi;simp only [v04] at he;obtain ⟨rfl,rfl⟩:=he;exact hall i f (by simpa using hf)) (fun i t o x hi hx y hy=>by
     rw [v0x,v1d] at hi;obtain ⟨f,hf,he⟩:=hi;simp only [v04] at he;obtain ⟨rfl,rfl⟩:=he;exact hw y (zyk (i:=i) (by rw [v0x,hf]; rfl) (by rw [v0x,hx]; rfl) y hy))
   obtain ⟨g,hg⟩:=key;rw [v11,v0z (by omega)] at hg
   exact ⟨g,hg⟩
  ·rename_i m0 e hu
   split at h
   case h_2=>cases h
   rename_i k1 hk1
   split at h
   case h_2=>cases h
   rename_i hc;have hc:=v29 hc;simp only [v00] at h;subst h;obtain ⟨xs,m,_,hx,hcl,hxl,hall⟩:=DataW.trod_array hu ht;simp only [v04] at hx;obtain ⟨rfl,_⟩:=hx;simp only [DataW.weights,hu] at hw;have key:=zjl (enc:=enc) (P:=P) (w:=w) (base:=base) (sp:=sp) (held:=held) (O:=O) (f:=kdT P n) (n:=m) (cs:=cs) (fun t ks cs d p h1 h2 h3=>zz5 hO n t ks m cs d p h1 h2 h3) ((List.range m0).map fun i=>(e,i*P.cellsOf e)) 0 k1 xs hk1 (by simp [hxl]) (fun i t o hi=>by
     rw [v0x,v1d] at hi;obtain ⟨f,hf,he⟩:=hi;simp only [v04] at he;obtain ⟨rfl,rfl⟩:=he;have hfi:=List.getElem?_eq_some_iff.1 hf;obtain ⟨hl,he⟩:=hfi;rw [List.getElem_range] at he;subst he;exact hall i (by simpa using hl)) (fun i t o x hi hx y hy=>by
     rw [v0x,v1d] at hi;obtain ⟨f,hf,he⟩:=hi;simp only [v04] at he;obtain ⟨rfl,rfl⟩:=he;exact hw y (zzb (v35 (v1l hx)) y hy))
   obtain ⟨g,hg⟩:=key;rw [v11,v0z (by omega)] at hg
   exact ⟨g,hg⟩
  ·cases h
end
open Go Go.Proofs Go.RowKit Go.ChangeShapes Go.WideShapes
def vOf:Kd→IV→V
 | .int k,x=>.int k x.toInt
 | .bool,x=>.bool x.toBool
 | .str,x=>.str x.toStr
 | .list ag ks,x=>.list ag ks x.toList
theorem yhy {γ:Nat→Value} {o:Store} {w:World} {O:Nat→Prop} {k:Kd} {x:IV} {v:Value} (h:Kd.Rel w O k x v):VRel γ o w O (vOf k x) v:=by
 cases k with
 | int k=>simpa only [vOf,VRel,Kd.Rel] using h
 | bool=>simpa only [vOf,VRel,Kd.Rel] using h
 | str=>simpa only [vOf,VRel,Kd.Rel] using h
 | list ag ks=>
  simp only [vOf,VRel]
  simpa only [Kd.Rel,IV.toList] using h
theorem CellsK.len {w:World} {O:Nat→Prop}:∀ {ks:List Kd} {f:List IV} {cs:List Value},CellsK w O ks f cs→f.length=ks.length
 | [],[],[],_=>rfl
 | _ :: _,_ :: _,_ :: _,h=>by
  simp only [CellsK] at h;simp only [List.length_cons,h.2.len]
 | [],_ :: _,_,h=>by simp [CellsK] at h
 | [],[],_ :: _,h=>by simp [CellsK] at h
 | _ :: _,[],_,h=>by simp [CellsK] at h
 | _ :: _,_ :: _,[],h=>by simp [CellsK] at h
section
variable {H:Type} {enc:TypeId × Value→H} {P:Program} {W:World} {base b0:Nat} {sp:Nat→Bool} {held:Bool}
theorem ydw {n:Nat} {t:TypeId} {k:Kd} {v:Value} {d:DataW H} {p:List MemPlace} (hk:kdT P n t=some [k]) (hu:agT P t=false) (hval:Value.okWide P W .any base t v)
  (h:DataW.Trod enc P W b0 sp held t v d p) (hw:∀ y∈d.weights P t,y≤reachBytes):∃ x:IV,VRel γ0 [] W O0 (vOf k x) v:=by
 obtain ⟨fuel,hf⟩:=h;obtain ⟨g,hg⟩:=zz5 (O:=O0) ykr n t [k] fuel _ d p hk hf hw;have hc:v.cells.toList=[v]:=by
  cases v with
  | agg cs=>
   exfalso;unfold agT at hu;unfold Value.okWide at hval
   split at hu
   ·cases hu
   ·cases hu
   ·rename_i h1 h2
    split at hval
    ·rename_i hh; exact h1 _ hh
    ·rename_i hh; exact h2 _ _ hh
    ·unfold Cell.okWide Cell.ok at hval
     split at hval <;> first | (split at hval <;> simp_all) | simp_all
  | _=>rfl
 rw [hc] at hg
 match g,hg with
 | [x],hg=>
  simp only [CellsK,and_true] at hg;exact ⟨x,yhy hg⟩
theorem zly (hl:laidOutB P=true) {W':World} (hb:Below W.heap.size W W'):∀ {ts:List TypeId} {vs:List Value} {ds:List (DataW H)} {ps:List MemPlace},DataW.TrodAll enc P W 0 (fun _=>true) true ts vs ds ps →
  (∀ t∈ts,P.readableRec t=true∧t < P.types.size)→(∀ x∈ps,x.block < W.heap.size)→DataW.TrodAll enc P W' 0 (fun b=>decide (b < W.heap.size)) true ts vs ds ps
 | [],vs,ds,ps,h,_,_=>by
  obtain ⟨rfl,rfl,rfl⟩:=trodAll_nil h
  rfl
 | t :: ts,vs,ds,ps,h,ht,hp=>by
  obtain ⟨v,vs1,d,ds1,a,b,rfl,rfl,rfl,h1,h2⟩:=trodAll_cons h;have hh:=ht t (List.mem_cons_self ..);exact ⟨a,b,Below.trod hl hh.1 hh.2 h1 hb (fun x hx=>hp x (List.mem_append.2 (.inl hx))),zly hl hb h2 (fun t' h'=>ht t' (List.mem_cons_of_mem _ h')) (fun x hx=>hp x (List.mem_append.2 (.inr hx))),rfl⟩
end
theorem yby:ownKnob Tryz.prog.godebug=none:=by kernel_rfl
theorem ztc:laidOutB Tryz.prog=true:=by kernel_rfl
theorem y94 {os:Os} (started:os.Started) {H:Type} {enc:TypeId × Value→H} {spec:ChangeSpec} {f:Nat} {fn:Func} {sp:z0q} {laid:List (String × DataW Unit)} (hS:z2y PR B0 f sp) (hf:Tryz.prog.funcs[f]?=some fn)
  (hn:(fn.name == "runtime.NumGoroutine")=false) (hb:fn.body.isNone=false) (hini:Tryz.prog.inits.idxOf? f=none) (hres:fn.resultTypes = #[4]) (hvars:spec.vars=[])
  (hspec:∀ (ds:List (DataW H)),ds.length=fn.params.toList.length→spec.fn H ds={ results:=[.lit (.bool true)],args:=ds })
  (hpar:fn.params.toList.all (fun t=>Tryz.prog.readableRec t&&decide (t < Tryz.prog.types.size))=true)
  (hglob:∀ W:World,laidMetH Tryz.prog laid W→W.ShapedOpen Tryz.prog→Glob B0 W)
  (witness:∃ (w:World) (tape:Tape) (i:Input),w.os=os∧(w.forCall tape i).Shaped Tryz.prog∧i.vars=[]∧Input.okWide Tryz.prog (w.forCall tape i) .any w.heap.size f i ∧
   (OpenSpec.ofChange spec).preRow enc Tryz.prog fn [] false laid (w.forCall tape i).memory i.args∧({}:Assume).holds Tryz.prog (lone (Frame.enter Tryz.prog f i.args .normal) [] (w.forCall tape i)))
  (harg:∀ (W:World) (base:Nat) (vs:List Value) (ds:List (DataW H)) (p:List MemPlace),DataW.TrodAll enc Tryz.prog W 0 (fun _=>true) true fn.params.toList vs ds p →
   (∀ (j:Nat) t v,fn.params.toList[j]?=some t→vs[j]?=some v→Value.okWide Tryz.prog W .any base t v) →
   (∀ (j:Nat) t d,fn.params.toList[j]?=some t→ds[j]?=some d→∀ y∈d.weights Tryz.prog t,y≤reachBytes) →
   ∃ l:List V,(sp l).get=some (.bool true,[])∧z6e l=none∧VRels γ0 [] W O0 (l.map z8s) vs) :
  ReturnsInHanded {} Tryz.checked os f .any ((OpenSpec.ofChange spec).preRow enc Tryz.prog fn [] false laid) (spec.post enc Tryz.prog fn false true false false):=by
 refine returnsInHanded_of_row (C:=Tryz.checked) (s:=OpenSpec.ofChange spec) (F:=fun _ _ _=>0) yby started hini hf witness ?_
 intro W base args ds gs before hval hW _ _ hwt hL hsh _;have hW':=hW;obtain ⟨p,q,hA,hV,rfl,_,_⟩:=hW;have hvars':(OpenSpec.ofChange spec).vars=[]:=hvars;rw [hvars'] at hV;obtain ⟨rfl,rfl⟩:=trodVars_none hV;have hlen:ds.length=fn.params.toList.length:=by
  have:∀ {ts:List TypeId} {vs:List Value} {ds:List (DataW H)} {ps:List MemPlace},DataW.TrodAll enc Tryz.prog W 0 (fun _=>true) true ts vs ds ps→ds.length=ts.length:=by
   intro ts
   induction ts with
   | nil=>intro vs ds ps h; obtain ⟨_,rfl,_⟩:=trodAll_nil h; rfl
   | cons t ts ih=>
    intro vs ds ps h;obtain ⟨v,vs1,d,ds1,a,b,rfl,rfl,rfl,h1,h2⟩:=trodAll_cons h;simp only [List.length_cons,ih h2]
  exact this hA
 simp only [List.append_nil] at hW' hwt;obtain ⟨l,hl,hbor,hrel⟩:=harg W base args.toList ds p hA (fun j t v h1 h2=>hval j t v (by simpa using h1) (by simpa using h2)) (fun j t d h1 h2 y hy=>by
  have hm:=zyk (P:=Tryz.prog) (ts:=fn.params.toList++(OpenSpec.ofChange spec).bare.plain.varTypes Tryz.prog) (ds:=ds) (i:=j) (t:=t) (d:=d) (by
   rw [List.getElem?_append_left (by rw [← hlen]; exact (List.getElem?_eq_some_iff.1 h2).1)]
   exact h1) h2 y hy
  have:=List.all_eq_true.1 hwt y hm
  simpa using this)
 have hc:=yas hS hf hn hb hl hbor (hglob W hL hsh) hrel;have ea:args.toList.toArray=args:=by simp
 rw [ea] at hc;refine hc.mono ?_
 rintro e W' ⟨rfl,bel⟩
 have hfn:spec.fn H (ds++[])={ results:=[.lit (.bool true)],args:=ds }:=by rw [List.append_nil]; exact hspec ds hlen
 have hlt:∀ x∈p,x.block < W.heap.size:=fun x hx=>hW'.lt x hx
 have post:spec.post enc Tryz.prog fn false true false false W args (.bool true) W':=by
  refine ⟨ds,[],p,[],p,[],hW',?_,?_,?_,bel.frame _,fun h=>by cases h⟩
  ·rw [hfn,hres]
   exact trodAll_mk1 (shut_bool Tryz.underlying4 _)
  ·rw [hfn]
   exact zly ztc bel hA (fun t ht=>by
    have:=List.all_eq_true.1 hpar t ht
    simpa using this) hlt
  ·rw [hvars,hfn]
   rfl
 exact ⟨_,rfl,post⟩
end Go.FM
namespace Go.Proofs.YtehhekmihbaghaaGreatDoor
open Go Go.ChangeShapes Go.WideShapes Go.ChangeAt Go.RowKit Go.FM
theorem yby:ownKnob Tryz.prog.godebug=none:=by kernel_rfl
theorem ztc:laidOutB Tryz.prog=true:=by kernel_rfl
abbrev zl5:List (String × DataW Unit):=Rows.topLinesRow.laid
noncomputable def y4g (os:Os):World:=
 let w0:=World.doorLaid Tryz.prog 72 os
 { w0 with heap:=w0.heap.modify 4 fun
  | .cells _ t frozen=>.cells (Lib.firstTab.map fun z=>Value.int .u8 z).toArray t frozen
  | o=>o }
theorem yg7 (os:Os) (args:Array Value):laidMetH Tryz.prog zl5 ((y4g os).forCall (fun _ _=>0) ⟨#[],args,[]⟩).memory:=
 laidMetH_of_parts3 (fuel:=8) (laidMet_of_run' 8 (by kernel_rfl) (by kernel_rfl)) (by kernel_rfl) (by kernel_rfl)
theorem yd3 {W:World} (hL:laidMetH Tryz.prog zl5 W) (hsh:W.ShapedOpen Tryz.prog):Glob B0 W:=by
 have hL':laidMet Tryz.prog zl5 W:=by
  rw [MakeChecks.laidMetH_plain _ _ _ (by kernel_rfl)] at hL
  exact hL
 exact yfp hL' hsh (n1 := "*errors.errorString") (n2 := "*errors.errorString") (.tail _ (.tail _ (.head _))) (.tail _ (.tail _ (.tail _ (.tail _ (.head _))))) (.tail _ (.tail _ (.tail _ (.tail _ (.tail _ (.head _))))))
end Go.Proofs.YtehhekmihbaghaaGreatDoor
