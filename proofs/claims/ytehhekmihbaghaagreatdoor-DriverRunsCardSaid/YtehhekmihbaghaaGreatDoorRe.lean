/-
  A small machine that reads a function of the program and reckons what a call of it comes to; what Go's library on the road comes to; the functions of the program, one by one. No conditions beyond each specification's own. (A PROOF THAT IS GONE THROUGH, IN PLAIN LEAN: its boxes are r, NORMAL FORMS: what the functions' runs come to (written by a, check.ends COMES TO WHAT IS SAID., and so on.)
-/
import Derived.Test.YtehhekmihbaghaaGreatDoorRd
import Derived.Test.YtehhekmihbaghaaGreatDoorRb
import Derived.Test.YtehhekmihbaghaaGreatDoorRc
import Derived.Shelf.Vars
import Derived.Lib.LaidU8
import Derived.Lib.LaidTab
import Derived.Carry
import Derived.ChangeArms
import Derived.OpenShut
import Derived.Lib.ItoaMem
import Derived.Test.YtehhekmihbaghaaGreatDoorRows
import Derived.ProofKit
import Derived.LaidMore
import Derived.LaidHandle
import Derived.Deep.DeepHandedRow
import Derived.Stop.Joined
import Derived.Test.YtehhekmihbaghaaGreatDoorTie
import Derived.Test.YtehhekmihbaghaaGreatDoorCards
import Derived.SevenTiedAt
import Derived.Deep.DeepWitnessRowRef
set_option linter.all false
set_option maxRecDepth 100000
namespace Go.FM
open Go
theorem y6s {x:IV} {left most:Int} {st:Int × Int} (h:zqt (left,most) x=some st):left≠0∧zcs x=true∧((zc1 x=true∧st=(left - 1,most))∨(zc1 x=false∧st=(left+1,max most (left+1)))):=by
 unfold zqt at h;cases hz:(left==0) with
 | true=>simp only [hz,v3x,v2f] at h; cases h
 | false=>
  have hne:left≠0:=by simpa using hz
  simp only [hz,v2g] at h;cases hr:zcs x with
  | false=>rw [hr] at h; cases h
  | true=>
   rw [hr] at h;simp only [v0c,v1n] at h;cases hs:zc1 x with
   | true=>rw [hs] at h; exact ⟨hne,rfl,.inl ⟨rfl,(v1t h).symm⟩⟩
   | false=>rw [hs] at h; exact ⟨hne,rfl,.inr ⟨rfl,(v1t h).symm⟩⟩
theorem zq6 {x:IV} (h:zcs x=true) (hs:zc1 x=false):0≤z1k x∧z1k x≤4:=by
 unfold zcs at h;rw [hs,z02,v02,v06,v06] at h;exact h
theorem y3g {x:IV} {left out:List IV} {most:Int} {st:Int × Int} {lo:List IV × List IV} (hl:∀ y∈left,(bxI y).good) (ho:∀ y∈out,(bxI y).good) (hd:zqt (ic left.length,most) x=some st) (hp:zs3 (left,out) x=some lo) :
  (∀ y∈lo.1,(bxI y).good)∧(∀ y∈lo.2,(bxI y).good)∧st.1=ic lo.1.length:=by
 obtain ⟨hne,hr,hd⟩:=y6s hd;have hlen:0 < left.length:=by simp only [ic] at hne; omega
 have ht:(z6w left).good:=hl _ (zqg hlen).1;unfold zs3 at hp;rcases hd with ⟨hs,rfl⟩ | ⟨hs,rfl⟩
 ·rw [hs] at hp
  obtain rfl:=v1t hp;refine ⟨fun y hy=>hl y (y4d hy),fun y hy=>?_,?_⟩
  ·rcases v0k.1 hy with hy | hy
   ·exact ho y hy
   ·obtain rfl:=v28.1 hy
    rw [y90]; exact ht
  ·show ic left.length - 1=ic (zhz left).length
   rw [zjb]; simp only [ic]; omega
 ·rw [hs] at hp
  have hpl:=zq6 hr hs;have ej:z1k x=(((z1k x).toNat:Nat):Int):=by omega
  cases hc:(decide (zhv x < ((z6w left).g (z1k x).toNat).lo)||decide (zhv x≥((z6w left).g (z1k x).toNat).hi)) with
  | true=>simp only [hc,v1n,v2f] at hp; cases hp
  | false=>
   simp only [hc,v1n] at hp;obtain rfl:=v1t hp;simp only [v2v,v14] at hc;refine ⟨fun y hy=>?_,ho,?_⟩
   ·rcases v0k.1 hy with hy | hy
    ·exact hl y (y4d hy)
    ·rcases v13.1 hy with rfl | hy
     ·rw [y90,ej]; exact yc4 ht (by omega) (by omega) (by omega)
     ·obtain rfl:=v28.1 hy
      rw [y90,ej]; exact yaz ht (by omega) (by omega) (by omega)
   ·show ic left.length+1=ic (zhz left++[_,_]).length
    rw [v0a,zjb];simp only [ic,v05,v0o]; omega
theorem yah:∀ {l:List IV} {left out:List IV} {most:Int} {st:Int × Int} {lo:List IV × List IV},(∀ y∈left,(bxI y).good)→(∀ y∈out,(bxI y).good)→yd9 l (ic left.length,most)=some st→y6g l (left,out)=some lo→∀ y∈lo.2,(bxI y).good
 | [],left,out,most,st,lo,_,ho,_,hp=>by
  obtain rfl:=v1t hp;exact ho
 | x :: l,left,out,most,st,lo,hl,ho,hd,hp=>by
  rw [yd9] at hd;rw [y6g] at hp;cases h1:zqt (ic left.length,most) x with
  | none=>rw [h1] at hd; cases hd
  | some s1=>
   cases h2:zs3 (left,out) x with
   | none=>rw [h2] at hp; cases hp
   | some l1=>
    rw [h1] at hd;rw [h2] at hp;obtain ⟨g1,g2,g3⟩:=y3g hl ho h1 h2;obtain ⟨a,b⟩:=l1;obtain ⟨c,d⟩:=s1;obtain rfl:c=ic a.length:=g3;exact yah g1 g2 hd hp
theorem y0h {l:List IV} (h:zmi l > 0):∃ st,yd9 l (1,1)=some st:=by
 unfold zmi at h;cases hc:decide (ic l.length > 65536) with
 | true=>rw [hc,z00] at h; omega
 | false=>
  rw [hc,z02] at h;cases hd:yd9 l (1,1) with
  | none=>rw [hd] at h; exact absurd h (by decide)
  | some st=>exact ⟨st,rfl⟩
theorem yec {b:Bx} (hb:b.good) {l outs:List IV} (h:psF b l=some outs):∀ y∈outs,(bxI y).good:=by
 unfold psF at h;cases hd:decide (zmi l > 0) with
 | false=>rw [hd,z02] at h; cases h
 | true=>
  rw [hd,z00] at h;obtain ⟨st,hst⟩:=y0h (v0d hd);cases hp:y6g l ([b.I],[]) with
  | none=>rw [hp] at h; cases h
  | some lo=>
   rw [hp] at h;obtain rfl:=v1t h;refine yah (left:=[b.I]) (out:=[]) (most:=1) (fun y hy=>?_) (fun y hy=>by cases hy) hst hp
   obtain rfl:=v28.1 hy;rw [y90]; exact hb
open Go Go.Proofs
def z92 (N:Nat):Env:=mkE [(111,z74),(112,z29),(55,z1t)] [(3,⟨[0,4,5,6,7,8,9],[500],[⟨.tmp 9,500,252,true,yj5⟩]⟩)] 88 N
open Go Go.Proofs
set_option maxRecDepth 100000
def ztq (l O:List IV) (n:Nat) (lo hi:Int) (any:Bool):St:=⟨[(0,.list false [.int .u64] l),(4,.int .i64 0),(5,.int .i64 0),(6,.int .i64 lo),(7,.int .i64 hi),(8,.bool any),(9,.row 500 0 n)],[(500,some (.row true 252 true yj5 O))]⟩
abbrev yjl:KP:=⟨[0,4,5,6,7,8,9],[500],[⟨.tmp 9,500,252,true,yj5⟩]⟩
noncomputable abbrev yja (N:Nat):Out→St→Res:=z06 0 (kSq (z92 N) (z0i z8y [1,1,1,1]) (z2v (z92 N) none [.tmp 4,.tmp 5] [[.int .i64],[.int .i64]]))
def eW (n:Nat):Int:=IntKind.wrap IntKind.i64 (ic (n - 0) - 1)
def eX (O:List IV) (n:Nat):IV:=O.getD (0+(eW n).toNat) default
def eWd (l:List IV) (x:IV):Int:=(l.getD (zlv x).toNat default).toInt
theorem ygq (N:Nat) (l:List IV) (b:Bx):z0y (z92 N) z8y [.tmp 4,.tmp 5] [[.int .i64],[.int .i64]] [.list false [.int .u64] l,b.V] =
 lpE (z92 N) (z0i z8y [1,1,1,0,0,0]) yjl N (ztq l [yba 0 b] 1 0 0 false) (yja N):=by kernel_rfl
theorem ybz (N:Nat) (l O:List IV) (n:Nat) (lo hi:Int) (any:Bool) (again:St→Res) (k:Out→St→Res):rnd (z92 N) (z0i z8y [1,1,1,0,0,0]) (ztq l O n lo hi any) (z3v again yjl k) =
 cond (decide (ic (n - 0) > 0)) (cond (decide (0≤eW n)&&decide (eW n < ic (n - 0))) (cond (decide (0≤eW n)&&decide (eW n≤ic (n - 0)))
 (cond (decide (0≤zlv (eX O n))&&decide (zlv (eX O n) < ic l.length))
 (cond (!(zaf (eWd l (eX O n)))) (again (ztq l O (0+(eW n).toNat) lo hi any))
 (cond (zuk (eX O n)).emp (again (ztq l O (0+(eW n).toNat) lo hi any))
 (cond (!(z04 (eWd l (eX O n))).lf)
 (cond (zma (z04 (eWd l (eX O n))).f) (cond (decide ((0+(eW n).toNat+2)*88≤z09))
 (again (ztq l (O.take (0+(eW n).toNat)++[yba (z04 (eWd l (eX O n))).l ((zuk (eX O n)).cutL (z04 (eWd l (eX O n))).f (z04 (eWd l (eX O n))).a),yba (z04 (eWd l (eX O n))).r ((zuk (eX O n)).cutH (z04 (eWd l (eX O n))).f (z04 (eWd l (eX O n))).a)]) (0+(eW n).toNat+2) lo hi any)) none) none)
 (cond (!any) (again (ztq l O (0+(eW n).toNat) (min (z04 (eWd l (eX O n))).v (z04 (eWd l (eX O n))).v) (max (z04 (eWd l (eX O n))).v (z04 (eWd l (eX O n))).v) true))
 (again (ztq l O (0+(eW n).toNat) (min lo (z04 (eWd l (eX O n))).v) (max hi (z04 (eWd l (eX O n))).v) any)))))) none) none) none)
 (k (.exit 0) (ztq l O n lo hi any)):=by kernel_rfl
theorem yh6 (N:Nat) (l O:List IV) (n:Nat) (lo hi:Int) (any:Bool):yja N (.exit 0) (ztq l O n lo hi any)=some (.tup [.int .i64 lo,.int .i64 hi],[]):=by kernel_rfl
theorem zi3 (N:Nat) {l:List IV} (hT:z8v l 4=true) {b:Bx} (hb:b.good):∀ (c:Nat) (O:List IV) (n:Nat) (lo hi:Int) (any:Bool),n≤O.length→EnI l b ⟨O.take n,lo,hi,any⟩→enW (O.take n) < c →
  lpE (z92 N) (z0i z8y [1,1,1,0,0,0]) yjl c (ztq l O n lo hi any) (yja N)=some (.tup [.int .i64 (tLo l b),.int .i64 (tHi l b)],[])
 | 0,_,_,_,_,_,_,_,h=>absurd h (by omega)
 | c+1,O,0,lo,hi,any,hn,h,hc=>by
  obtain ⟨e1,e2⟩:=yi0 hT hb.emp hb.ok h rfl;replace e1:lo=tLo l b:=e1;replace e2:hi=tHi l b:=e2;rw [z05,ybz,show decide (ic (0 - 0) > 0)=false from rfl,z02,yh6,e1,e2]
 | c+1,O,j+1,lo,hi,any,hn,h,hc=>by
  have ht:=zq5 hT;have hlen:(O.take (j+1)).length=j+1:=by rw [v0h]; omega
  have hl:0 < (En.mk (O.take (j+1)) lo hi any).todo.length:=by show 0 < (O.take (j+1)).length; omega
  have hd:=h.depth ht;replace hd:(O.take (j+1)).length≤31:=hd;have hs:=yg2 ht h hl;have hw:=yg0 ht h hl;have htop:z3j (O.take (j+1))=O.getD j default:=by
   unfold z3j;rw [hlen,v0m,v0m,v0z,v1c (by omega)]
   rfl
  have hpop:zhz (O.take (j+1))=O.take j:=by
   unfold zhz;rw [hlen,v3n]
   congr 1
   omega
  have ew:eW (j+1)=(j:Int):=by
   unfold eW;rw [show ic (j+1 - 0) - 1=(j:Int) by simp only [ic]; omega]
   exact z15 (by omega) (by omega)
  have ej:0+(eW (j+1)).toNat=j:=by rw [ew]; omega
  have ex:eX O (j+1)=z3j (O.take (j+1)):=by unfold eX; rw [ej,htop]
  have ha:=h.at_ _ _ (zqg hl).2;replace ha:((((O.take (j+1)).length - 1:Nat)):Int)≤zlv (z3j (O.take (j+1)))∧zlv (z3j (O.take (j+1))) < ic l.length:=ha;have i1:decide (ic (j+1 - 0) > 0)=true:=v01 (by simp only [ic]; omega)
  have i2:(decide (0≤eW (j+1))&&decide (eW (j+1) < ic (j+1 - 0)))=true:=by rw [ew,v01 (by omega),v01 (by simp only [ic]; omega)]; rfl
  have i3:(decide (0≤eW (j+1))&&decide (eW (j+1)≤ic (j+1 - 0)))=true:=by rw [ew,v01 (by omega),v01 (by simp only [ic]; omega)]; rfl
  rw [z05,ybz,i1,z00,i2,z00,i3,z00,ej,ex,v01 (show 0≤zlv (z3j (O.take (j+1))) by omega),v01 ha.2,v0u,z00]
  unfold y28 at hs hw;simp only [z9d,hpop] at hs hw;have eWdef:eWd l (z3j (O.take (j+1)))=(l.getD (zlv (z3j (O.take (j+1)))).toNat default).toInt:=rfl;rw [← eWdef] at hs hw;have hfk:(z04 (eWd l (z3j (O.take (j+1))))).lf=false→zma (z04 (eWd l (z3j (O.take (j+1))))).f=true:=fun hf=>by
   have hk:(zlv (z3j (O.take (j+1)))).toNat < l.length:=by have:=ha.2; simp only [ic] at this; omega
   have:=(ht.fork _ hk hf).1
   replace this:0≤(z04 (eWd l (z3j (O.take (j+1))))).f∧(z04 (eWd l (z3j (O.take (j+1))))).f < 4:=this;unfold zma;rw [v01 this.1,v01 (by omega)]
   rfl
  generalize eWd l (z3j (O.take (j+1)))=wd at hs hw hfk ⊢
  generalize zuk (z3j (O.take (j+1)))=vb at hs hw ⊢
  cases hnb:zaf wd with
  | false=>
   rw [v0i,z00];simp only [hnb,v0i,v3x,v2f] at hs hw;exact zi3 N hT hb c O j lo hi any (by omega) hs (by omega)
  | true=>
   rw [v0c,z02];simp only [hnb,v0c,v2g] at hs hw;cases he:vb.emp with
   | true=>
    rw [z00];simp only [he,v2f] at hs hw;exact zi3 N hT hb c O j lo hi any (by omega) hs (by omega)
   | false=>
    rw [z02];simp only [he,v1n] at hs hw;cases hlf:(z04 wd).lf with
    | true=>
     rw [v0c,z02];simp only [hlf,v0c,v1n] at hs hw;cases any with
     | false=>
      rw [v0i,z00];exact zi3 N hT hb c O j _ _ true (by omega) hs (by omega)
     | true=>
      rw [v0c,z02];exact zi3 N hT hb c O j _ _ true (by omega) hs (by omega)
    | false=>
     rw [v0i,z00];simp only [hlf,v0i,v2f] at hs hw;have e2:∀ v1 v2:IV,(O.take j++[v1,v2]).take (j+2)=O.take j++[v1,v2]:=fun v1 v2=>v1a (by simp only [v0a,v0h,v05,v0o]; omega)
     rw [hfk hlf,z00,v01 (show (j+2)*88≤z09 by unfold z09; omega),z00]
     refine zi3 N hT hb c _ (j+2) lo hi any (by simp only [v0a,v0h,v05,v0o]; omega) ?_ ?_
     ·rw [e2]; exact hs
     ·rw [e2]; omega
theorem zum:z2u PR B0 158 zax:=by
 refine z0f [(111,z74),(112,z29),(55,z1t)] [(3,⟨[0,4,5,6,7,8,9],[500],[⟨.tmp 9,500,252,true,yj5⟩]⟩)] zax [[.int .i64],[.int .i64]] Tryz.func158 y16 ⟨zf4,z6j,z5n,trivial⟩ ?_;intro vs r hwf h;unfold zax at h
 split at h
 ·rename_i l b
  replace h:=z2l h;obtain ⟨b,rfl,h⟩:=h;cases hg:(z8v l 4&&z5k b) with
  | false=>rw [hg] at h; simp [R.get] at h
  | true=>
  rw [hg,R.get_br,z00,R.get_ok] at h;rw [v02] at hg;refine ⟨3 ^ 31+1,(ygq (3 ^ 31+1) l b).trans ?_⟩;rw [← h];have hgd:=zdv.1 hg.2;refine zi3 (3 ^ 31+1) hg.1 hgd (3 ^ 31+1) [yba 0 b] 1 0 0 false (v08 _) (yhn (zq5 hg.1) hgd.ok) ?_;show enW [yba 0 b] < 3 ^ 31+1;unfold enW;simp only [v0e,v10,v3z,List.sum_nil,y42];show 3 ^ 31+0 < 3 ^ 31+1;omega
 ·simp [R.get] at h
open Go Go.Proofs
def z8z (N:Nat):Env:=mkE [(111,z74),(110,z9y)] [(6,⟨[4,5,6,7,19,20,21],[500,501],[⟨.tmp 6,500,36,true,za2⟩,⟨.tmp 7,501,36,true,za2⟩]⟩)] 75 N
open Go Go.Proofs
set_option maxRecDepth 100000
def yd7 (l L:List IV) (n:Nat) (out:List IV) (m:Nat) (i:Int):St:=⟨[(4,.zs),(5,.bool false),(6,.row 500 0 n),(7,.row 501 0 m),(19,.list true z2r l),(20,.int .i64 (ic l.length)),(21,.int .i64 i)],[(500,some (.row true 36 true za2 L)),(501,some (.row true 36 true za2 out))]⟩
abbrev yji:KP:=⟨[4,5,6,7,19,20,21],[500,501],[⟨.tmp 6,500,36,true,za2⟩,⟨.tmp 7,501,36,true,za2⟩]⟩
def plK (p:Int) (f:Nat→Res):Res:=cond (decide (p=ic 0)) (f 0) (cond (decide (p=ic 1)) (f 1) (cond (decide (p=ic 2)) (f 2) (cond (decide (p=ic 3)) (f 3) (cond (decide (p=ic 4)) (f 4) none))))
def eW' (n:Nat):Int:=IntKind.wrap IntKind.i64 (ic (n - 0) - 1)
def pX (L:List IV) (n:Nat):IV:=L.getD (0+(eW' n).toNat) default
noncomputable abbrev kPs (N:Nat):Out→St→Res:=z06 0 (kSq (z8z N) (z0i z93 [1,1,1,1,1]) (z2v (z8z N) none [.tmp 4,.tmp 5] [[.list true za2],[.bool]]))
theorem yjk (N:Nat) (l:List IV) (b:Bx):z0y (z8z N) z93 [.tmp 4,.tmp 5] [[.list true za2],[.bool]] [b.V,.list true z2r l] =
 cond (!decide (zmi l > 0)) (some (.tup [.list true za2 [],.bool false],[])) (lpE (z8z N) (z0i z93 [1,1,1,1,0,1,0,0]) yji N (yd7 l [b.I] 1 [] 0 0) (kPs N)):=by kernel_rfl
theorem yjr (N:Nat) (l L out:List IV) (n m:Nat) (i:Int):kPs N (.exit 0) (yd7 l L n out m i)=some (.tup [.list true za2 (List.take m out),.bool true],[]):=by kernel_rfl
theorem yfa (N:Nat) (l L out:List IV) (n m:Nat) (i:Int):kPs N .ret (yd7 l L n out m i)=some (.tup [.list true za2 [],.bool false],[]):=by kernel_rfl
theorem yhq (N:Nat) (l L out:List IV) (n m:Nat) (i:Int) (again:St→Res) (k:Out→St→Res):rnd (z8z N) (z0i z93 [1,1,1,1,0,1,0,0]) (yd7 l L n out m i) (z3v again yji k) =
 cond (decide (i < ic l.length)) (cond (decide (0≤i)&&decide (i < ic l.length)) (cond (decide (0≤eW' n)&&decide (eW' n < ic (n - 0))) (cond (decide (0≤eW' n)&&decide (eW' n≤ic (n - 0)))
 (cond (zc1 (l.getD i.toNat default)) (cond (decide ((m+1)*80≤z09)) (again (yd7 l L (0+(eW' n).toNat) (out.take m++[(bxI (pX L n)).I]) (m+1) (zd2 (i+1)))) none)
 (plK (z1k (l.getD i.toNat default)) fun j=>cond (decide (zhv (l.getD i.toNat default) < cI (pX L n) (2*j))) (k .ret (yd7 l L (0+(eW' n).toNat) out m i))
 (plK (z1k (l.getD i.toNat default)) fun j=>cond (decide (zhv (l.getD i.toNat default)≥cI (pX L n) (2*j+1))) (k .ret (yd7 l L (0+(eW' n).toNat) out m i))
 (cond (zma (z1k (l.getD i.toNat default))) (cond (decide ((0+(eW' n).toNat+2)*80≤z09))
 (again (yd7 l (L.take (0+(eW' n).toNat)++[((bxI (pX L n)).cutH (z1k (l.getD i.toNat default)) (zhv (l.getD i.toNat default))).I,((bxI (pX L n)).cutL (z1k (l.getD i.toNat default)) (zhv (l.getD i.toNat default))).I]) (0+(eW' n).toNat+2) out m (zd2 (i+1)))) none) none)))) none) none) none)
 (k (.exit 0) (yd7 l L n out m i)):=by kernel_rfl
theorem yfi {p:Int} {a:Nat} (h:p=(a:Int)) (ha:a < 5) (f:Nat→Res):plK p f=f a:=by
 subst h
 match a,ha with
 | 0,_=>rfl
 | 1,_=>rfl
 | 2,_=>rfl
 | 3,_=>rfl
 | 4,_=>rfl
 | n+5,h=>omega
theorem yjm (x:IV):∀ {a:Nat},a < 5→(bxI x).g a=⟨cI x (2*a),cI x (2*a+1)⟩
 | 0,_=>rfl
 | 1,_=>rfl
 | 2,_=>rfl
 | 3,_=>rfl
 | 4,_=>rfl
 | n+5,h=>by omega
def ygy (o:Option (List IV × List IV)):Res:=match o with
 | some lo=>some (.tup [.list true za2 lo.2,.bool true],[])
 | none=>some (.tup [.list true za2 [],.bool false],[])
theorem ybj (N:Nat) (l:List IV) (hl:l.length≤65536):∀ (d c i:Nat) (L:List IV) (n:Nat) (out:List IV) (most:Int) (st:Int × Int),i+d=l.length→d < c→n≤L.length→n≤i+1→out.length≤i→yd9 (l.drop i) (ic n,most)=some st →
  lpE (z8z N) (z0i z93 [1,1,1,1,0,1,0,0]) yji c (yd7 l L n out out.length (i:Int)) (kPs N)=ygy (y6g (l.drop i) (L.take n,out))
 | d,0,_,_,_,_,_,_,_,h,_,_,_,_=>absurd h (by omega)
 | 0,c+1,i,L,n,out,most,st,hd,_,_,_,_,_=>by
  rw [z05,yhq,zau (by omega),z02,v1b (by omega),yjr,v0w]
  rfl
 | d+1,c+1,i,L,n,out,most,st,hd,hc,hn,hn2,ho,hdp=>by
  have hi:i < l.length:=by omega
  rw [v0j hi,yd9] at hdp;rw [z05,yhq,z9z hi,z00,zg5,v0u,z00,zbl hi,v0j hi,y6g];have ei:zd2 ((i:Int)+1)=((i+1:Nat):Int):=z7z (by omega)
  rw [ei];generalize l[i]=x at hdp ⊢
  cases h1:zqt (ic n,most) x with
  | none=>rw [h1] at hdp; cases hdp
  | some s1=>
   rw [h1] at hdp;obtain ⟨hne,hr,hcase⟩:=y6s h1;obtain ⟨j,rfl⟩:∃ j,n=j+1:=⟨n - 1,by simp only [ic] at hne; omega⟩
   have hlen:(L.take (j+1)).length=j+1:=by rw [v0h]; omega
   have htop:z3j (L.take (j+1))=L.getD j default:=by
    unfold z3j;rw [hlen,v0m,v0m,v0z,v1c (by omega)]
    rfl
   have hpop:zhz (L.take (j+1))=L.take j:=by
    unfold zhz;rw [hlen,v3n]
    congr 1
    omega
   have ew:eW' (j+1)=(j:Int):=by
    unfold eW';rw [show ic (j+1 - 0) - 1=(j:Int) by simp only [ic]; omega]
    exact z15 (by omega) (by omega)
   have ej:0+(eW' (j+1)).toNat=j:=by rw [ew]; omega
   have ex:pX L (j+1)=z3j (L.take (j+1)):=by unfold pX; rw [ej,htop]
   have i2:(decide (0≤eW' (j+1))&&decide (eW' (j+1) < ic (j+1 - 0)))=true:=by rw [ew,v01 (by omega),v01 (by simp only [ic]; omega)]; rfl
   have i3:(decide (0≤eW' (j+1))&&decide (eW' (j+1)≤ic (j+1 - 0)))=true:=by rw [ew,v01 (by omega),v01 (by simp only [ic]; omega)]; rfl
   have et:z6w (L.take (j+1))=bxI (z3j (L.take (j+1))):=rfl;rw [i2,z00,i3,z00,ej,ex];unfold zs3;simp only [hpop,et];generalize z3j (L.take (j+1))=y;rcases hcase with ⟨hs,rfl⟩ | ⟨hs,rfl⟩
   ·rw [hs,z00,z00,v01 (show (out.length+1)*80≤z09 by unfold z09; omega),z00,v0w]
    have:=ybj N l hl d c (i+1) L j (out++[(bxI y).I]) most st (by omega) (by omega) (by omega) (by omega) (by simp only [v0a,v05,v0o]; omega) (by rw [show ic j=ic (j+1) - 1 by simp only [ic]; omega]; exact hdp)
    rw [show (out++[(bxI y).I]).length=out.length+1 by simp] at this
    exact this
   ·have hpl:=zq6 hr hs
    obtain ⟨a,ha⟩:∃ a:Nat,z1k x=(a:Int):=⟨(z1k x).toNat,by omega⟩
    have ha5:a < 5:=by omega
    rw [hs,z02,z02,yfi ha ha5,yfi ha ha5];have eg:=yjm y ha5;rw [show (z1k x).toNat=a by omega,eg]
    show cond (decide (zhv x < cI y (2*a))) _ _=ygy (match cond (decide (zhv x < cI y (2*a))||decide (zhv x≥cI y (2*a+1))) none _ with | some st'=>y6g (l.drop (i+1)) st' | none=>none)
    cases decide (zhv x < cI y (2*a)) with
    | true=>rw [z00,yfa,v3x,z00]; rfl
    | false=>
     rw [z02,v2g];cases decide (zhv x≥cI y (2*a+1)) with
     | true=>rw [z00,yfa,z00]; rfl
     | false=>
      have hin:zma (z1k x)=true:=by unfold zma; rw [v01 hpl.1,v01 (by omega)]; rfl
      rw [z02,z02,hin,z00,v01 (show (j+2)*80≤z09 by unfold z09; omega),z00]
      have e2:∀ v1 v2:IV,(L.take j++[v1,v2]).take (j+2)=L.take j++[v1,v2]:=fun v1 v2=>v1a (by simp only [v0a,v0h,v05,v0o]; omega)
      have:=ybj N l hl d c (i+1) (L.take j++[((bxI y).cutH (z1k x) (zhv x)).I,((bxI y).cutL (z1k x) (zhv x)).I]) (j+2) out (max most (ic (j+1)+1)) st (by omega) (by omega) (by simp only [v0a,v0h,v05,v0o]; omega) (by omega) (by omega) (by rw [show ic (j+2)=ic (j+1)+1 by simp only [ic]; omega]; exact hdp)
      rw [e2] at this;exact this
theorem ztt:z2u PR B0 67 zaw:=by
 refine z0f [(111,z74),(110,z9y)] [(6,⟨[4,5,6,7,19,20,21],[500,501],[⟨.tmp 6,500,36,true,za2⟩,⟨.tmp 7,501,36,true,za2⟩]⟩)] zaw [[.list true [.int .i64,.int .i64,.int .i64,.int .i64,.int .i64,.int .i64,.int .i64,.int .i64,.int .i64,.int .i64]],[.bool]] Tryz.func67 y2g ⟨zf4,zqi,trivial⟩ ?_;intro vs r hwf h;unfold zaw at h
 split at h
 ·rename_i b l
  replace h:=z2l h;obtain ⟨b,rfl,h⟩:=h;rw [R.get_br] at h;refine ⟨l.length+1,(yjk (l.length+1) l b).trans ?_⟩;cases hd:decide (zmi l > 0) with
  | false=>
   have e:psF b l=none:=by unfold psF; rw [hd,z02]
   rw [e] at h;rw [v0i,z00];exact h
  | true=>
   obtain ⟨st,hst⟩:=y0h (v0d hd);have hl:l.length≤65536:=by
    have:=v0d hd
    unfold zmi at this
    by_cases hc:ic l.length > 65536
    ·rw [v01 hc,z00] at this; omega
    ·simp only [ic] at hc; omega
   have run:=ybj (l.length+1) l hl l.length (l.length+1) 0 [b.I] 1 [] 1 st (by omega) (by omega) (v08 _) (by omega) (v08 _) hst
   rw [v11] at run;have e:psF b l=(y6g l ([b.I],[])).map (·.2):=by unfold psF; rw [hd,z00]
   rw [v0c,z02];refine v41 run ?_;show ygy (y6g l ([b.I],[]))=_;rw [e] at h;cases hp:y6g l ([b.I],[]) with
   | none=>rw [hp] at h; exact h
   | some lo=>rw [hp] at h; exact h
 ·simp [R.get] at h
open Go Go.Proofs
theorem y4e (N:Nat) (ts:List IV) (b:Bx) (k:Int) (hts:ts.length≤8) (hT:∀ t∈ts,z8v (zdp t) 4=true) (hb:z5k b=true):∀ (m i n:Nat) (lo hi:Int),i+m=ts.length→m < n→(-2147483648*(i+1)≤lo∧lo≤2147483648*(i+1))→(-2147483648*(i+1)≤hi∧hi≤2147483648*(i+1)) →
  lpE (z0c N) (z0i z0x [1,1,1,0,1,0,0]) ⟨[1,5,6,7,8,9,40,41,42],[5],[]⟩ n ⟨[(1,(.int .i64 k)),(5,(.ptr 5 0 0)),(6,(.int .i64 0)),(7,(.int .i64 0)),(8,(.int .i64 lo)),(9,(.int .i64 hi)),(40,(.list true zji ts)),(41,(.int .i64 (ic ts.length))),(42,(.int .i64 (i:Int)))],[(5,(some (.box (Bx.cs b))))]⟩ (z06 0 (kSq (z0c N) (z0i z0x [1,1,1,1]) (z2v (z0c N) none [(ResultVar.tmp 6),(ResultVar.tmp 7)] [[(.int .i64)],[(.int .i64)]]))) =
   some (.tup [.int .i64 (zwz (fun l=>tLo l b) k (ts.drop i) lo),.int .i64 (zwz (fun l=>tHi l b) k (ts.drop i) hi)],[])
 | m,i,0,_,_,_,h,_,_=>absurd h (by omega)
 | 0,i,n+1,lo,hi,hd,_,_,_=>by
  have hlt:i=ts.length:=by omega
  subst hlt;rw [z05,zha,zau (v08 _),z02,v1z];exact zmo N b _ _ _ _ _ _ _ _
 | m+1,i,n+1,lo,hi,hd,hn,h1,h2=>by
  have hlt:i < ts.length:=by omega
  have ei:IntKind.wrap IntKind.i64 ((i:Int)+1)=((i+1:Nat):Int):=z7z (by omega)
  rw [z05,zha,ei,z9z hlt,z00,zg5,v0u,z00,zbl hlt,v0j hlt,zwz,zwz];obtain ⟨q1,q2⟩:=yj1 (zdp ts[i]) b;have q1:=z4w q1;have q2:=z4w q2;have hti:z8v (IV.toList (IV.cell ts[i] 1)) 4=true:=hT _ (v2o hlt);cases ((ts[i].cell 0).toInt==k) with
  | true=>
   rw [z00,z00,z00,hti,hb,v0u,z00];have ew:IntKind.wrap IntKind.i64 (lo+tLo (zdp ts[i]) b)=lo+tLo (zdp ts[i]) b:=z15 (by omega) (by omega)
   have ew2:IntKind.wrap IntKind.i64 (hi+tHi (zdp ts[i]) b)=hi+tHi (zdp ts[i]) b:=z15 (by omega) (by omega)
   have ih:=y4e N ts b k hts hT hb m (i+1) n (lo+tLo (zdp ts[i]) b) (hi+tHi (zdp ts[i]) b) (by omega) (by omega) (by omega) (by omega)
   rw [← ew,← ew2] at ih;refine v41 ih ?_;rw [ew,ew2]
  | false=>
   rw [z02,z02,z02];exact y4e N ts b k hts hT hb m (i+1) n lo hi (by omega) (by omega) (by omega) (by omega)
theorem zti:z2u PR B0 113 zbb:=by
 refine z0f [(112,z29),(158,zax),(53,z1u)] [(5,⟨[1,5,6,7,8,9,40,41,42],[5],[]⟩)] zbb [[.int .i64],[.int .i64]] Tryz.func113 y1f ⟨z6j,zum,z5q,trivial⟩ ?_;intro vs r hwf h;unfold zbb at h
 split at h
 ·rename_i m k b
  replace h:=z3f h;obtain ⟨m,rfl,h⟩:=h;replace h:=z2l h;obtain ⟨b,rfl,h⟩:=h;cases hg:(b.emp||z5k b) with
  | false=>rw [hg] at h; simp [R.get] at h
  | true=>
  rw [hg,R.get_br,z00,R.get_ok] at h;refine ⟨10,?_⟩;rw [← h];refine (zzc 10 m k b).trans ?_;unfold sLo sHi sOK;cases hm:z26 m with
  | false=>rfl
  | true=>
   rw [v0c,z02];cases h0:decide (k < 0) with
   | true=>
    have:zbu m k=false:=by unfold zbu; rw [v07 (show ¬ 0≤k by have:=v0d h0; omega)]; rfl
    rw [this]
    rfl
   | false=>
    rw [z02];cases h1:decide (k≥m.c) with
    | true=>
     have:zbu m k=false:=by unfold zbu; rw [v07 (show ¬ k < m.c by have:=v0d h1; omega),v2b]
     rw [this]
     rfl
    | false=>
     have hc:zbu m k=true:=by unfold zbu; rw [v01 (show 0≤k by have:=v0t h0; omega),v01 (show k < m.c by have:=v0t h1; omega)]; rfl
     rw [z02,hc];cases he:b.emp with
     | true=>rfl
     | false=>
      rw [he,v2g] at hg;have hb:=zxa hm k;have run:=y4e 10 m.ts b k (z1x hm).2.2.1 (fun t ht=>yd3 hm ht) hg m.ts.length 0 10 (zcn m k) (zcn m k) (by omega) (by have:=(z1x hm).2.2.1; omega) (by omega) (by omega)
      rw [z02];rcases zsg hm hc with rfl | rfl | rfl <;> exact run
 ·simp [R.get] at h
theorem zs6 (N:Nat) (m:Md) (q:Qy) (b:Bx) (hb:(b.emp||z5k b)=true):∀ (d i n:Nat),((i+d:Nat):Int)=m.c→d < n→m.c < 1000 →
  lpE (z1n N) (z0i z2d [1,1,1,0,1,0,1,1,1,0,0,1,0,0]) ⟨[3,4,5,6,7,42,43],[3,4,5],[]⟩ n ⟨[(3,(.ptr 3 0 0)),(4,(.ptr 4 0 0)),(5,(.ptr 5 0 0)),(6,(.bool false)),(7,(.int .i64 (sLo m q.c b))),(42,(.int .i64 m.c)),(43,(.int .i64 (i:Int)))],[(3,(some (.box (Md.cs m)))),(4,(some (.box (Qy.cs q)))),(5,(some (.box (Bx.cs b))))]⟩ (z06 1 (kSq (z1n N) (z0i z2d [1,1,1,0,1,0,1,1,1,0,1]) (z06 0 (kSq (z1n N) (z0i z2d [1,1,1,1]) (z2v (z1n N) none [(ResultVar.tmp 6)] [[.bool]])))))=some (.bool (y5n m q b d i),[])
 | d,i,0,_,h,_=>absurd h (by omega)
 | 0,i,n+1,hd,_,_=>by
  rw [z05,zfo,v07 (show ¬ (i:Int) < m.c by omega),z02]
  exact zl7 N m q b _ _ _ _
 | d+1,i,n+1,hd,hn,hc=>by
  have ei:IntKind.wrap IntKind.i64 ((i:Int)+1)=((i+1:Nat):Int):=z7z (by omega)
  rw [z05,zfo,ei,v01 (show (i:Int) < m.c by omega),z00,hb,z00,y5n]
  have en:((i:Int) != q.c)=!((i:Int)==q.c):=rfl;rw [en];cases ((i:Int)==q.c) with
  | true=>
   rw [v0c,z02,v0v,z02];exact zs6 N m q b hb d (i+1) n (by omega) (by omega) hc
  | false=>
   rw [v0i,z00,v0r];cases decide (sHi m (i:Int) b≥sLo m q.c b) with
   | true=>
    rw [z00,z00];exact zkn N m q b _ _ _ _
   | false=>
    rw [z02,z02];exact zs6 N m q b hb d (i+1) n (by omega) (by omega) hc
theorem zq9:z2u PR B0 68 z9a:=by
 refine z0f [(112,z29),(113,zbb)] [(9,⟨[3,4,5,6,7,42,43],[3,4,5],[]⟩)] z9a [[.bool]] Tryz.func68 zwh ⟨z6j,zti,trivial⟩ ?_;intro vs r hwf h;unfold z9a at h
 split at h
 ·rename_i m q b
  replace h:=z3f h;obtain ⟨m,rfl,h⟩:=h;replace h:=z2z h;obtain ⟨q,rfl,h⟩:=h;replace h:=z2l h;obtain ⟨b,rfl,h⟩:=h;cases hg:(z3c m q&&(b.emp||z5k b)) with
  | false=>rw [hg] at h; simp [R.get] at h
  | true=>
  rw [hg,R.get_br,z00,R.get_ok] at h;rw [v02] at hg;obtain ⟨hr,hb⟩:=hg;have hb':b.emp=true∨b.good:=by
   rw [v2y] at hb;exact hb.imp id zdv.1
  refine ⟨1000,?_⟩;rw [← h,← y2t hr hb'];refine (ztd 1000 m q b).trans ?_;obtain ⟨hm,_,_,_,hk⟩:=zhr hr;unfold ycb;cases he:b.emp with
  | true=>rfl
  | false=>
   have hgd:z5k b=true:=by rw [he,v2g] at hb; exact hb
   rw [z02,z02,hgd,v2g,z00];rcases zmz hk with ⟨e,_⟩ | ⟨e,h2,_⟩ | ⟨e,hf,_⟩
   ·rw [e]
    show cond (decide (q.lo≤sLo m q.c b)) (some (V.bool (decide (sHi m q.c b≤q.hi)),[])) (some (V.bool false,[]))=some (V.bool (decide (q.lo≤sLo m q.c b)&&decide (sHi m q.c b≤q.hi)),[]);cases decide (q.lo≤sLo m q.c b) <;> rfl
   ·rw [e]
    have hc:=(z1x hm).2.1;exact zs6 1000 m q b (by rw [he,hgd]; rfl) m.c.toNat 0 1000 (by omega) (by omega) (by omega)
   ·rw [e]
    have hp:=y39 hm e hf;have hg2:z5k (zzh q b)=true:=zdv.2 (zo0 (zdv.1 hgd) ((zdv.1 hgd) 4 (by omega)) (by rcases zce hp with e | e | e | e <;> rw [e] <;> decide))
    have fin:(cond (decide ((b.g q.ft.toNat).lo≥b.s4.hi)) (some (V.bool true,[])) (cond ((zzh q b).emp||z5k (zzh q b)) (cond q.fl (some (V.bool (decide (sHi m q.c (zzh q b)≤sLo m q.c b)),[])) (some (V.bool (decide (sLo m q.c (zzh q b)≥sHi m q.c b)),[]))) none):Res) =
      some (V.bool (cond (decide ((b.g q.ft.toNat).lo≥b.s4.hi)) true (cond q.fl (decide (sHi m q.c (zzh q b)≤sLo m q.c b)) (decide (sLo m q.c (zzh q b)≥sHi m q.c b)))),[]):=by
     rw [hg2,Bool.or_true,z00];cases decide ((b.g q.ft.toNat).lo≥b.s4.hi) <;> cases q.fl <;> rfl
    refine v41 ?_ fin;unfold zzh;rcases zce hp with e | e | e | e <;> rw [e] <;> rfl
 ·simp [R.get] at h
theorem zw5 (N:Nat) (m:Md) (q:Qy) (hr:z3c m q=true) (l:List IV) (hl:l.length < 100000) (hg:∀ y∈l,(bxI y).good):∀ (d i n:Nat),i+d=l.length→d < n →
  lpE (z0w N) (z0i z1e [1,1,1,0,1,0,1,0,1,0,1,0,0]) ⟨[3,4,6,9,29,30,31],[3,4],[]⟩ n ⟨[(3,(.ptr 3 0 0)),(4,(.ptr 4 0 0)),(6,(.bool false)),(9,(.bool true)),(29,(.list true za2 l)),(30,(.int .i64 (ic l.length))),(31,(.int .i64 (i:Int)))],[(3,(some (.box (Md.cs m)))),(4,(some (.box (Qy.cs q))))]⟩ (z06 1 (kSq (z0w N) (z0i z1e [1,1,1,0,1,0,1,0,1,1]) (z06 0 (kSq (z0w N) (z0i z1e [1,1,1,1]) (z2v (z0w N) none [(ResultVar.tmp 6)] [[.bool]]))))) =
   some (.bool ((l.drop i).all fun x=>z49 m q (bxI x)),[])
 | d,i,0,_,h=>absurd h (by omega)
 | 0,i,n+1,hd,_=>by
  rw [z05,zad,zau (by omega),z02,v1b (by omega)]
  exact zch N m q _ _ l _ _
 | d+1,i,n+1,hd,hn=>by
  have hi:i < l.length:=by omega
  have hgi:=hg _ (v2o hi);rw [z05,zad,z9z hi,z00,zg5,v0u,z00,z7z (by omega),zbl hi,v0j hi,v2w,hr,zdv.2 hgi,Bool.or_true,v0u,z00]
  cases z49 m q (bxI l[i]) with
  | false=>
   rw [v0i,z00];exact zjv N m q _ _ l _ _
  | true=>
   rw [v0c,z02,v0r];exact zw5 N m q hr l hl hg d (i+1) n (by omega) (by omega)
theorem yfy {b:Bx} {l outs:List IV} (h:psF b l=some outs):outs.length≤65536:=by
 have key:∀ {l:List IV} {st lo:List IV × List IV},y6g l st=some lo→lo.2.length≤st.2.length+l.length:=by
  intro l
  induction l with
  | nil=>intro st lo h; obtain rfl:=v1t h; exact v08 _
  | cons x l ih=>
   intro st lo h;rw [y6g] at h;cases h1:zs3 st x with
   | none=>rw [h1] at h; cases h
   | some s1=>
    rw [h1] at h
    have:=ih h
    have h2:s1.2.length≤st.2.length+1:=by
     unfold zs3 at h1;cases hs:zc1 x with
     | true=>rw [hs] at h1; obtain rfl:=v1t h1; simp
     | false=>
      rw [hs,z02] at h1;cases hc:(decide (zhv x < ((z6w st.1).g (z1k x).toNat).lo)||decide (zhv x≥((z6w st.1).g (z1k x).toNat).hi)) with
      | true=>rw [hc] at h1; cases h1
      | false=>rw [hc] at h1; obtain rfl:=v1t h1; exact Nat.le_succ _
    simp only [v05];omega
 unfold psF at h;cases hd:decide (zmi l > 0) with
 | false=>rw [hd,z02] at h; cases h
 | true=>
  rw [hd,z00] at h;have hl:l.length≤65536:=by
   have:=v0d hd
   unfold zmi at this
   by_cases hc:ic l.length > 65536
   ·rw [v01 hc,z00] at this; omega
   ·simp only [ic] at hc; omega
  cases hp:y6g l ([b.I],[]) with
  | none=>rw [hp] at h; cases h
  | some lo=>
   rw [hp] at h;obtain rfl:=v1t h
   have:=key hp
   simp only [v0o] at this;show lo.2.length≤65536;omega
theorem zph:z2u PR B0 26 z88:=by
 refine z0f [(69,zg9),(68,z9a),(67,zaw),(70,z5b),(65,z2e),(66,z63)] [(8,⟨[3,4,6,9,29,30,31],[3,4],[]⟩)] z88 [[.bool]] Tryz.func26 ztg ⟨y53,zq9,ztt,zfp,z7i,zgp,trivial⟩ ?_;intro vs r hwf h;unfold z88 at h
 split at h
 ·rename_i m q v
  replace h:=z3f h;obtain ⟨m,rfl,h⟩:=h;replace h:=z2z h;obtain ⟨q,rfl,h⟩:=h;replace h:=ybm h;obtain ⟨v,rfl,h⟩:=h;rw [R.get_ok] at h;refine ⟨70000,?_⟩;rw [← h];refine (zru 70000 m q v).trans ?_;unfold zsu;cases hr:z3c m q with
  | false=>rfl
  | true=>
   rw [v0c,z02,v0r];cases v.kind==1 with
   | true=>
    rw [z00,z00];cases hp:psF (z9p q) v.proof with
    | none=>
     show cond false _ _=_;rw [z02,z05,zad];exact zch 70000 m q _ _ [] _ _
    | some l=>
     show cond true _ _=_;rw [z00];have hl:=yfy hp
     have:=zw5 70000 m q hr l (by omega) (yec (y8g hr) hp) l.length 0 70000 (by omega) (by omega)
     rw [v11] at this;exact this
   | false=>
    rw [z02,z02];cases v.kind==2 with
    | false=>rfl
    | true=>
     rw [z00,z00];show cond ((z9p q).has v.p v.twin) (some (V.bool (z5o m q v.p v.twin),[])) (some (V.bool false,[]))=some (V.bool ((z9p q).has v.p v.twin&&z5o m q v.p v.twin),[]);cases (z9p q).has v.p v.twin <;> rfl
 ·simp [R.get] at h
open Go Go.Proofs
def z4b (N:Nat):Env:=mkE [] [(4,⟨[2,13,14,15],[],[]⟩)] 37 N
abbrev z2b (b2:Bool) (l13:List IV) (x14 x15:Int):St:=⟨[(2,(.bool b2)),(13,(.list true [.bool,(.int .i64),(.int .i64)] l13)),(14,(.i x14)),(15,(.i x15))],[]⟩
theorem zxq (N:Nat) (l:List IV):z0y (z4b N) z5y [.tmp 2] [[.bool]] [(.list true [.bool,.int .i64,.int .i64] l)]=(cond (decide (ic (List.length l) < 1)) (some ((.bool false),[])) (cond (decide (ic (List.length l) > 65536)) (some ((.bool false),[])) (lpE (z4b N) (z0i z5y [1,1,0,1,0,0]) ⟨[2,13,14,15],[],[]⟩ N (z2b false l (ic (List.length l)) 0) (z06 0 (kSq (z4b N) (z0i z5y [1,1,1]) (z2v (z4b N) none [(ResultVar.tmp 2)] [[.bool]])))))):=by kernel_rfl
theorem zhh (N:Nat) (b2:Bool) (l13:List IV) (x14 x15:Int) (again:St→Res) (k:Out→St→Res):rnd (z4b N) (z0i z5y [1,1,0,1,0,0]) (z2b b2 l13 x14 x15) (z3v again ⟨[2,13,14,15],[],[]⟩ k)=(cond (decide (x15 < x14)) (cond (decide (0≤x15)&&decide (x15 < ic (List.length l13))) (cond (IV.toBool (IV.cell (List.getD l13 (Int.toNat x15) default) 0)) (cond (! (IV.toBool (IV.cell (List.getD l13 (Int.toNat x15) default) 0)==true&&(IV.toInt (IV.cell (List.getD l13 (Int.toNat x15) default) 1)==0&&(IV.toInt (IV.cell (List.getD l13 (Int.toNat x15) default) 2)==0&&true)))) (k .ret (z2b false l13 x14 x15)) (cond (decide (IV.toInt (IV.cell (List.getD l13 (Int.toNat x15) default) 1) < 0)) (k .ret (z2b false l13 x14 x15)) (cond (decide (IV.toInt (IV.cell (List.getD l13 (Int.toNat x15) default) 1) > 4)) (k .ret (z2b false l13 x14 x15)) (again (z2b b2 l13 x14 (IntKind.wrap IntKind.i64 (x15+1))))))) (cond (decide (IV.toInt (IV.cell (List.getD l13 (Int.toNat x15) default) 1) < 0)) (k .ret (z2b false l13 x14 x15)) (cond (decide (IV.toInt (IV.cell (List.getD l13 (Int.toNat x15) default) 1) > 4)) (k .ret (z2b false l13 x14 x15)) (again (z2b b2 l13 x14 (IntKind.wrap IntKind.i64 (x15+1))))))) none) (k (.exit 0) (z2b b2 l13 x14 x15))):=by kernel_rfl
theorem znq (N:Nat) (b2:Bool) (l13:List IV) (x14 x15:Int):(z06 0 (kSq (z4b N) (z0i z5y [1,1,1]) (z2v (z4b N) none [(ResultVar.tmp 2)] [[.bool]]))) (.exit 0) (z2b b2 l13 x14 x15)=(some ((.bool true),[])):=by kernel_rfl
theorem zna (N:Nat) (b2:Bool) (l13:List IV) (x14 x15:Int):(z06 0 (kSq (z4b N) (z0i z5y [1,1,1]) (z2v (z4b N) none [(ResultVar.tmp 2)] [[.bool]]))) .ret (z2b b2 l13 x14 x15)=(some ((.bool b2),[])):=by kernel_rfl
def y1a (N:Nat):Env:=mkE [(106,zat)] [] 47 N
theorem zwi (N:Nat) (u00:Int) (u01:List IV) (u04 u05 u06 u07 u03 u02:Int):z0y (y1a N) zot [.tmp 2] [[.bool]] [(.agg [(.i u00),(.list true [.bool,.int .i64,.int .i64] u01),(.i u04),(.i u05),(.i u06),(.i u07),(.i u03),(.i u02)])]=(cond (decide (u02 < 0)) (some ((.bool false),[])) (cond (decide (u02 > 65536)) (some ((.bool false),[])) (cond (u04==0&&(u05==0&&(u06==0&&(u07==0&&true)))) (cond (u00==1) (cond (u03==0) (some ((.bool (zvm u01)),[])) (some ((.bool false),[]))) (cond (u00==2) (some ((.bool (ic (List.length u01)==0)),[])) (cond (u00==3) (cond (u03==0) (some ((.bool (ic (List.length u01)==0)),[])) (some ((.bool false),[]))) (cond (u00==4) (cond (u03==0) (some ((.bool (ic (List.length u01)==0)),[])) (some ((.bool false),[]))) (some ((.bool false),[])))))) (cond (u00==1) (some ((.bool false),[])) (cond (u00==2) (some ((.bool (ic (List.length u01)==0)),[])) (cond (u00==3) (some ((.bool false),[])) (cond (u00==4) (some ((.bool false),[])) (some ((.bool false),[]))))))))):=by kernel_rfl
def z79 (N:Nat):Env:=mkE [(43,z2x),(97,z1p),(60,z0v)] [(2,⟨[0,11,12,13],[900000],[]⟩)] 26 N
abbrev z9n (l11:List IV) (x12 x13:Int) (u00:ByteArray):St:=⟨[(0,(.ptr 900000 0 0)),(11,(.list false [(.int .i64)] l11)),(12,(.i x12)),(13,(.i x13))],[(900000,(some (.bld u00)))]⟩
theorem y0d (N:Nat) (b word:ByteArray) (l:List IV):z0y (z79 N) z8s [] [] [(.bor [.bld b]),(.str word),(.list false [.int .i64] l)]=(cond (decide (ByteArray.size b+ByteArray.size word≤strMax)) (lpE (z79 N) (z0i z8s [1,0,1,0,0]) ⟨[0,11,12,13],[900000],[]⟩ N (z9n l (ic (List.length l)) 0 (b++word)) (z06 0 (kSq (z79 N) (z0i z8s [1,1]) (z2v (z79 N) (some [(.bld b)]) [] [])))) none):=by kernel_rfl
theorem zip (N:Nat) (l11:List IV) (x12 x13:Int) (u00:ByteArray) (again:St→Res) (k:Out→St→Res):rnd (z79 N) (z0i z8s [1,0,1,0,0]) (z9n l11 x12 x13 u00) (z3v again ⟨[0,11,12,13],[900000],[]⟩ k)=(cond (decide (x13 < x12)) (cond (decide (0≤x13)&&decide (x13 < ic (List.length l11))) (cond (decide (ByteArray.size u00+1≤strMax)) (cond (decide (ByteArray.size (ByteArray.push u00 (zde 32))+ByteArray.size (z0l (IV.toInt (List.getD l11 (Int.toNat x13) default)))≤strMax)) (again (z9n l11 x12 (IntKind.wrap IntKind.i64 (x13+1)) (ByteArray.push u00 (zde 32)++z0l (IV.toInt (List.getD l11 (Int.toNat x13) default))))) none) none) none) (k (.exit 0) (z9n l11 x12 x13 u00))):=by kernel_rfl
theorem zoy (N:Nat) (b:ByteArray) (l11:List IV) (x12 x13:Int) (u00:ByteArray):(z06 0 (kSq (z79 N) (z0i z8s [1,1]) (z2v (z79 N) (some [(.bld b)]) [] []))) (.exit 0) (z9n l11 x12 x13 u00)=(cond (decide (ByteArray.size u00+1≤strMax)) (some ((.tup []),[[(.bld (ByteArray.push u00 (zde 10)))]])) none):=by kernel_rfl
open Go Go.Proofs
theorem y31 (N:Nat) (l:List IV) (K:Out→St→Res) (hl:l.length≤65536)
  (hx:∀ b2 x14 x15,K (.exit 0) ⟨[(2,(.bool b2)),(13,(.list true [.bool,(.int .i64),(.int .i64)] l)),(14,(.int .i64 x14)),(15,(.int .i64 x15))],[]⟩=some (.bool true,[]))
  (hr:∀ b2 x14 x15,K .ret ⟨[(2,(.bool b2)),(13,(.list true [.bool,(.int .i64),(.int .i64)] l)),(14,(.int .i64 x14)),(15,(.int .i64 x15))],[]⟩=some (.bool b2,[])) :
  ∀ (d i n:Nat),i+d=l.length→d < n→lpE (z4b N) (z0i z5y [1,1,0,1,0,0]) ⟨[2,13,14,15],[],[]⟩ n ⟨[(2,(.bool false)),(13,(.list true [.bool,(.int .i64),(.int .i64)] l)),(14,(.int .i64 (ic l.length))),(15,(.int .i64 (i:Int)))],[]⟩ K=some (.bool ((l.drop i).all y77),[])
 | 0,i,n+1,hd,_=>by
  rw [z05,zhh];rw [zau (by omega),v1b (by omega)]
  simp only [v1n,List.all_nil];exact hx ..
 | d+1,i,n+1,hd,hn=>by
  rw [z05,zhh];have hi:i < l.length:=by omega
  rw [z9z hi,zg5,z7z (by omega),zbl hi,v0j hi,v2w]
  generalize l[i]=x;have ih:=y31 N l K hl hx hr d (i+1) n (by omega) (by omega)
  rw [ih];generalize (List.drop (i+1) l).all y77=rest;unfold y77 zc1 z1k zhv;simp only [v2f,v1f,yd5,zni,zjp];cases hs:IV.toBool (IV.cell x 0) <;> cases hp0:decide (IV.toInt (IV.cell x 1) < 0) <;> cases hp4:decide (4 < IV.toInt (IV.cell x 1)) <;> cases hz:decide (IV.toInt (IV.cell x 1)=0) <;> cases ha:decide (IV.toInt (IV.cell x 2)=0) <;>
   (simp only [v2f,v1n,v0c,v0i,v1f,v2b,v0r,v0v,beq_self_eq_true,hr]
    try rfl)
 | 0,_,0,_,h=>by omega
 | _+1,_,0,_,h=>by omega
theorem zta:z2u PR B0 106 zat:=by
 refine z0f [] [(4,⟨[2,13,14,15],[],[]⟩)] zat [[.bool]] Tryz.func106 y2o trivial ?_;intro vs r hwf h;unfold zat at h
 split at h
 ·rename_i l
  refine ⟨l.length+1,?_⟩;rw [← h];refine (zxq (l.length+1) l).trans ?_;simp only [R.get_ok];unfold zvm
  by_cases h1:l.length < 1
  ·have e1:decide (ic l.length < 1)=true:=v01 (by show ((l.length:Nat):Int) < 1; omega)
   have e2:decide (1≤l.length)=false:=v07 (by omega)
   rw [e1,e2]; rfl
  ·have e1:decide (ic l.length < 1)=false:=v07 (by show ¬ ((l.length:Nat):Int) < 1; omega)
   have e2:decide (1≤l.length)=true:=v01 (by omega)
   rw [e1,e2];simp only [v1n,v0r]
   by_cases h3:l.length≤65536
   ·have e3:decide (ic l.length > 65536)=false:=v07 (by show ¬ ((l.length:Nat):Int) > 65536; omega)
    have e4:decide (l.length≤65536)=true:=v01 h3;rw [e3,e4];simp only [v1n,v0r]
    have:=y31 (l.length+1) l _ h3 (fun b2 x14 x15=>znq (l.length+1) b2 l x14 x15) (fun b2 x14 x15=>zna (l.length+1) b2 l x14 x15) l.length 0 (l.length+1) (by omega) (by omega)
    rw [v11] at this;exact this
   ·have e3:decide (ic l.length > 65536)=true:=v01 (by show ((l.length:Nat):Int) > 65536; omega)
    have e4:decide (l.length≤65536)=false:=v07 h3;rw [e3,e4]; rfl
 ·simp [R.get] at h
theorem ya4 (l:List IV):(ic l.length==0)=l.isEmpty:=by
 cases l with
 | nil=>rfl
 | cons a l=>
  simp only [ic,List.isEmpty_cons,v05];rw [v1i];omega
theorem zuq:z2u PR B0 62 zb3:=by
 refine z0f [(106,zat)] [] zb3 [[.bool]] Tryz.func62 y1r ⟨zta,trivial⟩ ?_;intro vs r hwf h;unfold zb3 at h
 split at h
 ·rename_i k p a b c d t s
  refine ⟨0,?_⟩;rw [← h];refine (zwi 0 k p a b c d t s).trans ?_;simp only [R.get_ok,ya4];unfold Vd.right Vd.bare;simp only [yd5,zni,v1f];generalize zvm p=sp;generalize p.isEmpty=pe;cases decide (s < 0) <;> cases decide (65536 < s) <;> simp only [v2f,v1n,v0c,v0i,v0r,v0v]
  by_cases k1:k=1
  ·subst k1
   cases a==0 <;> cases b==0 <;> cases c==0 <;> cases d==0 <;> cases t==0 <;> cases sp <;> cases pe <;> rfl
  by_cases k2:k=2
  ·subst k2
   cases a==0 <;> cases b==0 <;> cases c==0 <;> cases d==0 <;> cases t==0 <;> cases sp <;> cases pe <;> rfl
  by_cases k3:k=3
  ·subst k3
   cases a==0 <;> cases b==0 <;> cases c==0 <;> cases d==0 <;> cases t==0 <;> cases sp <;> cases pe <;> rfl
  by_cases k4:k=4
  ·subst k4
   cases a==0 <;> cases b==0 <;> cases c==0 <;> cases d==0 <;> cases t==0 <;> cases sp <;> cases pe <;> rfl
  simp only [v1i.2 k1,v1i.2 k2,v1i.2 k3,v1i.2 k4,v1n,v0v,v3l,Bool.cond_self]
 ·simp [R.get] at h
theorem zhw:∀ (l:List IV) (s:ByteArray),s.size≤(zu8 s l).size
 | [],s=>v08 _
 | x :: l,s=>by
  simp only [zu8];refine v1m ?_ (zhw l _);simp only [v0f,v3f];omega
theorem y7p (N:Nat) (l:List IV) (K:Out→St→Res) (hl:l.length≤strMax) (z:Res)
  (hx:∀ s x12 x13,s=zu8 s []→K (.exit 0) ⟨[(0,(.ptr 900000 0 0)),(11,(.list false [(.int .i64)] l)),(12,(.int .i64 x12)),(13,(.int .i64 x13))],[(900000,(some (.bld s)))]⟩=cond (decide (s.size+1≤strMax)) (some (.tup [],[[.bld (s.push (zde 10))]])) none) :
  ∀ (d i n:Nat) (s:ByteArray),i+d=l.length→d < n→(zu8 s (l.drop i)).size≤strMax→lpE (z79 N) (z0i z8s [1,0,1,0,0]) ⟨[0,11,12,13],[900000],[]⟩ n ⟨[(0,(.ptr 900000 0 0)),(11,(.list false [(.int .i64)] l)),(12,(.int .i64 (ic l.length))),(13,(.int .i64 (i:Int)))],[(900000,(some (.bld s)))]⟩ K =
   cond (decide ((zu8 s (l.drop i)).size+1≤strMax)) (some (.tup [],[[.bld ((zu8 s (l.drop i)).push (zde 10))]])) none
 | 0,i,n+1,s,hd,_,_=>by
  rw [z05,zip,zau (by omega),v1b (by omega)]
  simp only [v1n,zu8];exact hx s _ _ rfl
 | d+1,i,n+1,s,hd,hn,hs=>by
  have hi:i < l.length:=by omega
  unfold strMax at hl;rw [z05,zip,z9z hi,zg5,z7z (by omega),zbl hi]
  rw [v0j hi] at hs ⊢
  simp only [zu8] at hs ⊢
  have e32:zde 32=32:=rfl;rw [e32];have hsz:=zhw (l.drop (i+1)) (s.push 32++z0l l[i].toInt);have h1:decide (s.size+1≤strMax)=true:=v01 (by
   simp only [v0f,v3f] at hsz;omega)
  have h2:decide ((s.push 32).size+(z0l l[i].toInt).size≤strMax)=true:=v01 (by
   simp only [v0f] at hsz;omega)
  rw [h1,h2];simp only [v2f,v1f];exact y7p N l K (by unfold strMax; omega) z hx d (i+1) n _ (by omega) (by omega) hs
 | 0,_,0,_,_,h,_=>by omega
 | _+1,_,0,_,_,h,_=>by omega
theorem zwt:z2u PR B0 63 zcv:=by
 refine z0f [(43,z2x),(97,z1p),(60,z0v)] [(2,⟨[0,11,12,13],[900000],[]⟩)] zcv [] Tryz.func63 y5k ⟨z8h,z6l,z3i,trivial⟩ ?_;intro vs r hwf h;unfold zcv at h
 split at h
 ·rename_i s w l
  refine ⟨l.length+1,?_⟩;rw [← h];refine (y0d (l.length+1) s w l).trans ?_;simp only [R.get_br,R.get_ok,R.get_no];have hwf:=hwf (by simp [zbw,z6a])
  simp only [yey,wfV,wfLs,wfL] at hwf;rw [R.get_br,R.get_ok,R.get_no] at h;cases hc:decide ((z4m s w l).size≤strMax) with
  | false=>rw [hc] at h; cases h
  | true=>
   have hle:=v0d hc;unfold z4m at hle ⊢
   rw [v3f] at hle;have h1:=zhw l (s++w);have e1:decide (s.size+w.size≤strMax)=true:=v01 (by rw [v0f] at h1; omega)
   rw [e1];simp only [v2f]
   have:=y7p (l.length+1) l _ hwf.2.2.1.1 none (fun s' x12 x13 _=>zoy (l.length+1) s l x12 x13 s') l.length 0 (l.length+1) (s++w) (by omega) (by omega) (by rw [v11]; omega)
   rw [v11] at this;refine this.trans ?_;rw [v01 hle]
   rfl
 ·simp [R.get] at h
open Go Go.Proofs
def z5t (N:Nat):Env:=mkE [(62,zb3),(63,zcv),(56,z1b)] [(9,⟨[2,3,25,26,27],[3],[]⟩)] 61 N
abbrev z6q (s2:ByteArray) (l25:List IV) (x26 x27:Int) (so3:ByteArray):St:=⟨[(2,(.str s2)),(3,(.ptr 3 0 0)),(25,(.list true z2r l25)),(26,(.i x26)),(27,(.i x27))],[(3,(some (.bld so3)))]⟩
theorem zx0 (N:Nat) (v:Vd):z0y (z5t N) z71 [.tmp 2] [[.str]] [(Vd.V v)]=(cond (!Vd.right v) (some ((.str ({data:=#[]})),[])) (cond (Vd.kind v==1) (cond (decide (ByteArray.size (z4m ByteArray.empty {data:=#[104,111,108,100,115]} [IV.int (Vd.spent v),IV.int (ic (List.length (Vd.proof v)))])≤strMax)) (lpE (z5t N) (z0i z71 [1,1,1,0,1,0,1,0,1,1,0,0]) ⟨[2,3,25,26,27],[3],[]⟩ N (z6q ({data:=#[]}) (Vd.proof v) (ic (List.length (Vd.proof v))) 0 (z4m ByteArray.empty {data:=#[104,111,108,100,115]} [IV.int (Vd.spent v),IV.int (ic (List.length (Vd.proof v)))])) (z06 1 (z06 0 (kSq (z5t N) (z0i z71 [1,1,1,1]) (z2v (z5t N) none [(ResultVar.tmp 2)] [[.str]]))))) none) (cond (Vd.kind v==2) (cond (decide (ByteArray.size (z4m ByteArray.empty {data:=#[102,97,105,108,115]} (List.drop 0 (List.take (1+4+1) (List.take (1+4) (List.take 1 [IV.int (Vd.spent v)]++[IV.int (Vd.w0 v),IV.int (Vd.w1 v),IV.int (Vd.w2 v),IV.int (Vd.w3 v)])++[IV.int (Vd.twin v)]))))≤strMax)) (some ((.str (z4m ByteArray.empty {data:=#[102,97,105,108,115]} (List.drop 0 (List.take (1+4+1) (List.take (1+4) (List.take 1 [IV.int (Vd.spent v)]++[IV.int (Vd.w0 v),IV.int (Vd.w1 v),IV.int (Vd.w2 v),IV.int (Vd.w3 v)])++[IV.int (Vd.twin v)]))))),[])) none) (cond (Vd.kind v==3) (cond (decide (ByteArray.size (z4m ByteArray.empty {data:=#[117,110,107,110,111,119,110]} [IV.int (Vd.spent v)])≤strMax)) (some ((.str (z4m ByteArray.empty {data:=#[117,110,107,110,111,119,110]} [IV.int (Vd.spent v)])),[])) none) (cond (decide (ByteArray.size (z4m ByteArray.empty {data:=#[119,114,111,110,103]} [IV.int (Vd.spent v)])≤strMax)) (some ((.str (z4m ByteArray.empty {data:=#[119,114,111,110,103]} [IV.int (Vd.spent v)])),[])) none))))):=by kernel_rfl
theorem zge (N:Nat) (s2:ByteArray) (l25:List IV) (x26 x27:Int) (so3:ByteArray) (again:St→Res) (k:Out→St→Res):rnd (z5t N) (z0i z71 [1,1,1,0,1,0,1,0,1,1,0,0]) (z6q s2 l25 x26 x27 so3) (z3v again ⟨[2,3,25,26,27],[3],[]⟩ k)=(cond (decide (x27 < x26)) (cond (decide (0≤x27)&&decide (x27 < ic (List.length l25))) (cond (IV.toBool (IV.cell (List.getD l25 (Int.toNat x27) default) 0)) (cond (decide (ByteArray.size (z4m so3 {data:=#[115,117,109]} [])≤strMax)) (again (z6q s2 l25 x26 (IntKind.wrap IntKind.i64 (x27+1)) (z4m so3 {data:=#[115,117,109]} []))) none) (cond (decide (ByteArray.size (z4m so3 {data:=#[99,117,116]} [IV.int (IV.toInt (IV.cell (List.getD l25 (Int.toNat x27) default) 1)),IV.int (IV.toInt (IV.cell (List.getD l25 (Int.toNat x27) default) 2))])≤strMax)) (again (z6q s2 l25 x26 (IntKind.wrap IntKind.i64 (x27+1)) (z4m so3 {data:=#[99,117,116]} [IV.int (IV.toInt (IV.cell (List.getD l25 (Int.toNat x27) default) 1)),IV.int (IV.toInt (IV.cell (List.getD l25 (Int.toNat x27) default) 2))]))) none)) none) (k (.exit 1) (z6q s2 l25 x26 x27 so3))):=by kernel_rfl
theorem zme (N:Nat) (s2:ByteArray) (l25:List IV) (x26 x27:Int) (so3:ByteArray):(z06 1 (z06 0 (kSq (z5t N) (z0i z71 [1,1,1,1]) (z2v (z5t N) none [(ResultVar.tmp 2)] [[.str]])))) (.exit 1) (z6q s2 l25 x26 x27 so3)=(some ((.str so3),[])):=by kernel_rfl
open Go Go.Proofs
theorem zvg (s w:ByteArray) (l:List IV):s.size≤(z4m s w l).size:=by
 unfold z4m
 have:=zhw l (s++w)
 rw [v0f] at this;rw [v3f];omega
theorem zcd:∀ (l:List IV) (s:ByteArray),s.size≤(z94 s l).size
 | [],s=>v08 _
 | x :: l,s=>by
  unfold z94;refine v1m ?_ (zcd l _);cases zc1 x
  ·exact zvg _ _ _
  ·exact zvg _ _ _
theorem zvj (N:Nat) (l:List IV) (t:ByteArray) (K:Out→St→Res) (hl:l.length≤65536)
  (hx:∀ s x26 x27,K (.exit 1) ⟨[(2,(.str t)),(3,(.ptr 3 0 0)),(25,(.list true z2r l)),(26,(.int .i64 x26)),(27,(.int .i64 x27))],[(3,(some (.bld s)))]⟩=some (.str s,[])) :
  ∀ (d i n:Nat) (s:ByteArray),i+d=l.length→d < n→(z94 s (l.drop i)).size≤strMax →
   lpE (z5t N) (z0i z71 [1,1,1,0,1,0,1,0,1,1,0,0]) ⟨[2,3,25,26,27],[3],[]⟩ n ⟨[(2,(.str t)),(3,(.ptr 3 0 0)),(25,(.list true z2r l)),(26,(.int .i64 (ic l.length))),(27,(.int .i64 (i:Int)))],[(3,(some (.bld s)))]⟩ K=some (.str (z94 s (l.drop i)),[])
 | 0,i,n+1,s,hd,_,_=>by
  rw [z05,zge,zau (by omega),v1b (l:=l) (i:=i) (by omega)]
  simp only [z02,z94];exact hx s _ _
 | d+1,i,n+1,s,hd,hn,hs=>by
  have hi:i < l.length:=by omega
  rw [z05,zge,z9z hi,zg5,z7z (by omega),zbl hi]
  rw [v0j hi] at hs ⊢
  simp only [z94] at hs ⊢
  simp only [z00,v1f];have hsz:=zcd (l.drop (i+1)) (cond (zc1 l[i]) (z4m s ygj []) (z4m s ygg [.int (z1k l[i]),.int (zhv l[i])]));have ih:=fun s' h'=>zvj N l t K hl hx d (i+1) n s' (by omega) (by omega) h'
  have es:(l[i].cell 0).toBool=zc1 l[i]:=rfl;rw [es];cases hc:zc1 l[i] with
  | true=>
   rw [hc] at hsz hs;simp only [z00] at hsz hs ⊢
   rw [v01 (show (z4m s ygj []).size≤strMax by omega)]
   simp only [z00];exact ih _ hs
  | false=>
   rw [hc] at hsz hs;simp only [z02] at hsz hs ⊢
   have e2:[IV.int (IV.toInt (IV.cell l[i] 1)),IV.int (IV.toInt (IV.cell l[i] 2))]=[.int (z1k l[i]),.int (zhv l[i])]:=rfl;rw [e2,v01 (show (z4m s ygg [.int (z1k l[i]),.int (zhv l[i])]).size≤strMax by omega)]
   simp only [z00];exact ih _ hs
 | 0,_,0,_,_,h,_=>by omega
 | _+1,_,0,_,_,h,_=>by omega
theorem ycr {v:Vd} (h:v.right=true):v.proof.length≤65536:=by
 unfold Vd.right at h;simp only [v02,v2y] at h;rcases h.2.2 with h1 | h1 | h1
 ·have:=h1.2.2
  unfold zvm at this;simp only [v02,v06] at this;exact this.2.1
 ·have:=h1.2
  cases hp:v.proof with
  | nil=>simp
  | cons a b=>rw [hp] at this; cases this
 ·have:=h1.2.2
  cases hp:v.proof with
  | nil=>simp
  | cons a b=>rw [hp] at this; cases this
theorem zuf:z2u PR B0 24 zbc:=by
 refine z0f [(62,zb3),(63,zcv),(56,z1b)] [(9,⟨[2,3,25,26,27],[3],[]⟩)] zbc [[.str]] Tryz.func24 y0n ⟨zuq,zwt,z4s,trivial⟩ ?_;intro vs r hwf h;unfold zbc at h
 split at h
 ·rename_i k p a b c d t s
  obtain ⟨v,hv⟩:∃ v:Vd,v=⟨k,p,a,b,c,d,t,s⟩:=⟨_,rfl⟩;refine ⟨v.proof.length+1,?_⟩;rw [← h];rw [← hv] at h ⊢
  have hn:=zx0 (v.proof.length+1) v;rw [show Vd.V v = .agg [.int .i64 k,.list true [.bool,.int .i64,.int .i64] p,.int .i64 a,.int .i64 b,.int .i64 c,.int .i64 d,.int .i64 t,.int .i64 s] by rw [hv]; rfl] at hn
  refine hn.trans ?_;clear hn;rw [R.get_br,R.get_ok,R.get_no] at h;simp only [R.get_br,R.get_ok,R.get_no];cases hc:decide ((z9u v).size≤strMax) with
  | false=>rw [hc] at h; cases h
  | true=>
   have hle:=v0d hc;simp only [z00];unfold z9u at hle ⊢
   cases hr:Vd.right v with
   | false=>rfl
   | true=>
    rw [hr] at hle;simp only [v0c,z00,z02] at hle ⊢
    have e0:ByteArray.empty=z4p:=rfl;simp only [e0];cases k1:v.kind==1 with
    | true=>
     rw [k1] at hle;simp only [z00] at hle ⊢
     have h1:=zcd v.proof (z4m z4p zxo [.int v.spent,.int (ic v.proof.length)]);rw [v01 (show (z4m z4p zxo [.int v.spent,.int (ic v.proof.length)]).size≤strMax by omega)]
     simp only [z00]
     have:=zvj (v.proof.length+1) v.proof z4p _ (ycr hr) (fun s' x26 x27=>zme (v.proof.length+1) z4p v.proof x26 x27 s') v.proof.length 0 (v.proof.length+1) (z4m z4p zxo [.int v.spent,.int (ic v.proof.length)]) (by omega) (by omega) (by rw [v11]; exact hle)
     rw [v11] at this;exact this
    | false=>
     rw [k1] at hle;simp only [z02] at hle ⊢
     cases k2:v.kind==2 with
     | true=>
      rw [k2] at hle;simp only [z00] at hle ⊢
      have ew:(List.drop 0 (List.take (1+4+1) (List.take (1+4) (List.take 1 [IV.int (Vd.spent v)]++[IV.int (Vd.w0 v),IV.int (Vd.w1 v),IV.int (Vd.w2 v),IV.int (Vd.w3 v)])++[IV.int (Vd.twin v)])))=[.int v.spent,.int v.w0,.int v.w1,.int v.w2,.int v.w3,.int v.twin]:=rfl;rw [ew,v01 hle]
      rfl
     | false=>
      rw [k2] at hle;simp only [z02] at hle ⊢
      cases k3:v.kind==3 with
      | true=>
       rw [k3] at hle;simp only [z00] at hle ⊢
       rw [v01 hle]
       rfl
      | false=>
       rw [k3] at hle;simp only [z02] at hle ⊢
       rw [v01 hle]
       rfl
 ·simp [R.get] at h
open Go
abbrev zjc:ByteArray:=⟨#[113,117,101,114,121,32]⟩
abbrev ygw:ByteArray:=⟨#[109,111,100,101,108,10]⟩
def zcb (s:ByteArray):List IV:=cond (s.toList==z4p.toList) [] ((z0p (z5c s yda) yda).map IV.str)
def z5g:z0n
 | [.str s]=>.br (decide (s.size < 4294967281)) (.ok (.list false [.str] (zcb s)) []) .no
 | _=>.no
def yar:Vd:=⟨4,[],0,0,0,0,0,0⟩
def yiv (m:Md) (l:ByteArray):Bool:=y4n l&&(yg9 l==m.d&&z3c m (zjy l))
def yfh (m:Md) (q:Qy):Vd:=cond ((ya2 m q).kind==3||zsu m q (ya2 m q)) (ya2 m q) yar
def y9n (m:Md) (l:ByteArray):Vd:=cond (yiv m l) (yfh m (zjy l)) yar
def z7h:z0n
 | [m,.str l]=>zey m fun m=>.br (decide (l.size < 4294967281)) (.ok (y9n m l).V []) .no
 | _=>.no
def zqe (i:Nat):ByteArray:=(zjc++z0l (i:Int))++yda
def ya0 (i:Int):ByteArray:=(zjc++z0l i)++yda
def yf4 (m:Md):ByteArray→Nat→List IV→ByteArray
 | s,_,[]=>s
 | s,i,x :: l=>yf4 m (s++zqe i++z9u (y9n m x.toStr)) (i+1) l
def yj2 (a b:ByteArray):ByteArray:=cond (zw8 a) (yf4 (zdm a) z4p 0 (zcb b)) ygw
def zb2:z0n
 | [.str a,.str b]=>.br (decide (a.size < 4294967281)&&(decide (b.size < 4294967281)&&decide ((yj2 a b).size≤strMax))) (.ok (.str (yj2 a b)) []) .no
 | _=>.no
def Vd.I (v:Vd):IV:=.agg [.int v.kind,.list v.proof,.int v.w0,.int v.w1,.int v.w2,.int v.w3,.int v.twin,.int v.spent]
open Go Go.Proofs
open Go Go.Proofs
def zup (N:Nat):Env:=mkE [(46,z2k),(47,z2h)] [] 8 N
theorem zq1 (N:Nat) (s:ByteArray):z0y (zup N) zil [.tmp 2] [[.list false [.str]]] [(.str s)]=(cond (ByteArray.toList s==ByteArray.toList {data:=#[]}) (some ((.list false [.str] []),[])) (cond (decide (ByteArray.size (z5c s {data:=#[10]}) < 4294967281)&&decide (1≤ByteArray.size {data:=#[10]})) (some ((.list false [.str] (List.map IV.str (z0p (z5c s {data:=#[10]}) {data:=#[10]}))),[])) none)):=by kernel_rfl
def zri (N:Nat):Env:=mkE [(73,zcz),(26,z88),(65,z2e),(35,zbm)] [] 46 N
theorem zpd (N:Nat) (m:Md) (line:ByteArray):z0y (zri N) zgj [.cell 4 55] [[.int .i64,.list true [.bool,.int .i64,.int .i64],.int .i64,.int .i64,.int .i64,.int .i64,.int .i64,.int .i64]] [(Md.V m),(.str line)]=(cond (decide (ByteArray.size line < 4294967281)) (cond (!y4n line) (some ((.agg [(.i 4),(.list true z2r []),(.i 0),(.i 0),(.i 0),(.i 0),(.i 0),(.i 0)]),[])) (cond (yg9 line != Md.d m) (some ((.agg [(.i 4),(.list true z2r []),(.i 0),(.i 0),(.i 0),(.i 0),(.i 0),(.i 0)]),[])) (cond (!z3c m (zjy line)) (some ((.agg [(.i 4),(.list true z2r []),(.i 0),(.i 0),(.i 0),(.i 0),(.i 0),(.i 0)]),[])) (cond (Vd.kind (ya2 m (zjy line))==3) (some ((Vd.V (ya2 m (zjy line))),[])) (cond (zsu m (zjy line) (ya2 m (zjy line))) (some ((Vd.V (ya2 m (zjy line))),[])) (some ((.agg [(.i 4),(.list true z2r []),(.i 0),(.i 0),(.i 0),(.i 0),(.i 0),(.i 0)]),[]))))))) none):=by kernel_rfl
def z62 (N:Nat):Env:=mkE [(24,zbc),(32,z7h),(31,z5g),(43,z2x),(56,z1b),(60,z0v),(19,zbg)] [(6,⟨[4,5,7,18,19,20],[5,7],[]⟩)] 37 N
abbrev z5f (u00 s4:ByteArray) (l18:List IV) (x19 x20:Int) (so7:ByteArray):St:=⟨[(4,(.str s4)),(5,(.ptr 5 0 0)),(7,(.ptr 7 0 0)),(18,(.list false [.str] l18)),(19,(.i x19)),(20,(.i x20))],[(5,(some (.box (Md.cs (zdm u00))))),(7,(some (.bld so7)))]⟩
theorem zyf (N:Nat) (u00 u01:ByteArray):z0y (z62 N) z7c [.tmp 4] [[.str]] [(.str u00),(.str u01)]=(cond (decide (ByteArray.size u00 < 4294967281)) (cond (!zw8 u00) (some ((.str ({data:=#[109,111,100,101,108,10]})),[])) (cond (decide (ByteArray.size u01 < 4294967281)) (lpE (z62 N) (z0i z7c [1,1,1,1,0,1,0,0]) ⟨[4,5,7,18,19,20],[5,7],[]⟩ N (z5f u00 ({data:=#[]}) (zcb u01) (ic (List.length (zcb u01))) 0 ByteArray.empty) (z06 0 (kSq (z62 N) (z0i z7c [1,1,1,1,1]) (z2v (z62 N) none [(ResultVar.tmp 4)] [[.str]])))) none)) none):=by kernel_rfl
theorem zgo (N:Nat) (u00 s4:ByteArray) (l18:List IV) (x19 x20:Int) (so7:ByteArray) (again:St→Res) (k:Out→St→Res):rnd (z62 N) (z0i z7c [1,1,1,1,0,1,0,0]) (z5f u00 s4 l18 x19 x20 so7) (z3v again ⟨[4,5,7,18,19,20],[5,7],[]⟩ k)=(cond (decide (x20 < x19)) (cond (decide (0≤x20)&&decide (x20 < ic (List.length l18))) (cond (decide (ByteArray.size {data:=#[113,117,101,114,121,32]}+ByteArray.size (z0l x20)≤strMax)) (cond (decide (ByteArray.size ({data:=#[113,117,101,114,121,32]}++z0l x20)+ByteArray.size {data:=#[10]}≤strMax)) (cond (decide (ByteArray.size so7+ByteArray.size (ya0 x20)≤strMax)) (cond (decide (ByteArray.size (IV.toStr (List.getD l18 (Int.toNat x20) default)) < 4294967281)) (cond (decide (ByteArray.size (z9u (y9n (zdm u00) (IV.toStr (List.getD l18 (Int.toNat x20) default))))≤strMax)) (cond (decide (ByteArray.size (so7++(ya0 x20))+ByteArray.size (z9u (y9n (zdm u00) (IV.toStr (List.getD l18 (Int.toNat x20) default))))≤strMax)) (again (z5f u00 s4 l18 x19 (IntKind.wrap IntKind.i64 (x20+1)) (so7++(ya0 x20)++z9u (y9n (zdm u00) (IV.toStr (List.getD l18 (Int.toNat x20) default)))))) none) none) none) none) none) none) none) (k (.exit 0) (z5f u00 s4 l18 x19 x20 so7))):=by kernel_rfl
theorem zn7 (N:Nat) (u00 s4:ByteArray) (l18:List IV) (x19 x20:Int) (so7:ByteArray):(z06 0 (kSq (z62 N) (z0i z7c [1,1,1,1,1]) (z2v (z62 N) none [(ResultVar.tmp 4)] [[.str]]))) (.exit 0) (z5f u00 s4 l18 x19 x20 so7)=(some ((.str so7),[])):=by kernel_rfl
open Go
open Go
open Go
open Go
theorem zkw {x y:IV}:yje x y=true↔zc1 x=zc1 y∧z1k x=z1k y∧zhv x=zhv y:=by simp [yje]
theorem zv7:∀ {l m:List IV},zjq l m=true→zjq m l=true
 | [],[],_=>rfl
 | [],_ :: _,h=>by simp [zjq] at h
 | _ :: _,[],h=>by simp [zjq] at h
 | x :: l,y :: m,h=>by
  simp only [zjq,v02] at h ⊢
  obtain ⟨h1,h2,h3⟩:=zkw.1 h.1;exact ⟨zkw.2 ⟨h1.symm,h2.symm,h3.symm⟩,zv7 h.2⟩
theorem zq8:∀ {l m n:List IV},zjq l m=true→zjq m n=true→zjq l n=true
 | [],[],[],_,_=>rfl
 | [],[],_ :: _,_,h=>by simp [zjq] at h
 | [],_ :: _,_,h,_=>by simp [zjq] at h
 | _ :: _,[],_,h,_=>by simp [zjq] at h
 | _ :: _,_ :: _,[],_,h=>by simp [zjq] at h
 | x :: l,y :: m,z :: n,h,k=>by
  simp only [zjq,v02] at h k ⊢
  obtain ⟨h1,h2,h3⟩:=zkw.1 h.1;obtain ⟨k1,k2,k3⟩:=zkw.1 k.1;exact ⟨zkw.2 ⟨h1.trans k1,h2.trans k2,h3.trans k3⟩,zq8 h.2 k.2⟩
structure VSame (a b:Vd):Prop where
 kind:a.kind=b.kind
 proof:zjq a.proof b.proof=true
 w0:a.w0=b.w0
 w1:a.w1=b.w1
 w2:a.w2=b.w2
 w3:a.w3=b.w3
 twin:a.twin=b.twin
 spent:a.spent=b.spent
theorem VSame.symm {a b:Vd} (h:VSame a b):VSame b a:=⟨h.kind.symm,zv7 h.proof,h.w0.symm,h.w1.symm,h.w2.symm,h.w3.symm,h.twin.symm,h.spent.symm⟩
theorem VSame.trans {a b c:Vd} (h:VSame a b) (k:VSame b c):VSame a c:=⟨h.kind.trans k.kind,zq8 h.proof k.proof,h.w0.trans k.w0,h.w1.trans k.w1,h.w2.trans k.w2,h.w3.trans k.w3,h.twin.trans k.twin,h.spent.trans k.spent⟩
open Go
open Go
open Go
def yi2:Nat→List Vd→ByteArray
 | _,[]=>z4p
 | i,v :: r=>zqe i++(z9u v++yi2 (i+1) r)
theorem yde (i:Nat):0 < (zqe i).size:=by
 unfold zqe;rw [v0f];show 0 < _+1;omega
theorem y6l:∀ (i:Nat) (vs:List Vd),vs.length≤(yi2 i vs).size
 | _,[]=>v08 _
 | i,v :: r=>by
  have:=y6l (i+1) r
  have hp:=yde i;unfold yi2;rw [v0f,v0f,v05];omega
open Go
open Go
theorem ybw (m:Md):∀ (ls:List IV) (s:ByteArray) (i:Nat),yf4 m s i ls=s++yi2 i (ls.map fun x=>y9n m x.toStr)
 | [],s,i=>by
  show s=s++z4p;exact (v3h).symm
 | x :: l,s,i=>by
  rw [yf4,ybw m l,v0e,yi2,v2c,v2c]
open Go Go.Proofs
theorem zfi:z2u PR B0 31 z5g:=by
 refine z0f [(46,z2k),(47,z2h)] [] z5g [[.list false [.str]]] Tryz.func31 ztz ⟨z7l,za9,trivial⟩ ?_;intro vs r hwf h;unfold z5g at h
 split at h
 ·rename_i s
  cases hg:(decide (s.size < 4294967281)) with
  | false=>rw [hg] at h; simp [R.get] at h
  | true=>
  rw [hg,R.get_br,z00,R.get_ok] at h;refine ⟨0,(zq1 0 s).trans ?_⟩;have hz:=v0d hg;have ht:=zls s yda;rw [show decide (1≤ByteArray.size { data:=#[10] })=true from rfl,v1f,v01 (show (z5c s { data:=#[10] }).size < 4294967281 by exact v3t ht hz),z00,← h]
  unfold zcb;cases (s.toList==z4p.toList) <;> rfl
 ·simp [R.get] at h
theorem zmu:z2u PR B0 32 z7h:=by
 refine z0f [(73,zcz),(26,z88),(65,z2e),(35,zbm)] [] z7h [[.int .i64,.list true [.bool,.int .i64,.int .i64],.int .i64,.int .i64,.int .i64,.int .i64,.int .i64,.int .i64]] Tryz.func32 zrf ⟨zyk,zph,z7i,zu7,trivial⟩ ?_;intro vs r hwf h;unfold z7h at h
 split at h
 ·rename_i m l
  replace h:=z3f h;obtain ⟨m,rfl,h⟩:=h;cases hg:(decide (l.size < 4294967281)) with
  | false=>rw [hg] at h; simp [R.get] at h
  | true=>
  rw [hg,R.get_br,z00,R.get_ok] at h;refine ⟨0,(zpd 0 m l).trans ?_⟩;rw [hg,z00,← h];unfold y9n yiv yfh;rw [show (yg9 l != m.d)=!(yg9 l==m.d) from rfl]
  cases y4n l
  ·rfl
  cases (yg9 l==m.d)
  ·rfl
  cases z3c m (zjy l)
  ·rfl
  cases ((ya2 m (zjy l)).kind==3)
  ·cases zsu m (zjy l) (ya2 m (zjy l)) <;> rfl
  ·rfl
 ·simp [R.get] at h
theorem y1u (m:Md) (s:ByteArray) (i:Nat) (l:List IV):s.size+l.length≤(yf4 m s i l).size:=by
 rw [ybw,v0f]
 have:=y6l i (l.map fun x=>y9n m x.toStr)
 rw [v15] at this;omega
theorem y7s (N:Nat) (a:ByteArray) (ls:List IV) (hs:∀ x∈ls,x.toStr.size < 4294967281) (hl:ls.length≤strMax) (K:Out→St→Res) (hx:∀ x y so,K (.exit 0) (z5f a z4p ls x y so)=some (.str so,[])) :
  ∀ (d i n:Nat) (so:ByteArray),i+d=ls.length→d < n→(yf4 (zdm a) so i (ls.drop i)).size≤strMax →
   lpE (z62 N) (z0i z7c [1,1,1,1,0,1,0,0]) ⟨[4,5,7,18,19,20],[5,7],[]⟩ n (z5f a z4p ls (ic ls.length) (i:Int) so) K=some (.str (yf4 (zdm a) so i (ls.drop i)),[])
 | 0,i,n+1,so,hd,_,_=>by
  rw [z05,zgo,zau (by omega),v1b (by omega),z02]
  exact hx _ _ _
 | d+1,i,n+1,so,hd,hn,hz=>by
  have hi:i < ls.length:=by omega
  rw [v0j hi] at hz ⊢
  rw [yf4] at hz ⊢
  have h1:=y1u (zdm a) (so++zqe i++z9u (y9n (zdm a) ls[i].toStr)) (i+1) (ls.drop (i+1));have h2:(so++zqe i++z9u (y9n (zdm a) ls[i].toStr)).size=so.size+(zjc.size+(z0l (i:Int)).size+yda.size)+(z9u (y9n (zdm a) ls[i].toStr)).size:=by
   unfold zqe;simp only [v0f]
  have e1:zjc.size=6:=rfl;have e2:yda.size=1:=rfl;have h3:(so++zqe i).size=so.size+(zjc.size+(z0l (i:Int)).size+yda.size):=by
   unfold zqe;simp only [v0f]
  have h4:=hs ls[i] (v2o hi);unfold strMax at hl;rw [z05,zgo,z9z hi,zg5,z7z (by omega),zbl hi]
  rw [v01 (show ByteArray.size { data:=#[113,117,101,114,121,32] }+(z0l (i:Int)).size≤strMax by show zjc.size+_≤_; omega)]
  rw [v01 (show ByteArray.size ({ data:=#[113,117,101,114,121,32] }++z0l (i:Int))+ByteArray.size { data:=#[10] }≤strMax by rw [v0f]; show zjc.size+_+yda.size≤_; omega)]
  rw [v01 (show so.size+(ya0 (i:Int)).size≤strMax by rw [← v0f]; show (so++zqe i).size≤_; omega)]
  rw [v01 h4,v01 (show (z9u (y9n (zdm a) ls[i].toStr)).size≤strMax by omega)]
  rw [v01 (show (so++ya0 (i:Int)).size+(z9u (y9n (zdm a) ls[i].toStr)).size≤strMax by show (so++zqe i).size+_≤_; omega)]
  simp only [z00,v1f];exact y7s N a ls hs (by unfold strMax; omega) K hx d (i+1) n _ (by omega) (by omega) hz
 | 0,_,0,_,_,h,_=>by omega
 | _+1,_,0,_,_,h,_=>by omega
theorem y3t {s sep:ByteArray} {n:Nat} (h:s.size < n):∀ x∈z0p s sep,x.size < n:=fun x hx=>by
 have:=(z96 sep _ s).2 x hx
 omega
theorem y40 {s:ByteArray} {n:Nat} (h:s.size < n):∀ x∈zcb s,x.toStr.size < n:=by
 intro x hx;unfold zcb at hx;cases he:(s.toList==z4p.toList) with
 | true=>rw [he,z00] at hx; cases hx
 | false=>
  rw [he,z02] at hx;obtain ⟨y,hy,rfl⟩:=List.mem_map.1 hx;have ht:=zls s yda;exact y3t (v3t ht h) y hy
theorem ztf:z2u PR B0 22 zb2:=by
 refine z0f [(24,zbc),(32,z7h),(31,z5g),(43,z2x),(56,z1b),(60,z0v),(19,zbg)] [(6,⟨[4,5,7,18,19,20],[5,7],[]⟩)] zb2 [[.str]] Tryz.func22 y17 ⟨zuf,zmu,zfi,z8h,z4s,z3i,zub,trivial⟩ ?_;intro vs r hwf h;unfold zb2 at h
 split at h
 ·rename_i a b
  cases hg:(decide (a.size < 4294967281)&&(decide (b.size < 4294967281)&&decide ((yj2 a b).size≤strMax))) with
  | false=>rw [hg] at h; simp [R.get] at h
  | true=>
  rw [hg,R.get_br,z00,R.get_ok] at h;rw [v02,v02] at hg;have hz:=v0d hg.2.2;refine ⟨(zcb b).length+1,(zyf _ a b).trans ?_⟩;rw [hg.1,z00,← h];unfold yj2 at hz ⊢
  cases ht:zw8 a with
  | false=>rfl
  | true=>
   rw [ht,z00] at hz;simp only [v0c,z02,z00];rw [hg.2.1,z00];have hl:=y1u (zdm a) z4p 0 (zcb b);have e0:z4p.size=0:=rfl
   have:=y7s ((zcb b).length+1) a (zcb b) (y40 (v0d hg.2.1)) (by omega) _ (fun x y so=>zn7 ((zcb b).length+1) a z4p (zcb b) x y so) (zcb b).length 0 ((zcb b).length+1) z4p (by omega) (by omega) (by rw [v11]; exact hz)
   rw [v11] at this;exact this
 ·simp [R.get] at h
open Go Go.Proofs
open Go Go.Proofs
open Go
open Go
theorem Qy.In.sp {q:Qy} (hq:q.In):∀ s∈q.spans,InR s.1∧InR s.2:=by
 intro s hs;simp only [Qy.spans,v13,v1q,v3i] at hs;rcases hs with rfl | rfl | rfl | rfl | rfl
 ·exact ⟨hq.a0,hq.b0⟩
 ·exact ⟨hq.a1,hq.b1⟩
 ·exact ⟨hq.a2,hq.b2⟩
 ·exact ⟨hq.a3,hq.b3⟩
 ·exact ⟨hq.a4,hq.b4⟩
open Go
open Go
def Qy.I (q:Qy):IV:=.agg [.int q.k,.int q.c,.int q.a0,.int q.b0,.int q.a1,.int q.b1,.int q.a2,.int q.b2,.int q.a3,.int q.b3,.int q.a4,.int q.b4,.int q.lo,.int q.hi,.int q.ft,.bool q.fl,.int q.bu]
def zu2:List IV→List IV→Bool
 | [],[]=>true
 | x :: l,y :: m=>(x.toStr.toList==y.toStr.toList)&&zu2 l m
 | _,_=>false
def z35:z0n
 | [.list false [.str] l,.list false [.str] m]=>.ok (.bool (zu2 l m)) []
 | _=>.no
def z6g:z0n
 | []=>.ok (.bool true) []
 | _=>.no
open Go
open Go
open Go Go.Proofs
open Go
open Go Go.Proofs
open Go Go.Proofs
structure Ns.At (i:Nat) (s:Ns):Prop where
 nl:s.nodes.length=2*i+1
 ll:s.leaves.length=i+1
 lt:∀ x∈s.leaves,0≤x.toInt∧x.toInt < (2*i+1:Nat)
theorem yig {part:List IV} {i:Nat} {s:Ns} (h:s.At i) (hi:i≤100):0≤nsK part i s∧nsK part i s < ((i+1:Nat):Int)∧zj5 0 (ic s.leaves.length - 1)=((i+1:Nat):Int):=by
 have e:ic s.leaves.length=((i+1:Nat):Int):=by rw [h.ll]
 obtain ⟨m,a,b⟩:=yas (n:=(part.getD i default).toInt) (lo:=0) (hi:=ic s.leaves.length - 1) (by rw [e]; omega) (by omega) (by rw [e]; omega)
 unfold nsK;rw [e] at a b m ⊢
 exact ⟨a,by omega,by rw [m]; omega⟩
theorem Ns.At.step {part byl atl val:List IV} {dim:Int} {i:Nat} {s:Ns} (h:s.At i) (hi:i≤100):(y1b part byl atl val dim i s).At (i+1):=by
 obtain ⟨k0,k1,_⟩:=yig (part:=part) h hi;refine ⟨?_,?_,?_⟩
 ·simp only [y1b,v0a,v2e,v05,v0o,h.nl]
  omega
 ·simp only [y1b,v0a,v0h,v1h,v05,v0o,h.ll]
  omega
 ·intro x hx
  simp only [y1b,v0k] at hx;rcases hx with (hx | hx) | hx
  ·have:=h.lt x (v2m hx)
   omega
  ·have:=h.lt x (v2l hx)
   omega
  ·simp only [v13,v1q,v3i] at hx
   rcases hx with rfl | rfl
   ·simp only [IV.toInt,ic,h.nl]; omega
   ·simp only [IV.toInt,ic,h.nl]; omega
open Go Go.Proofs
open Go Go.Proofs
open Go Go.Proofs
def z0z (N:Nat):Env:=mkE [] [(4,⟨[0,1,4,5],[],[]⟩)] 26 N
abbrev z0s (l0 l1:List IV) (b4:Bool) (x5:Int):St:=⟨[(0,(.list false [.str] l0)),(1,(.list false [.str] l1)),(4,(.bool b4)),(5,(.i x5))],[]⟩
theorem zds (N:Nat) (a b:List IV):z0y (z0z N) z1f [.tmp 4] [[.bool]] [(.list false [.str] a),(.list false [.str] b)]=(cond (ic (List.length a) != ic (List.length b)) (some ((.bool false),[])) (lpE (z0z N) (z0i z1f [1,1,0,1,0,0]) ⟨[0,1,4,5],[],[]⟩ N (z0s a b false 0) (z06 0 (kSq (z0z N) (z0i z1f [1,1,1]) (z2v (z0z N) none [(ResultVar.tmp 4)] [[.bool]]))))):=by kernel_rfl
theorem z7t (N:Nat) (l0 l1:List IV) (b4:Bool) (x5:Int) (again:St→Res) (k:Out→St→Res):rnd (z0z N) (z0i z1f [1,1,0,1,0,0]) (z0s l0 l1 b4 x5) (z3v again ⟨[0,1,4,5],[],[]⟩ k)=(cond (decide (x5 < ic (List.length l0))) (cond (decide (0≤x5)&&decide (x5 < ic (List.length l0))) (cond (decide (0≤x5)&&decide (x5 < ic (List.length l1))) (cond (!ByteArray.toList (IV.toStr (List.getD l0 (Int.toNat x5) default))==ByteArray.toList (IV.toStr (List.getD l1 (Int.toNat x5) default))) (k .ret (z0s l0 l1 false x5)) (again (z0s l0 l1 b4 (IntKind.wrap IntKind.i64 (x5+1))))) none) none) (k (.exit 0) (z0s l0 l1 b4 x5))):=by kernel_rfl
theorem zc4 (N:Nat) (l0 l1:List IV) (b4:Bool) (x5:Int):(z06 0 (kSq (z0z N) (z0i z1f [1,1,1]) (z2v (z0z N) none [(ResultVar.tmp 4)] [[.bool]]))) (.exit 0) (z0s l0 l1 b4 x5)=(some ((.bool true),[])):=by kernel_rfl
theorem zc0 (N:Nat) (l0 l1:List IV) (b4:Bool) (x5:Int):(z06 0 (kSq (z0z N) (z0i z1f [1,1,1]) (z2v (z0z N) none [(ResultVar.tmp 4)] [[.bool]]))) .ret (z0s l0 l1 b4 x5)=(some ((.bool b4),[])):=by kernel_rfl
def zer (N:Nat):Env:=mkE [(30,z35),(28,z5p),(31,z5g),(22,zb2),(20,z7b)] [] 16 N
theorem ze3 (N:Nat):z0y (zer N) z9h [.tmp 0] [[.bool]] []=(some ((.bool true),[])):=by kernel_rfl
open Go Go.Proofs
def znk (N:Nat):Env:=mkE [(71,z6n)] [] 14 N
theorem zlj (N:Nat):z0y (znk N) ze6 [.cell 0 30] [[.int .i64,.int .i64,.int .i64,.int .i64,.int .i64,.list true [.int .i64,.list false [.int .u64]]]] []=(some ((.agg [(.i 1),(.i 1),(.i 3),(.i 0),(.i 0),(.list true zji [(IV.agg [IV.int 0,IV.list [IV.int (zyb false 0 0 5 1 2),IV.int (zyb true 10 0 0 0 0),IV.int (zyb true 20 0 0 0 0)]])])]),[])):=by kernel_rfl
open Go Go.Proofs
theorem y0k:∀ {l m:List IV},zu2 l m=true→l.length=m.length
 | [],[],_=>rfl
 | [],_ :: _,h=>by simp [zu2] at h
 | _ :: _,[],h=>by simp [zu2] at h
 | x :: l,y :: m,h=>by
  simp only [zu2,v02] at h;simp [y0k h.2]
theorem y1d (N:Nat) (l m:List IV) (K:Out→St→Res) (hlm:l.length=m.length) (hl:l.length≤strMax)
  (hx:∀ x,K (.exit 0) (z0s l m false x)=some (.bool true,[])) (hr:∀ x,K .ret (z0s l m false x)=some (.bool false,[])) :
  ∀ (d i n:Nat),i+d=l.length→d < n→lpE (z0z N) (z0i z1f [1,1,0,1,0,0]) ⟨[0,1,4,5],[],[]⟩ n (z0s l m false (i:Int)) K=some (.bool (zu2 (l.drop i) (m.drop i)),[])
 | 0,i,n+1,hd,_=>by
  rw [z05,z7t,zau (by omega),v1b (by omega),v1b (by omega),z02]
  exact hx _
 | d+1,i,n+1,hd,hn=>by
  have hi:i < l.length:=by omega
  have hm:i < m.length:=by omega
  have hl':=hl;unfold strMax at hl';rw [z05,z7t,z9z hi,z9z hm,zg5,z7z (by omega),zbl hi,zbl hm,v0j hi,v0j hm]
  simp only [z00,v1f,zu2];cases (l[i].toStr.toList==m[i].toStr.toList) with
  | false=>
   rw [v0i,z00,v0v];exact hr _
  | true=>
   rw [v0c,z02,v0r];exact y1d N l m K hlm hl hx hr d (i+1) n (by omega) (by omega)
 | 0,_,0,_,h=>by omega
 | _+1,_,0,_,h=>by omega
theorem zdn:z2u PR B0 30 z35:=by
 refine z0f [] [(4,⟨[0,1,4,5],[],[]⟩)] z35 [[.bool]] Tryz.func30 zeo trivial ?_;intro vs r hwf h;unfold z35 at h
 split at h
 ·rename_i l m
  rw [R.get_ok] at h;refine ⟨l.length+1,(zds _ l m).trans ?_⟩;rw [← h];have hl:=(hwf (by simp [zbw])).1
  simp only [wfV,wfL] at hl
  by_cases hlm:l.length=m.length
  ·have e:(ic l.length != ic m.length)=false:=by simp [ic,hlm]
   rw [e,z02]
   have:=y1d (l.length+1) l m _ hlm hl.1 (fun x=>zc4 (l.length+1) l m false x) (fun x=>zc0 (l.length+1) l m false x) l.length 0 (l.length+1) (by omega) (by omega)
   rw [v11,v11] at this;exact this
  ·have e:(ic l.length != ic m.length)=true:=by simp [ic]; omega
   rw [e]
   have:zu2 l m=false:=by
    cases hs:zu2 l m with
    | false=>rfl
    | true=>exact absurd (y0k hs) hlm
   rw [this]
   rfl
 ·simp [R.get] at h
theorem zjr:z2u PR B0 28 z5p:=by
 refine z0f [(71,z6n)] [] z5p [[.int .i64,.int .i64,.int .i64,.int .i64,.int .i64,.list true [.int .i64,.list false [.int .u64]]]] Tryz.func28 zng ⟨zl1,trivial⟩ ?_;intro vs r hwf h;unfold z5p at h
 split at h
 ·skip
  rw [R.get_ok] at h;refine ⟨0,(zlj 0).trans ?_⟩;rw [← h]
  rfl
 ·simp [R.get] at h
theorem zdo:z2u PR B0 6 z6g:=by
 refine z0f [(30,z35),(28,z5p),(31,z5g),(22,zb2),(20,z7b)] [] z6g [[.bool]] Tryz.func6 zeu ⟨zdn,zjr,zfi,ztf,zik,trivial⟩ ?_;intro vs r hwf h;unfold z6g at h
 split at h
 ·skip
  rw [R.get_ok] at h;refine ⟨0,(ze3 0).trans ?_⟩;rw [← h]
 ·simp [R.get] at h
open Go Go.Proofs Go.RowKit
theorem zqq {P:Program} {w:World} {name:String} {g:Nat} {cs:Array Value} (hn:P.globalNamed name=some g) (hv:w.var? P name=some cs):∃ T fr,w.heap[g]?=some (.cells cs T fr):=by
 unfold World.var? at hv;rw [hn] at hv;simp only [Option.bind_some] at hv
 split at hv
 ·rename_i c T fr hh
  simp only [v00] at hv;subst hv;exact ⟨T,fr,hh⟩
 ·cases hv
theorem y7i {w:World} {name:String} {g t:Nat} {ms:Array (String × TypeId)} {tn:String} {d:DataW Unit} (h:Lib.VarReads Tryz.prog w name (.iface tn d)) (hn:Tryz.prog.globalNamed name=some g)
  (ht:(Tryz.prog.globals[g]?).map (·.type)=some t) (hu:Tryz.prog.underlying t=some (.interface ms)):∃ c T fr te pe,w.heap[g]?=some (.cells c T fr)∧c[0]?=some (.iface te pe):=by
 obtain ⟨g',t',cs,fuel,p,h1,h2,h3,h4⟩:=h;obtain rfl:=v1t (hn.symm.trans h1);obtain rfl:=v1t (ht.symm.trans h2);obtain ⟨f',u,v,hcs,_,_⟩:=iface_of_trod hu h4;obtain ⟨T,fr,hh⟩:=zqq hn h3;refine ⟨cs,T,fr,u,v,hh,?_⟩
 have:cs = #[.iface u v]:=by
  apply Array.ext';rw [hcs]
 rw [this]
 rfl
theorem ye6 {W:World} {l:List (String × DataW Unit)} (hL:laidMet Tryz.prog l W) (hsh:W.ShapedOpen Tryz.prog)
  (hp:("internal/strconv.uint64pow10", Lib.tabData .u64 Lib.pow10Tab)∈l)
  {n1:String} {d1:DataW Unit} (h1:("strconv.ErrRange", .iface n1 d1)∈l)
  {n2:String} {d2:DataW Unit} (h2:("strconv.ErrSyntax", .iface n2 d2)∈l)
  : Glob B0 W:=by
 have hz:∀ g,g < 4→g < Tryz.prog.globals.size→g < W.heap.size:=fun g _ hg=>by
  have hb:((List.range Tryz.prog.globals.size).all fun g=>(((begin Tryz.prog (fun _ _=>0) default).world.heap[g]?).bind Obj.row?).isSome)=true:=by kernel_rfl
  have:=v30.1 hb g (List.mem_range.2 hg)
  obtain ⟨⟨z,t⟩,hz⟩:=Option.isSome_iff_exists.1 this;obtain ⟨cs,hh,_⟩:=hsh.1 g z t hg hz;exact (Array.getElem?_eq_some_iff.1 hh).1
 have hsize:4≤W.heap.size:=by
  first
  | exact v0y _
  | (
    have:=hz (4 - 1) (by decide) (v0d (by kernel_rfl))
    omega)
 have low:∀ {g:Nat},g < 4→(fun b=>if b < B0.ng then W.heap[b]? else none) g=W.heap[g]?:=fun h=>v1c (show _ < B0.ng from h)
 refine ⟨hsize,?_⟩;show GF _;constructor
 first | exact trivial | skip
 case gm=>
  obtain ⟨m,hm⟩:=cell_of_shapedOpen_int (P:=Tryz.prog) (g:=1) (t:=3) (zero:=#[.int .i64 0]) hsh (v0d (by kernel_rfl)) (by kernel_rfl) rfl (by kernel_rfl) (by kernel_rfl) Tryz.underlying3
  simp only [World.cell?] at hm
  split at hm
  ·rename_i c T fr' hh
   exact ⟨c,T,fr',m,(low (by decide)).trans hh,hm⟩
  ·cases hm
 case gp=>
  have gp:Tryz.prog.globalNamed "internal/strconv.uint64pow10" = some 0:=by kernel_rfl
  obtain ⟨g',t',cp,fuel,p,e1,e2,e3,e4⟩:=Lib.laidMet.reads hL hp;obtain rfl:=v1t (gp.symm.trans e1);obtain ⟨T,fr',hh⟩:=zqq gp e3;refine ⟨T,fr',(low (by decide)).trans ?_⟩
  rw [hh];have et:(Tryz.prog.globals[0]?).map (·.type)=some 262:=by kernel_rfl
  obtain rfl:=v1t (et.symm.trans e2)
  have:=Lib.cells_of_tab (e:=103) (n:=20) (by kernel_rfl) (by kernel_rfl) (by kernel_rfl) (by kernel_rfl) e4
  congr 1
  congr 1
  apply Array.ext';exact this
 case gs=>
  obtain ⟨cs,Ts,fs,tes,pes,hs1,hs2⟩:=y7i (g:=2) (Lib.laidMet.reads hL h2) (by kernel_rfl) (show _=some 120 by kernel_rfl) Tryz.underlying120
  exact ⟨cs,Ts,fs,tes,pes,(low (by decide)).trans hs1,hs2⟩
 case gr=>
  obtain ⟨cr,Tr,fr,ter,per,hr1,hr2⟩:=y7i (g:=3) (Lib.laidMet.reads hL h1) (by kernel_rfl) (show _=some 120 by kernel_rfl) Tryz.underlying120
  exact ⟨cr,Tr,fr,ter,per,(low (by decide)).trans hr1,hr2⟩
def X0:Zone:=⟨fun _=>False,fun _=>False⟩
def γ0:Nat→Value:=fun _=>.nilIface
abbrev O0:Nat→Prop:=z08 X0 γ0 []
theorem yk8 (W:World):Rel B0.base 0 W X0 γ0 ⟨[],[]⟩ zwe W:=by
 have no:∀ n ob,z03 ([]:Store) n≠some ob:=fun n ob h=>by simp [z03,lkd] at h
 refine ⟨rfl,rfl,fun i=>by simp only [St.get,lkd,VRel],fun n ob h=>absurd h (no n ob),fun b h=>?_,fun n m ob ob' b _ h=>absurd h (no n ob),Keep.refl _ _,fun b h=>?_,fun b h=>h.elim,fun p _ ob h=>absurd h (no _ ob)⟩
 ·obtain ⟨n,ob,h,_⟩:=h
  exact absurd h (no n ob)
 ·obtain ⟨n,ob,h,_⟩:=h
  exact absurd h (no n ob)
theorem zyr {f:Nat} {fn:Func} (hf:PR.funcs[f]?=some fn) (hn:(fn.name == "runtime.NumGoroutine")=false) (hb:fn.body.isNone=false) {xs:List Value} {w:World} {R:Ending→World→Prop} (h:Does PR f xs w R):Calls PR f xs.toArray w R:=by
 have:(callFunc f xs.toArray).run PR w = .ok (.enter f xs.toArray) w:=by
  unfold callFunc;have hn':¬ fn.name = "runtime.NumGoroutine":=by simpa using hn
  have hb':¬ fn.body=none:=fun h=>by rw [h] at hb; cases hb
  simp [hf,hn',hb']
 unfold Does at h;rw [this] at h;exact h
theorem y8c {f:Nat} {fn:Func} {sp:z0n} (hS:z2u PR B0 f sp) (hf:PR.funcs[f]?=some fn) (hn:(fn.name == "runtime.NumGoroutine")=false) (hb:fn.body.isNone=false) {vs:List V} {xs:List Value} {W:World}
  (hsp:(sp vs).get=some (.bool true,[])) (hbor:z6a vs=none) (hG:Glob B0 W) (hV:VRels γ0 [] W O0 (vs.map z8p) xs) :
  Calls PR f xs.toArray W fun e w'=>e = .returned (.bool true)∧Below W.heap.size W w':=by
 refine zyr hf hn hb ?_;have em:zbz vs=[]:=by unfold zbz; rw [hbor]
 refine Does.mono (hS W X0 γ0 vs xs (.bool true) [] hsp hG (fun b h=>h.elim) (by rw [em]; exact yk8 W) (by rw [em]; exact hV)) ?_
 rintro e w' ⟨x,rfl,γ',hR,hx,_⟩
 simp only [y48,z8p,VRel] at hx;subst hx;exact ⟨rfl,hR.keep.os,hR.keep.tape,hR.keep.output,hR.keep.size,fun b hb=>hR.keep.block b hb (fun h=>h)⟩
open Go
def CellsK (w:World) (O:Nat→Prop):List Kd→List IV→List Value→Prop
 | [],[],[]=>True
 | k :: ks,x :: f,v :: cs=>Kd.Rel w O k x v∧CellsK w O ks f cs
 | _,_,_=>False
section
variable {w:World} {O:Nat→Prop}
theorem CellsK.append:∀ {ks:List Kd} {f:List IV} {cs:List Value} {ks':List Kd} {f':List IV} {cs':List Value},CellsK w O ks f cs→CellsK w O ks' f' cs'→CellsK w O (ks++ks') (f++f') (cs++cs')
 | [],[],[],_,_,_,_,h'=>h'
 | _ :: ks,_ :: f,_ :: cs,_,_,_,h,h'=>by
  simp only [CellsK] at h;simp only [v1x,CellsK];exact ⟨h.1,h.2.append h'⟩
 | [],_ :: _,_,_,_,_,h,_=>by simp [CellsK] at h
 | [],[],_ :: _,_,_,_,h,_=>by simp [CellsK] at h
 | _ :: _,[],_,_,_,_,h,_=>by simp [CellsK] at h
 | _ :: _,_ :: _,[],_,_,_,h,_=>by simp [CellsK] at h
theorem CellsK.get:∀ {ks:List Kd} {f:List IV} {cs:List Value},CellsK w O ks f cs→∀ (j:Nat) (k:Kd),ks[j]?=some k→∃ v,cs[j]?=some v∧Kd.Rel w O k (nth f j) v
 | [],_,_,_,j,k,h=>by simp at h
 | k :: ks,x :: f,v :: cs,h,j,k',hj=>by
  simp only [CellsK] at h;cases j with
  | zero=>
   simp only [v0q,v00] at hj;subst hj;exact ⟨v,rfl,by simpa only [nth] using h.1⟩
  | succ j=>
   obtain ⟨u,h1,h2⟩:=h.2.get j k' (by simpa using hj)
   exact ⟨u,by simpa using h1,by simpa only [nth] using h2⟩
 | _ :: _,[],_,h,_,_,_=>by simp [CellsK] at h
 | _ :: _,_ :: _,[],h,_,_,_=>by simp [CellsK] at h
end
theorem y6j {H:Type} {P:Program}:∀ {ts:List TypeId} {ds:List (DataW H)} {i:Nat} {t:TypeId} {d:DataW H},ts[i]?=some t→ds[i]?=some d→∀ y∈d.weights P t,y∈DataW.weightsEach P ts ds
 | [],_,i,_,_,h,_,_,_=>by simp at h
 | _ :: _,[],i,_,_,_,h,_,_=>by simp at h
 | t0 :: ts,d0 :: ds,0,t,d,h,h',y,hy=>by
  simp only [v0q,v00] at h h';subst h; subst h';simp only [DataW.weightsEach,v0k];exact .inl hy
 | t0 :: ts,d0 :: ds,i+1,t,d,h,h',y,hy=>by
  simp only [DataW.weightsEach,v0k];exact .inr (y6j (by simpa using h) (by simpa using h') y hy)
section
variable {H:Type} {enc:TypeId × Value→H} {P:Program} {w:World} {base:Nat} {sp:Nat→Bool} {held:Bool} {O:Nat→Prop}
end
open Go Go.Proofs Go.RowKit Go.ChangeShapes Go.WideShapes
theorem CellsK.len {w:World} {O:Nat→Prop}:∀ {ks:List Kd} {f:List IV} {cs:List Value},CellsK w O ks f cs→f.length=ks.length
 | [],[],[],_=>rfl
 | _ :: _,_ :: _,_ :: _,h=>by
  simp only [CellsK] at h;simp only [List.length_cons,h.2.len]
 | [],_ :: _,_,h=>by simp [CellsK] at h
 | [],[],_ :: _,h=>by simp [CellsK] at h
 | _ :: _,[],_,h=>by simp [CellsK] at h
 | _ :: _,_ :: _,[],h=>by simp [CellsK] at h
section
variable {H:Type} {enc:TypeId × Value→H} {P:Program} {W:World} {base b0:Nat} {sp:Nat→Bool} {held:Bool}
theorem zl8 (hl:laidOutB P=true) {W':World} (hb:Below W.heap.size W W'):∀ {ts:List TypeId} {vs:List Value} {ds:List (DataW H)} {ps:List MemPlace},DataW.TrodAll enc P W 0 (fun _=>true) true ts vs ds ps →
  (∀ t∈ts,P.readableRec t=true∧t < P.types.size)→(∀ x∈ps,x.block < W.heap.size)→DataW.TrodAll enc P W' 0 (fun b=>decide (b < W.heap.size)) true ts vs ds ps
 | [],vs,ds,ps,h,_,_=>by
  obtain ⟨rfl,rfl,rfl⟩:=trodAll_nil h
  rfl
 | t :: ts,vs,ds,ps,h,ht,hp=>by
  obtain ⟨v,vs1,d,ds1,a,b,rfl,rfl,rfl,h1,h2⟩:=trodAll_cons h;have hh:=ht t (List.mem_cons_self ..);exact ⟨a,b,Below.trod hl hh.1 hh.2 h1 hb (fun x hx=>hp x (List.mem_append.2 (.inl hx))),zl8 hl hb h2 (fun t' h'=>ht t' (List.mem_cons_of_mem _ h')) (fun x hx=>hp x (List.mem_append.2 (.inr hx))),rfl⟩
end
theorem yap:ownKnob Tryz.prog.godebug=none:=by kernel_rfl
theorem zqm:laidOutB Tryz.prog=true:=by kernel_rfl
theorem y7y {os:Os} (started:os.Started) {H:Type} {enc:TypeId × Value→H} {spec:ChangeSpec} {f:Nat} {fn:Func} {sp:z0n} {laid:List (String × DataW Unit)} (hS:z2u PR B0 f sp) (hf:Tryz.prog.funcs[f]?=some fn)
  (hn:(fn.name == "runtime.NumGoroutine")=false) (hb:fn.body.isNone=false) (hini:Tryz.prog.inits.idxOf? f=none) (hres:fn.resultTypes = #[4]) (hvars:spec.vars=[])
  (hspec:∀ (ds:List (DataW H)),ds.length=fn.params.toList.length→spec.fn H ds={ results:=[.lit (.bool true)],args:=ds })
  (hpar:fn.params.toList.all (fun t=>Tryz.prog.readableRec t&&decide (t < Tryz.prog.types.size))=true)
  (hglob:∀ W:World,laidMetH Tryz.prog laid W→W.ShapedOpen Tryz.prog→Glob B0 W)
  (witness:∃ (w:World) (tape:Tape) (i:Input),w.os=os∧(w.forCall tape i).Shaped Tryz.prog∧i.vars=[]∧Input.okWide Tryz.prog (w.forCall tape i) .any w.heap.size f i ∧
   (OpenSpec.ofChange spec).preRow enc Tryz.prog fn [] false laid (w.forCall tape i).memory i.args∧({}:Assume).holds Tryz.prog (lone (Frame.enter Tryz.prog f i.args .normal) [] (w.forCall tape i)))
  (harg:∀ (W:World) (base:Nat) (vs:List Value) (ds:List (DataW H)) (p:List MemPlace),DataW.TrodAll enc Tryz.prog W 0 (fun _=>true) true fn.params.toList vs ds p →
   (∀ (j:Nat) t v,fn.params.toList[j]?=some t→vs[j]?=some v→Value.okWide Tryz.prog W .any base t v) →
   (∀ (j:Nat) t d,fn.params.toList[j]?=some t→ds[j]?=some d→∀ y∈d.weights Tryz.prog t,y≤reachBytes) →
   ∃ l:List V,(sp l).get=some (.bool true,[])∧z6a l=none∧VRels γ0 [] W O0 (l.map z8p) vs) :
  ReturnsInHanded {} Tryz.checked os f .any ((OpenSpec.ofChange spec).preRow enc Tryz.prog fn [] false laid) (spec.post enc Tryz.prog fn false true false false):=by
 refine returnsInHanded_of_row (C:=Tryz.checked) (s:=OpenSpec.ofChange spec) (F:=fun _ _ _=>0) yap started hini hf witness ?_
 intro W base args ds gs before hval hW _ _ hwt hL hsh _;have hW':=hW;obtain ⟨p,q,hA,hV,rfl,_,_⟩:=hW;have hvars':(OpenSpec.ofChange spec).vars=[]:=hvars;rw [hvars'] at hV;obtain ⟨rfl,rfl⟩:=trodVars_none hV;have hlen:ds.length=fn.params.toList.length:=by
  have:∀ {ts:List TypeId} {vs:List Value} {ds:List (DataW H)} {ps:List MemPlace},DataW.TrodAll enc Tryz.prog W 0 (fun _=>true) true ts vs ds ps→ds.length=ts.length:=by
   intro ts
   induction ts with
   | nil=>intro vs ds ps h; obtain ⟨_,rfl,_⟩:=trodAll_nil h; rfl
   | cons t ts ih=>
    intro vs ds ps h;obtain ⟨v,vs1,d,ds1,a,b,rfl,rfl,rfl,h1,h2⟩:=trodAll_cons h;simp only [List.length_cons,ih h2]
  exact this hA
 simp only [List.append_nil] at hW' hwt;obtain ⟨l,hl,hbor,hrel⟩:=harg W base args.toList ds p hA (fun j t v h1 h2=>hval j t v (by simpa using h1) (by simpa using h2)) (fun j t d h1 h2 y hy=>by
  have hm:=y6j (P:=Tryz.prog) (ts:=fn.params.toList++(OpenSpec.ofChange spec).bare.plain.varTypes Tryz.prog) (ds:=ds) (i:=j) (t:=t) (d:=d) (by
   rw [List.getElem?_append_left (by rw [← hlen]; exact (List.getElem?_eq_some_iff.1 h2).1)]
   exact h1) h2 y hy
  have:=List.all_eq_true.1 hwt y hm
  simpa using this)
 have hc:=y8c hS hf hn hb hl hbor (hglob W hL hsh) hrel;have ea:args.toList.toArray=args:=by simp
 rw [ea] at hc;refine hc.mono ?_
 rintro e W' ⟨rfl,bel⟩
 have hfn:spec.fn H (ds++[])={ results:=[.lit (.bool true)],args:=ds }:=by rw [List.append_nil]; exact hspec ds hlen
 have hlt:∀ x∈p,x.block < W.heap.size:=fun x hx=>hW'.lt x hx
 have post:spec.post enc Tryz.prog fn false true false false W args (.bool true) W':=by
  refine ⟨ds,[],p,[],p,[],hW',?_,?_,?_,bel.frame _,fun h=>by cases h⟩
  ·rw [hfn,hres]
   exact trodAll_mk1 (shut_bool Tryz.underlying4 _)
  ·rw [hfn]
   exact zl8 zqm bel hA (fun t ht=>by
    have:=List.all_eq_true.1 hpar t ht
    simpa using this) hlt
  ·rw [hvars,hfn]
   rfl
 exact ⟨_,rfl,post⟩
end Go.FM
namespace Go.Proofs.YtehhekmihbaghaaGreatDoor
open Go Go.ChangeShapes Go.WideShapes Go.ChangeAt Go.RowKit Go.FM
theorem yap:ownKnob Tryz.prog.godebug=none:=by kernel_rfl
theorem zqm:laidOutB Tryz.prog=true:=by kernel_rfl
abbrev zk1:List (String × DataW Unit):=Rows.topLinesRow.laid
noncomputable def y01 (os:Os):World:=
 let w0:=World.doorLaid Tryz.prog 72 os
 { w0 with heap:=w0.heap.modify 4 fun
  | .cells _ t frozen=>.cells (Lib.firstTab.map fun z=>Value.int .u8 z).toArray t frozen
  | o=>o }
theorem yei (os:Os) (args:Array Value):laidMetH Tryz.prog zk1 ((y01 os).forCall (fun _ _=>0) ⟨#[],args,[]⟩).memory:=
 laidMetH_of_parts3 (fuel:=8) (laidMet_of_run' 8 (by kernel_rfl) (by kernel_rfl)) (by kernel_rfl) (by kernel_rfl)
theorem yb7 {W:World} (hL:laidMetH Tryz.prog zk1 W) (hsh:W.ShapedOpen Tryz.prog):Glob B0 W:=by
 have hL':laidMet Tryz.prog zk1 W:=by
  rw [MakeChecks.laidMetH_plain _ _ _ (by kernel_rfl)] at hL
  exact hL
 exact ye6 hL' hsh (n1 := "*errors.errorString") (n2 := "*errors.errorString") (.tail _ (.tail _ (.head _))) (.tail _ (.tail _ (.tail _ (.tail _ (.head _))))) (.tail _ (.tail _ (.tail _ (.tail _ (.tail _ (.head _))))))
end Go.Proofs.YtehhekmihbaghaaGreatDoor
