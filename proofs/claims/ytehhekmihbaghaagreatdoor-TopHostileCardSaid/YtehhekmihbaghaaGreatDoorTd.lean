/-
  A small machine that reads a function of the program and reckons what a call of it comes to; what Go's library on the road comes to; the functions of the program, one by one. No conditions beyond each specification's own. (ask's FUNCTIONS COME TO WHAT IS SAID (2): Print., NORMAL FORMS: what the functions' runs come to (written by a, ask's FUNCTIONS COME TO WHAT IS SAID (3): Parse., and so on.)
-/
import Derived.Test.YtehhekmihbaghaaGreatDoorTc
import Derived.Test.YtehhekmihbaghaaGreatDoorTb
import Derived.Lib.AppendIntMem
import Derived.Deep.LoopGhost
import Derived.Lib.Walk
import Derived.Lib.SliceRun
set_option linter.all false
set_option maxRecDepth 100000
namespace Go.FM
open Go Go.Proofs
abbrev yuj (q:Qy):Ob:=.box [.int .i64 q.k,.int .i64 q.c,.int .i64 q.a0,.int .i64 q.b0,.int .i64 q.a1,.int .i64 q.b1,.int .i64 q.a2,.int .i64 q.b2,.int .i64 q.a3,.int .i64 q.b3,.int .i64 q.a4,.int .i64 q.b4,.int .i64 q.lo,.int .i64 q.hi,.int .i64 q.ft,.bool q.fl,.int .i64 q.bu]
abbrev stP (q:Qy) (s4:ByteArray) (W:List IV) (D:Nat) (i:Int):St:=⟨[(2,(.ptr 2 0 0)),(4,(.str s4)),(6,(.row 500 0 W.length)),(75,(.bview 2 2 5 2 D)),(76,(.int .i64 (ic D))),(77,(.int .i64 i))],[(2,(some (yuj q))),(500,(some (.row true 9 false [.str] W)))]⟩
theorem y9m (N:Nat):TI.bytes (Env.tyd (z10 N) 9)=16:=by rfl
theorem yh5 (N:Nat) (q:Qy) (hq:q.In) (s4:ByteArray) (W:List IV) (hW:W.length≤20) (hs:∀ w∈W,w.toStr.size≤100) (D:Nat) (i:Int) :
  (z05 1 (kSq (z10 N) (z0f z3b [1,1,1,1,1,1,1]) (z2s (z10 N) none [(ResultVar.tmp 4)] [[.str]]))) (.exit 1) (stP q s4 W D i)=some (.str (zcb (W.map IV.toStr++[zhp,z0n q.bu]) z5a),[]):=by
 refine (zv1 N s4 W.length D (ic D) i q.k q.c q.a0 q.b0 q.a1 q.b1 q.a2 q.b2 q.a3 q.b3 q.a4 q.b4 q.lo q.hi q.ft q.fl q.bu W).trans ?_;have e2:(List.drop 0 (List.take 2 [IV.str { data:=#[98,117,100,103,101,116] },IV.str (z0n q.bu)]))=[IV.str { data:=#[98,117,100,103,101,116] },IV.str (z0n q.bu)]:=rfl;rw [y9m,e2,v0q];have e3:List.drop 0 (List.take (W.length+List.length [IV.str { data:=#[98,117,100,103,101,116] },IV.str (z0n q.bu)]) (W++[IV.str { data:=#[98,117,100,103,101,116] },IV.str (z0n q.bu)]))=W++[IV.str { data:=#[98,117,100,103,101,116] },IV.str (z0n q.bu)]:=by
  rw [v0z,v13 (by simp)]
 rw [e3];have e4:List.map IV.toStr (W++[IV.str { data:=#[98,117,100,103,101,116] },IV.str (z0n q.bu)])=W.map IV.toStr++[zhp,z0n q.bu]:=by simp [IV.toStr]
 rw [e4];have hz:=ymo (W.map IV.toStr++[zhp,z0n q.bu]) (fun w hw=>by
  rcases v0o.1 hw with h | h
  ·obtain ⟨x,hx,rfl⟩:=List.mem_map.1 h
   exact hs x hx
  ·simp only [v17,v1w,v3f] at h
   rcases h with rfl | rfl
   ·decide
   ·have:=yf0 hq.bu
    omega)
 simp only [v08,v14,v03,v0i] at hz ⊢
 rw [v01 (show (W.length+(0+1+1))*16≤z08 by unfold z08; omega),z00,v01 (show W.length+(0+1+1)≤strMax by unfold strMax; omega),
  v01 (show ByteArray.size (zcb (W.map IV.toStr++[zhp,z0n q.bu]) { data:=#[32] })≤strMax from v1n hz (by unfold strMax; omega)),v1d,z00]
def yu4 (a b:Int):IV:=.str (ygv a b)
theorem yce (N:Nat) (q:Qy) (s4:ByteArray) (W:List IV) (hW:W.length≤20) (D i:Nat) (hiD:i < D) (a b:Int) (again:St→Res) (k:Out→St→Res) (ha:InR a) (hb:InR b)
  (hab:(i=0∧a=q.a0∧b=q.b0)∨(i=1∧a=q.a1∧b=q.b1)∨(i=2∧a=q.a2∧b=q.b2)∨(i=3∧a=q.a3∧b=q.b3)) :
  rnd (z10 N) (z0f z3b [1,1,1,1,1,1,0,1,0,0]) (stP q s4 W D (i:Int)) (z3t again ⟨[2,4,6,75,76,77],[2,500],[⟨.tmp 6,500,9,false,[.str]⟩]⟩ k)=again (stP q s4 (W++[yu4 a b]) D ((i+1:Nat):Int)):=by
 refine (zn3 N s4 W.length D (ic D) i q.k q.c q.a0 q.b0 q.a1 q.b1 q.a2 q.b2 q.a3 q.b3 q.a4 q.b4 q.lo q.hi q.ft q.fl q.bu W again k).trans ?_;have d1:decide ((i:Int) < ic D)=true:=v01 (by simp only [ic]; omega)
 rw [d1,z00,z00];have h3:ByteArray.size { data:=#[46,46] }=2:=rfl;have sz:∀ x y:Int,InR x→InR y→decide (ByteArray.size (z0i x)+ByteArray.size { data:=#[46,46] }≤strMax)=true∧decide (ByteArray.size (z0i x++{ data:=#[46,46] })+ByteArray.size (z0i y)≤strMax)=true:=fun x y hx hy=>by
  have h1:=(zh8 x hx).2;have h2:=(zh8 y hy).2;refine ⟨v01 (by rw [h3]; unfold strMax; omega),v01 (by rw [v0f,h3]; unfold strMax; omega)⟩
 have e1:∀ x:IV,(List.drop 0 (List.take 1 [x]))=[x]:=fun _=>rfl
 have g16:∀ x:IV,decide ((W.length+List.length [x])*TI.bytes (Env.tyd (z10 N) 9)≤z08)=true:=fun x=>v01 (by rw [y9m]; simp only [v03,v0i]; unfold z08; omega)
 have hl:∀ x:IV,W.length+List.length [x]=(W++[x]).length:=fun x=>by simp
 obtain ⟨s1,s2⟩:=sz a b ha hb;simp only [e1,g16,z00,v0q];rcases hab with ⟨rfl,rfl,rfl⟩ | ⟨rfl,rfl,rfl⟩ | ⟨rfl,rfl,rfl⟩ | ⟨rfl,rfl,rfl⟩
 ·rw [s1,s2,show decide (((0:Nat):Int)=ic 0)=true from rfl,z00,z00,z00,hl]
  rfl
 ·rw [s1,s2,show decide (((1:Nat):Int)=ic 0)=false from rfl,show decide (((1:Nat):Int)=ic 1)=true from rfl,z01,z00,z00,z00,hl]
  rfl
 ·rw [s1,s2,show decide (((2:Nat):Int)=ic 0)=false from rfl,show decide (((2:Nat):Int)=ic 1)=false from rfl,show decide (((2:Nat):Int)=ic 2)=true from rfl,z01,z01,z00,z00,z00,hl]
  rfl
 ·rw [s1,s2,show decide (((3:Nat):Int)=ic 0)=false from rfl,show decide (((3:Nat):Int)=ic 1)=false from rfl,show decide (((3:Nat):Int)=ic 2)=false from rfl,show decide (((3:Nat):Int)=ic 3)=true from rfl,z01,z01,z01,z00,z00,z00,hl]
  rfl
theorem y8u (N:Nat) (q:Qy) (hq:q.In) (s4:ByteArray) (D:Nat) (hD:D≤4) :
  ∀ (d i n:Nat) (W:List IV),i+d=D→d < n→W.length+d≤20→(∀ w∈W,w.toStr.size≤100) →
   lpE (z10 N) (z0f z3b [1,1,1,1,1,1,0,1,0,0]) ⟨[2,4,6,75,76,77],[2,500],[⟨.tmp 6,500,9,false,[.str]⟩]⟩ n (stP q s4 W D (i:Int)) (z05 1 (kSq (z10 N) (z0f z3b [1,1,1,1,1,1,1]) (z2s (z10 N) none [(ResultVar.tmp 4)] [[.str]]))) =
    some (.str (zcb (W.map IV.toStr++(((q.spans.take D).drop i).map fun s=>ygv s.1 s.2)++[zhp,z0n q.bu]) z5a),[])
 | 0,i,n+1,W,hd,hn,hW,hs=>by
  have hi:i=D:=by omega
  rw [z06];refine (zn3 N s4 W.length D (ic D) i q.k q.c q.a0 q.b0 q.a1 q.b1 q.a2 q.b2 q.a3 q.b3 q.a4 q.b4 q.lo q.hi q.ft q.fl q.bu W _ _).trans ?_;rw [v05 (show ¬ (i:Int) < ic D by simp only [ic]; omega),z01]
  refine (yh5 N q hq s4 W (by omega) hs D i).trans ?_
  rw [v1i (by rw [v0l]; omega)]
  simp
 | d+1,i,n+1,W,hd,hn,hW,hs=>by
  obtain ⟨a,b,ha,hb,hab,hsp⟩:∃ a b,InR a∧InR b∧((i=0∧a=q.a0∧b=q.b0)∨(i=1∧a=q.a1∧b=q.b1)∨(i=2∧a=q.a2∧b=q.b2)∨(i=3∧a=q.a3∧b=q.b3))∧(q.spans.take D).drop i=(a,b) :: (q.spans.take D).drop (i+1):=by
   have hi:i=0∨i=1∨i=2∨i=3:=by omega
   have hDD:D=0∨D=1∨D=2∨D=3∨D=4:=by omega
   rcases hi with rfl | rfl | rfl | rfl
   ·exact ⟨q.a0,q.b0,hq.a0,hq.b0,.inl ⟨rfl,rfl,rfl⟩,by rcases hDD with rfl | rfl | rfl | rfl | rfl <;> first | rfl | omega⟩
   ·exact ⟨q.a1,q.b1,hq.a1,hq.b1,.inr (.inl ⟨rfl,rfl,rfl⟩),by rcases hDD with rfl | rfl | rfl | rfl | rfl <;> first | rfl | omega⟩
   ·exact ⟨q.a2,q.b2,hq.a2,hq.b2,.inr (.inr (.inl ⟨rfl,rfl,rfl⟩)),by rcases hDD with rfl | rfl | rfl | rfl | rfl <;> first | rfl | omega⟩
   ·exact ⟨q.a3,q.b3,hq.a3,hq.b3,.inr (.inr (.inr ⟨rfl,rfl,rfl⟩)),by rcases hDD with rfl | rfl | rfl | rfl | rfl <;> first | rfl | omega⟩
  rw [z06,yce N q s4 W (by omega) D i (by omega) a b _ _ ha hb hab,hsp]
  have ih:=y8u N q hq s4 D hD d (i+1) n (W++[yu4 a b]) (by omega) (by omega) (by simp only [v08,v03,v0i]; omega) (fun w hw=>by
   rcases v0o.1 hw with h | h
   ·exact hs w h
   ·rw [v1v] at h
    subst h
    have:=yiv ha hb
    simp only [yu4,IV.toStr];omega)
  refine ih.trans ?_;simp [yu4,IV.toStr]
 | _,_,0,_,_,h,_,_=>by omega
theorem y4z:z32 PR B0 18 zfz:=by
 refine z0h [(42,zf2),(41,zhc),(44,z7y),(43,z2y),(45,z8l)] [(18,⟨[2,4,6,75,76,77],[2,500],[⟨.tmp 6,500,9,false,[.str]⟩]⟩)] zfz [[.str]] Tryz.func18 yda
  ⟨y3p,y75,zie,z8e,zj0,trivial⟩ ?_
 intro vs r hwf h;unfold zfz at h
 split at h
 ·rename_i k c a0 b0 a1 b1 a2 b2 a3 b3 a4 b4 lo hi ft fl bu d
  refine ⟨20,?_⟩;rw [R.get_ok] at h;rw [← h];refine (y8h 20 k c a0 b0 a1 b1 a2 b2 a3 b3 a4 b4 lo hi ft fl bu d).trans ?_;have hb:=hwf (by simp [zfa])
  have hq:Qy.In ⟨k,c,a0,b0,a1,b1,a2,b2,a3,b3,a4,b4,lo,hi,ft,fl,bu⟩:=by
   have:=hb.1
   simp only [wfV,wfLs,wfL,v1c,v45] at this;obtain ⟨h1,h2,h3,h4,h5,h6,h7,h8,h9,h10,h11,h12,h13,h14,h15,h16⟩:=this;exact ⟨h1,h2,h3,h4,h5,h6,h7,h8,h9,h10,h11,h12,h13,h14,h15,h16⟩
  show cond (decide (d < 1)) _ (cond (decide (d > 4)) _ (cond _ (cond (!(Qy.eq ⟨k,c,a0,b0,a1,b1,a2,b2,a3,b3,a4,b4,lo,hi,ft,fl,bu⟩ (zj2 ⟨k,c,a0,b0,a1,b1,a2,b2,a3,b3,a4,b4,lo,hi,ft,fl,bu⟩ d))) _ _) _))=_;generalize hQ:(⟨k,c,a0,b0,a1,b1,a2,b2,a3,b3,a4,b4,lo,hi,ft,fl,bu⟩:Qy)=q at hq ⊢
  unfold y7j okQ;cases h1:decide (d < 1) with
  | true=>simp only [z00,z01,v0e,v0u]
  | false=>
   cases h4:decide (d > 4) with
   | true=>simp only [z00,z01,v0e,v0j,v0u,v2o]
   | false=>
    have h1:=v0r h1;have h4:=v0r h4;rw [v01 (show 0≤d by omega),v01 (show d≤5 by omega),v01 (show d≤ic 5 by simp only [ic]; omega)]
    simp only [v1d,z00,z01,v0j,v0k];cases he:q.eq (zj2 q d) with
    | false=>simp only [v0j,z00,z01,v0u]
    | true=>
     have ec:q.c=c:=by rw [← hQ]
     have ef:q.ft=ft:=by rw [← hQ]
     have eb:q.bu=bu:=by rw [← hQ]
     have ek:q.k=k:=by rw [← hQ]
     rw [ec,ef,eb,ek];cases hc:zk6 c with
     | false=>simp only [v0e,v0j,z00,z01,v0u,v0k]
     | true=>
      cases hf:zk6 ft with
      | false=>simp only [v0e,v0j,z00,z01,v0u,v0k]
      | true=>
       cases hbu:zk6 bu with
       | false=>simp only [v0e,v0j,z00,z01,v0u,v0k]
       | true=>
        simp only [v0e,z01,v0k];have hDn:d.toNat≤4:=by omega
        have run:=fun (W:List IV) (hW:W.length≤16) (hs:∀ w∈W,w.toStr.size≤100)=>y8u 20 q hq ⟨#[]⟩ d.toNat hDn d.toNat 0 20 W (by omega) (by omega) (by omega) hs
        have zi:∀ {n:Int},InR n→(z0n n).size≤100:=fun h=>by have:=yf0 h; omega
        have zp:∀ {n:Int},InR n→(z0i n).size≤100:=fun h=>by have:=(zh8 _ h).2; omega
        have fin:∀ (W:List IV) (l:List ByteArray),W.map IV.toStr=l++[ypg]→yi4 q=l→zcb (W.map IV.toStr++(((q.spans.take d.toNat).drop 0).map fun s=>ygv s.1 s.2)++[zhp,z0n q.bu]) z5a=zcb (ymf q d.toNat) z5a:=fun W l hWl hl=>by
         unfold ymf;rw [hWl,hl,v0z];simp
        subst hQ;cases k1:(k==1) with
        | true=>
         simp only [z00,v4a];refine (run [IV.str zqp,IV.str (z0n c),IV.str ymw,IV.str (z0i lo),IV.str yug,IV.str (z0i hi),IV.str ypg] (by simp) (fun w hw=>?_)).trans ?_
         ·simp only [v17,v1w,v3f] at hw
          rcases hw with rfl | rfl | rfl | rfl | rfl | rfl | rfl
          ·decide
          ·exact zi hq.c
          ·decide
          ·exact zp hq.lo
          ·decide
          ·exact zp hq.hi
          ·decide
         ·rw [fin _ [zqp,z0n c,ymw,z0i lo,yug,z0i hi] rfl (by unfold yi4; simp only [k1,z00])]
        | false=>
         simp only [z01,v2t];cases k2:(k==2) with
         | true=>
          simp only [z00,v4a];refine (run [IV.str y33,IV.str (z0n c),IV.str ypg] (by simp) (fun w hw=>?_)).trans ?_
          ·simp only [v17,v1w,v3f] at hw
           rcases hw with rfl | rfl | rfl
           ·decide
           ·exact zi hq.c
           ·decide
          ·rw [fin _ [y33,z0n c] rfl (by unfold yi4; simp only [k1,k2,z00,z01])]
         | false=>
          simp only [z01,v2t];cases k3:(k==3) with
          | false=>simp only [z01]
          | true=>
           simp only [z00];cases fl with
           | true=>
            simp only [z00];refine (run [IV.str znr,IV.str (z0n c),IV.str ysx,IV.str (z0n ft),IV.str ypg] (by simp) (fun w hw=>?_)).trans ?_
            ·simp only [v17,v1w,v3f] at hw
             rcases hw with rfl | rfl | rfl | rfl | rfl
             ·decide
             ·exact zi hq.c
             ·decide
             ·exact zi hq.ft
             ·decide
            ·rw [fin _ [znr,z0n c,ysx,z0n ft] rfl (by unfold yi4; simp only [k1,k2,z00,z01])]
           | false=>
            simp only [z01];refine (run [IV.str zr2,IV.str (z0n c),IV.str ysx,IV.str (z0n ft),IV.str ypg] (by simp) (fun w hw=>?_)).trans ?_
            ·simp only [v17,v1w,v3f] at hw
             rcases hw with rfl | rfl | rfl | rfl | rfl
             ·decide
             ·exact zi hq.c
             ·decide
             ·exact zi hq.ft
             ·decide
            ·rw [fin _ [zr2,z0n c,ysx,z0n ft] rfl (by unfold yi4; simp only [k1,k2,z01])]
 ·simp [R.get] at h
open Go Go.Proofs
def z68 (N:Nat):Env:=mkE [(18,zfz),(121,zb4),(119,zhh),(120,zcu),(118,z2w),(104,z6g),(46,z1t)] [(9,⟨[0,2,3,4,5,7,8,9,45,46,47],[2,9],[]⟩)] 82 N
abbrev z5g (s0:ByteArray) (x3:Int) (b4:Bool) (l5:List IV) (x7 x8:Int) (l45:List IV) (x46 x47 u02 u03 u0a u0b u0c u0d u0e u0f u0g u0h u04 u05 u06 u07 u08:Int) (u00:Bool) (u09 u0i u0j u0q u0r u0s u0t u0u u0v u0w u0x u0k u0l u0m u0n u0o:Int) (u01:Bool) (u0p:Int):St:=⟨[(0,(.str s0)),(2,(.ptr 2 0 0)),(3,(.i x3)),(4,(.bool b4)),(5,(.list false [.str] l5)),(7,(.i x7)),(8,(.i x8)),(9,(.ptr 9 0 0)),(45,(.list false [.str] l45)),(46,(.i x46)),(47,(.i x47))],[(2,(some (.box [(.i u02),(.i u03),(.i u0a),(.i u0b),(.i u0c),(.i u0d),(.i u0e),(.i u0f),(.i u0g),(.i u0h),(.i u04),(.i u05),(.i u06),(.i u07),(.i u08),(.bool u00),(.i u09)]))),(9,(some (.box [(.i u0i),(.i u0j),(.i u0q),(.i u0r),(.i u0s),(.i u0t),(.i u0u),(.i u0v),(.i u0w),(.i u0x),(.i u0k),(.i u0l),(.i u0m),(.i u0n),(.i u0o),(.bool u01),(.i u0p)])))]⟩
theorem y8j (N:Nat) (s:ByteArray):z0z (z68 N) z81 [.cell 2 38,.tmp 3,.tmp 4] [[.int .i64,.int .i64,.int .i64,.int .i64,.int .i64,.int .i64,.int .i64,.int .i64,.int .i64,.int .i64,.int .i64,.int .i64,.int .i64,.int .i64,.int .i64,.bool,.int .i64],[.int .i64],[.bool]] [(.str s)]=(cond (decide (ByteArray.size s < 4294967281)&&decide (1≤ByteArray.size {data:=#[32]})) (cond (decide (zhq (List.map IV.str (z0d s {data:=#[32]})) {data:=#[105,110]} 0 < 0)) (some ((.tup [(.agg [(.i 0),(.i 0),(.i 0),(.i 0),(.i 0),(.i 0),(.i 0),(.i 0),(.i 0),(.i 0),(.i 0),(.i 0),(.i 0),(.i 0),(.i 0),(.bool false),(.i 0)]),(.i 0),(.bool false)]),[])) (cond (decide (IntKind.wrap IntKind.i64 (IntKind.wrap IntKind.i64 (IntKind.wrap IntKind.i64 (ic (List.length (List.map IV.str (z0d s {data:=#[32]}))) - 2) - zhq (List.map IV.str (z0d s {data:=#[32]})) {data:=#[105,110]} 0) - 1) < 1)) (some ((.tup [(.agg [(.i 0),(.i 0),(.i 0),(.i 0),(.i 0),(.i 0),(.i 0),(.i 0),(.i 0),(.i 0),(.i 0),(.i 0),(.i 0),(.i 0),(.i 0),(.bool false),(.i 0)]),(.i 0),(.bool false)]),[])) (cond (decide (IntKind.wrap IntKind.i64 (IntKind.wrap IntKind.i64 (IntKind.wrap IntKind.i64 (ic (List.length (List.map IV.str (z0d s {data:=#[32]}))) - 2) - zhq (List.map IV.str (z0d s {data:=#[32]})) {data:=#[105,110]} 0) - 1) > 4)) (some ((.tup [(.agg [(.i 0),(.i 0),(.i 0),(.i 0),(.i 0),(.i 0),(.i 0),(.i 0),(.i 0),(.i 0),(.i 0),(.i 0),(.i 0),(.i 0),(.i 0),(.bool false),(.i 0)]),(.i 0),(.bool false)]),[])) (cond (decide (0≤zhq (List.map IV.str (z0d s {data:=#[32]})) {data:=#[105,110]} 0)&&decide (zhq (List.map IV.str (z0d s {data:=#[32]})) {data:=#[105,110]} 0≤ic (List.length (List.map IV.str (z0d s {data:=#[32]}))))) (cond (decide (List.length (List.drop 0 (List.take (Int.toNat (zhq (List.map IV.str (z0d s {data:=#[32]})) {data:=#[105,110]} 0)) (List.map IV.str (z0d s {data:=#[32]}))))≤4294967290)&&List.all (List.drop 0 (List.take (Int.toNat (zhq (List.map IV.str (z0d s {data:=#[32]})) {data:=#[105,110]} 0)) (List.map IV.str (z0d s {data:=#[32]})))) fun x=>decide (ByteArray.size (IV.toStr x) < 4294967281)) (cond (decide (0≤IntKind.wrap IntKind.i64 (zhq (List.map IV.str (z0d s {data:=#[32]})) {data:=#[105,110]} 0+1))&&(decide (IntKind.wrap IntKind.i64 (zhq (List.map IV.str (z0d s {data:=#[32]})) {data:=#[105,110]} 0+1)≤IntKind.wrap IntKind.i64 (ic (List.length (List.map IV.str (z0d s {data:=#[32]}))) - 2))&&decide (IntKind.wrap IntKind.i64 (ic (List.length (List.map IV.str (z0d s {data:=#[32]}))) - 2)≤ic (List.length (List.map IV.str (z0d s {data:=#[32]})))))) (lpE (z68 N) (z0f z81 [1,1,1,1,1,1,1,0,1,0,0]) ⟨[0,2,3,4,5,7,8,9,45,46,47],[2,9],[]⟩ N (z5g s 0 false (List.map IV.str (z0d s {data:=#[32]})) (IntKind.wrap IntKind.i64 (ic (List.length (List.map IV.str (z0d s {data:=#[32]}))) - 2)) (IntKind.wrap IntKind.i64 (IntKind.wrap IntKind.i64 (IntKind.wrap IntKind.i64 (ic (List.length (List.map IV.str (z0d s {data:=#[32]}))) - 2) - zhq (List.map IV.str (z0d s {data:=#[32]})) {data:=#[105,110]} 0) - 1)) (List.drop (Int.toNat (IntKind.wrap IntKind.i64 (zhq (List.map IV.str (z0d s {data:=#[32]})) {data:=#[105,110]} 0+1))) (List.take (Int.toNat (IntKind.wrap IntKind.i64 (ic (List.length (List.map IV.str (z0d s {data:=#[32]}))) - 2))) (List.map IV.str (z0d s {data:=#[32]})))) (ic (List.length (List.drop (Int.toNat (IntKind.wrap IntKind.i64 (zhq (List.map IV.str (z0d s {data:=#[32]})) {data:=#[105,110]} 0+1))) (List.take (Int.toNat (IntKind.wrap IntKind.i64 (ic (List.length (List.map IV.str (z0d s {data:=#[32]}))) - 2))) (List.map IV.str (z0d s {data:=#[32]})))))) 0 0 0 0 0 0 0 0 0 0 0 0 0 0 0 0 false 0 (Qy.k (z3v (List.drop 0 (List.take (Int.toNat (zhq (List.map IV.str (z0d s {data:=#[32]})) {data:=#[105,110]} 0)) (List.map IV.str (z0d s {data:=#[32]})))))) (Qy.c (z3v (List.drop 0 (List.take (Int.toNat (zhq (List.map IV.str (z0d s {data:=#[32]})) {data:=#[105,110]} 0)) (List.map IV.str (z0d s {data:=#[32]})))))) (Qy.a0 (z3v (List.drop 0 (List.take (Int.toNat (zhq (List.map IV.str (z0d s {data:=#[32]})) {data:=#[105,110]} 0)) (List.map IV.str (z0d s {data:=#[32]})))))) (Qy.b0 (z3v (List.drop 0 (List.take (Int.toNat (zhq (List.map IV.str (z0d s {data:=#[32]})) {data:=#[105,110]} 0)) (List.map IV.str (z0d s {data:=#[32]})))))) (Qy.a1 (z3v (List.drop 0 (List.take (Int.toNat (zhq (List.map IV.str (z0d s {data:=#[32]})) {data:=#[105,110]} 0)) (List.map IV.str (z0d s {data:=#[32]})))))) (Qy.b1 (z3v (List.drop 0 (List.take (Int.toNat (zhq (List.map IV.str (z0d s {data:=#[32]})) {data:=#[105,110]} 0)) (List.map IV.str (z0d s {data:=#[32]})))))) (Qy.a2 (z3v (List.drop 0 (List.take (Int.toNat (zhq (List.map IV.str (z0d s {data:=#[32]})) {data:=#[105,110]} 0)) (List.map IV.str (z0d s {data:=#[32]})))))) (Qy.b2 (z3v (List.drop 0 (List.take (Int.toNat (zhq (List.map IV.str (z0d s {data:=#[32]})) {data:=#[105,110]} 0)) (List.map IV.str (z0d s {data:=#[32]})))))) (Qy.a3 (z3v (List.drop 0 (List.take (Int.toNat (zhq (List.map IV.str (z0d s {data:=#[32]})) {data:=#[105,110]} 0)) (List.map IV.str (z0d s {data:=#[32]})))))) (Qy.b3 (z3v (List.drop 0 (List.take (Int.toNat (zhq (List.map IV.str (z0d s {data:=#[32]})) {data:=#[105,110]} 0)) (List.map IV.str (z0d s {data:=#[32]})))))) (Qy.a4 (z3v (List.drop 0 (List.take (Int.toNat (zhq (List.map IV.str (z0d s {data:=#[32]})) {data:=#[105,110]} 0)) (List.map IV.str (z0d s {data:=#[32]})))))) (Qy.b4 (z3v (List.drop 0 (List.take (Int.toNat (zhq (List.map IV.str (z0d s {data:=#[32]})) {data:=#[105,110]} 0)) (List.map IV.str (z0d s {data:=#[32]})))))) (Qy.lo (z3v (List.drop 0 (List.take (Int.toNat (zhq (List.map IV.str (z0d s {data:=#[32]})) {data:=#[105,110]} 0)) (List.map IV.str (z0d s {data:=#[32]})))))) (Qy.hi (z3v (List.drop 0 (List.take (Int.toNat (zhq (List.map IV.str (z0d s {data:=#[32]})) {data:=#[105,110]} 0)) (List.map IV.str (z0d s {data:=#[32]})))))) (Qy.ft (z3v (List.drop 0 (List.take (Int.toNat (zhq (List.map IV.str (z0d s {data:=#[32]})) {data:=#[105,110]} 0)) (List.map IV.str (z0d s {data:=#[32]})))))) (Qy.fl (z3v (List.drop 0 (List.take (Int.toNat (zhq (List.map IV.str (z0d s {data:=#[32]})) {data:=#[105,110]} 0)) (List.map IV.str (z0d s {data:=#[32]})))))) (Qy.bu (z3v (List.drop 0 (List.take (Int.toNat (zhq (List.map IV.str (z0d s {data:=#[32]})) {data:=#[105,110]} 0)) (List.map IV.str (z0d s {data:=#[32]}))))))) (z05 0 (kSq (z68 N) (z0f z81 [1,1,1,1,1,1,1,1]) (z2s (z68 N) none [(ResultVar.cell 2 38),(ResultVar.tmp 3),(ResultVar.tmp 4)] [[(.int .i64),(.int .i64),(.int .i64),(.int .i64),(.int .i64),(.int .i64),(.int .i64),(.int .i64),(.int .i64),(.int .i64),(.int .i64),(.int .i64),(.int .i64),(.int .i64),(.int .i64),.bool,(.int .i64)],[(.int .i64)],[.bool]])))) none) none) none)))) none):=by kernel_rfl
theorem zn4 (N:Nat) (s0:ByteArray) (x3:Int) (b4:Bool) (l5:List IV) (x7 x8:Int) (l45:List IV) (x46 x47 u02 u03 u0a u0b u0c u0d u0e u0f u0g u0h u04 u05 u06 u07 u08:Int) (u00:Bool) (u09 u0i u0j u0q u0r u0s u0t u0u u0v u0w u0x u0k u0l u0m u0n u0o:Int) (u01:Bool) (u0p:Int) (again:St→Res) (k:Out→St→Res):rnd (z68 N) (z0f z81 [1,1,1,1,1,1,1,0,1,0,0]) (z5g s0 x3 b4 l5 x7 x8 l45 x46 x47 u02 u03 u0a u0b u0c u0d u0e u0f u0g u0h u04 u05 u06 u07 u08 u00 u09 u0i u0j u0q u0r u0s u0t u0u u0v u0w u0x u0k u0l u0m u0n u0o u01 u0p) (z3t again ⟨[0,2,3,4,5,7,8,9,45,46,47],[2,9],[]⟩ k)=(cond (decide (x47 < x46)) (cond (decide (0≤x47)&&decide (x47 < ic (List.length l45))) (cond (decide (ByteArray.size (IV.toStr (List.getD l45 (Int.toNat x47) default)) < 4294967281)) (cond (decide (ByteArray.size (cutL (IV.toStr (List.getD l45 (Int.toNat x47) default)) {data:=#[46,46]}) < 4294967281)) (cond (decide (ByteArray.size (zgp (IV.toStr (List.getD l45 (Int.toNat x47) default)) {data:=#[46,46]}) < 4294967281)) (cond (decide (x47=ic 0)) (again (z5g s0 x3 b4 l5 x7 x8 l45 x46 (IntKind.wrap IntKind.i64 (x47+1)) u02 u03 u0a u0b u0c u0d u0e u0f u0g u0h u04 u05 u06 u07 u08 u00 u09 u0i u0j (zm5 (cutL (IV.toStr (List.getD l45 (Int.toNat x47) default)) {data:=#[46,46]})) (zm5 (zgp (IV.toStr (List.getD l45 (Int.toNat x47) default)) {data:=#[46,46]})) u0s u0t u0u u0v u0w u0x u0k u0l u0m u0n u0o u01 u0p)) (cond (decide (x47=ic 1)) (again (z5g s0 x3 b4 l5 x7 x8 l45 x46 (IntKind.wrap IntKind.i64 (x47+1)) u02 u03 u0a u0b u0c u0d u0e u0f u0g u0h u04 u05 u06 u07 u08 u00 u09 u0i u0j u0q u0r (zm5 (cutL (IV.toStr (List.getD l45 (Int.toNat x47) default)) {data:=#[46,46]})) (zm5 (zgp (IV.toStr (List.getD l45 (Int.toNat x47) default)) {data:=#[46,46]})) u0u u0v u0w u0x u0k u0l u0m u0n u0o u01 u0p)) (cond (decide (x47=ic 2)) (again (z5g s0 x3 b4 l5 x7 x8 l45 x46 (IntKind.wrap IntKind.i64 (x47+1)) u02 u03 u0a u0b u0c u0d u0e u0f u0g u0h u04 u05 u06 u07 u08 u00 u09 u0i u0j u0q u0r u0s u0t (zm5 (cutL (IV.toStr (List.getD l45 (Int.toNat x47) default)) {data:=#[46,46]})) (zm5 (zgp (IV.toStr (List.getD l45 (Int.toNat x47) default)) {data:=#[46,46]})) u0w u0x u0k u0l u0m u0n u0o u01 u0p)) (cond (decide (x47=ic 3)) (again (z5g s0 x3 b4 l5 x7 x8 l45 x46 (IntKind.wrap IntKind.i64 (x47+1)) u02 u03 u0a u0b u0c u0d u0e u0f u0g u0h u04 u05 u06 u07 u08 u00 u09 u0i u0j u0q u0r u0s u0t u0u u0v (zm5 (cutL (IV.toStr (List.getD l45 (Int.toNat x47) default)) {data:=#[46,46]})) (zm5 (zgp (IV.toStr (List.getD l45 (Int.toNat x47) default)) {data:=#[46,46]})) u0k u0l u0m u0n u0o u01 u0p)) (cond (decide (x47=ic 4)) (again (z5g s0 x3 b4 l5 x7 x8 l45 x46 (IntKind.wrap IntKind.i64 (x47+1)) u02 u03 u0a u0b u0c u0d u0e u0f u0g u0h u04 u05 u06 u07 u08 u00 u09 u0i u0j u0q u0r u0s u0t u0u u0v u0w u0x (zm5 (cutL (IV.toStr (List.getD l45 (Int.toNat x47) default)) {data:=#[46,46]})) (zm5 (zgp (IV.toStr (List.getD l45 (Int.toNat x47) default)) {data:=#[46,46]})) u0m u0n u0o u01 u0p)) none))))) none) none) none) none) (k (.exit 0) (z5g s0 x3 b4 l5 x7 x8 l45 x46 x47 u02 u03 u0a u0b u0c u0d u0e u0f u0g u0h u04 u05 u06 u07 u08 u00 u09 u0i u0j u0q u0r u0s u0t u0u u0v u0w u0x u0k u0l u0m u0n u0o u01 u0p))):=by kernel_rfl
theorem zuf (N:Nat) (s0:ByteArray) (x3:Int) (b4:Bool) (l5:List IV) (x7 x8:Int) (l45:List IV) (x46 x47 u02 u03 u0a u0b u0c u0d u0e u0f u0g u0h u04 u05 u06 u07 u08:Int) (u00:Bool) (u09 u0i u0j u0q u0r u0s u0t u0u u0v u0w u0x u0k u0l u0m u0n u0o:Int) (u01:Bool) (u0p:Int):(z05 0 (kSq (z68 N) (z0f z81 [1,1,1,1,1,1,1,1]) (z2s (z68 N) none [(ResultVar.cell 2 38),(ResultVar.tmp 3),(ResultVar.tmp 4)] [[(.int .i64),(.int .i64),(.int .i64),(.int .i64),(.int .i64),(.int .i64),(.int .i64),(.int .i64),(.int .i64),(.int .i64),(.int .i64),(.int .i64),(.int .i64),(.int .i64),(.int .i64),.bool,(.int .i64)],[(.int .i64)],[.bool]]))) (.exit 0) (z5g s0 x3 b4 l5 x7 x8 l45 x46 x47 u02 u03 u0a u0b u0c u0d u0e u0f u0g u0h u04 u05 u06 u07 u08 u00 u09 u0i u0j u0q u0r u0s u0t u0u u0v u0w u0x u0k u0l u0m u0n u0o u01 u0p)=(cond (decide (0≤IntKind.wrap IntKind.i64 (x7+1))&&decide (IntKind.wrap IntKind.i64 (x7+1) < ic (List.length l5))) (cond (!ByteArray.toList (y7j {k:=u0i,c:=u0j,a0:=u0q,b0:=u0r,a1:=u0s,b1:=u0t,a2:=u0u,b2:=u0v,a3:=u0w,b3:=u0x,a4:=u0k,b4:=u0l,lo:=u0m,hi:=u0n,ft:=u0o,fl:=u01,bu:=z58 (IV.toStr (List.getD l5 (Int.toNat (IntKind.wrap IntKind.i64 (x7+1))) default))} x8)==ByteArray.toList s0) (some ((.tup [(.agg [(.i 0),(.i 0),(.i 0),(.i 0),(.i 0),(.i 0),(.i 0),(.i 0),(.i 0),(.i 0),(.i 0),(.i 0),(.i 0),(.i 0),(.i 0),(.bool false),(.i 0)]),(.i 0),(.bool false)]),[])) (some ((.tup [(.agg [(.i u0i),(.i u0j),(.i u0q),(.i u0r),(.i u0s),(.i u0t),(.i u0u),(.i u0v),(.i u0w),(.i u0x),(.i u0k),(.i u0l),(.i u0m),(.i u0n),(.i u0o),(.bool u01),(.i (z58 (IV.toStr (List.getD l5 (Int.toNat (IntKind.wrap IntKind.i64 (x7+1))) default))))]),(.i x8),(.bool true)]),[]))) none):=by kernel_rfl
open Go Go.Proofs
theorem ys6 (l:List IV):(z3v l).a0=0∧(z3v l).b0=0∧(z3v l).a1=0∧(z3v l).b1=0∧(z3v l).a2=0∧(z3v l).b2=0∧(z3v l).a3=0∧(z3v l).b3=0∧(z3v l).a4=0∧(z3v l).b4=0∧(z3v l).bu=0:=by
 unfold z3v;cases ((wAt l 0).toList==zqp.toList) <;> cases ((wAt l 0).toList==y33.toList) <;> cases ((wAt l 0).toList==zr2.toList||(wAt l 0).toList==znr.toList) <;> exact ⟨rfl,rfl,rfl,rfl,rfl,rfl,rfl,rfl,rfl,rfl,rfl⟩
def rq (l:List IV) (i d:Nat):Qy:=
 ⟨(
  z3v (l.take i)).k,(z3v (l.take i)).c,
  cond (Nat.blt 0 d) (spA l (i+1)) 0,cond (Nat.blt 0 d) (spB l (i+1)) 0,cond (Nat.blt 1 d) (spA l (i+2)) 0,cond (Nat.blt 1 d) (spB l (i+2)) 0,cond (Nat.blt 2 d) (spA l (i+3)) 0,cond (Nat.blt 2 d) (spB l (i+3)) 0,cond (Nat.blt 3 d) (spA l (i+4)) 0,cond (Nat.blt 3 d) (spB l (i+4)) 0,0,0,
  (z3v (l.take i)).lo,(z3v (l.take i)).hi,(z3v (l.take i)).ft,(z3v (l.take i)).fl,0⟩
theorem yvq (l:List IV) (i:Nat):z3v (l.take i)=rq l i 0:=by
 obtain ⟨h1,h2,h3,h4,h5,h6,h7,h8,h9,h10,h11⟩:=ys6 (l.take i);unfold rq;generalize z3v (l.take i)=q at *;cases q;simp only at *;subst h1 h2 h3 h4 h5 h6 h7 h8 h9 h10 h11
 rfl
abbrev stQ (s:ByteArray) (W:List IV) (x7 x8:Int) (L:List IV) (q:Qy) (i:Int):St:=
 ⟨[(0,(.str s)),(2,(.ptr 2 0 0)),(3,(.int .i64 0)),(4,(.bool false)),(5,(.list false [.str] W)),(7,(.int .i64 x7)),(8,(.int .i64 x8)),(9,(.ptr 9 0 0)),(45,(.list false [.str] L)),(46,(.int .i64 (ic L.length))),(47,(.int .i64 i))],[(2,(some (yuj Qy.none))),(9,(some (yuj q)))]⟩
theorem ysr (w sep:ByteArray) (h:w.size < 4294967281):decide (ByteArray.size w < 4294967281)=true∧decide (ByteArray.size (cutL w sep) < 4294967281)=true∧decide (ByteArray.size (zgp w sep) < 4294967281)=true:=by
 obtain ⟨h1,h2⟩:=zoi w sep;exact ⟨v01 h,v01 (by omega),v01 (by omega)⟩
theorem yc3 (N:Nat) (s:ByteArray) (W:List IV) (x7 x8:Int) (L:List IV) (I i:Nat) (hi:i < L.length) (h4:i < 4) (hL:IV.toStr (L.getD i default)=wAt W (I+1+i)) (hw:(wAt W (I+1+i)).size < 4294967281) (again:St→Res) (k:Out→St→Res) :
  rnd (z68 N) (z0f z81 [1,1,1,1,1,1,1,0,1,0,0]) (stQ s W x7 x8 L (rq W I i) (i:Int)) (z3t again ⟨[0,2,3,4,5,7,8,9,45,46,47],[2,9],[]⟩ k)=again (stQ s W x7 x8 L (rq W I (i+1)) ((i+1:Nat):Int)):=by
 refine (zn4 N s 0 false W x7 x8 L (ic L.length) i 0 0 0 0 0 0 0 0 0 0 0 0 0 0 0 false 0 (rq W I i).k (rq W I i).c (rq W I i).a0 (rq W I i).b0 (rq W I i).a1 (rq W I i).b1 (rq W I i).a2 (rq W I i).b2 (rq W I i).a3 (rq W I i).b3 (rq W I i).a4 (rq W I i).b4 (rq W I i).lo (rq W I i).hi (rq W I i).ft (rq W I i).fl (rq W I i).bu again k).trans ?_;rw [zbm hi,zjl,v1d,z00,z00,v0g,hL];obtain ⟨c1,c2,c3⟩:=ysr (wAt W (I+1+i)) { data:=#[46,46] } hw;rw [c1,c2,c3,z00,z00,z00];have hi4:i=0∨i=1∨i=2∨i=3:=by omega
 rcases hi4 with rfl | rfl | rfl | rfl
 ·rw [show decide (((0:Nat):Int)=ic 0)=true from rfl,z00]
  rfl
 ·rw [show decide (((1:Nat):Int)=ic 0)=false from rfl,show decide (((1:Nat):Int)=ic 1)=true from rfl,z01,z00]
  rfl
 ·rw [show decide (((2:Nat):Int)=ic 0)=false from rfl,show decide (((2:Nat):Int)=ic 1)=false from rfl,show decide (((2:Nat):Int)=ic 2)=true from rfl,z01,z01,z00]
  rfl
 ·rw [show decide (((3:Nat):Int)=ic 0)=false from rfl,show decide (((3:Nat):Int)=ic 1)=false from rfl,show decide (((3:Nat):Int)=ic 2)=false from rfl,show decide (((3:Nat):Int)=ic 3)=true from rfl,z01,z01,z01,z00]
  rfl
theorem y83 (N:Nat) (s:ByteArray) (W:List IV) (x7 x8:Int) (L:List IV) (I:Nat) (h4:L.length≤4) (hL:∀ i,i < L.length→IV.toStr (L.getD i default)=wAt W (I+1+i)) (hw:∀ i,(wAt W i).size < 4294967281) (K:Out→St→Res) :
  ∀ (d i n:Nat),i+d=L.length→d < n →
   lpE (z68 N) (z0f z81 [1,1,1,1,1,1,1,0,1,0,0]) ⟨[0,2,3,4,5,7,8,9,45,46,47],[2,9],[]⟩ n (stQ s W x7 x8 L (rq W I i) (i:Int)) K=K (.exit 0) (stQ s W x7 x8 L (rq W I L.length) (ic L.length))
 | 0,i,n+1,hd,hn=>by
  have hi:i=L.length:=by omega
  subst hi;rw [z06];refine (zn4 N s 0 false W x7 x8 L (ic L.length) _ 0 0 0 0 0 0 0 0 0 0 0 0 0 0 0 false 0 (rq W I L.length).k (rq W I L.length).c (rq W I L.length).a0 (rq W I L.length).b0 (rq W I L.length).a1 (rq W I L.length).b1 (rq W I L.length).a2 (rq W I L.length).b2 (rq W I L.length).a3 (rq W I L.length).b3 (rq W I L.length).a4 (rq W I L.length).b4 (rq W I L.length).lo (rq W I L.length).hi (rq W I L.length).ft (rq W I L.length).fl (rq W I L.length).bu _ _).trans ?_;rw [zdj (v0a _),z01]
  rfl
 | d+1,i,n+1,hd,hn=>by
  rw [z06,yc3 N s W x7 x8 L I i (by omega) (by omega) (hL i (by omega)) (hw _)]
  exact y83 N s W x7 x8 L I h4 hL hw K d (i+1) n (by omega) (by omega)
 | _,_,0,_,h=>by omega
theorem ygo (w:ByteArray):∀ (l:List IV) (k:Int),0≤k→zhq l w k = -1∨(k≤zhq l w k∧zhq l w k < k+(l.length:Int))
 | [],_,_=>.inl rfl
 | x :: l,k,hk=>by
  unfold zhq;cases (w.toList==x.toStr.toList) with
  | true=>rw [z00]; exact .inr ⟨v2b _,by simp only [v03]; omega⟩
  | false=>
   rw [z01];rcases ygo w l (k+1) (by omega) with h | ⟨h1,h2⟩
   ·exact .inl h
   ·exact .inr ⟨by omega,by simp only [v03]; omega⟩
theorem yhb (s:ByteArray) (hs:s.size < 4294967281):(zck s).length≤4294967282∧∀ i,(wAt (zck s) i).size < 4294967281:=by
 have h1:=Lib.splitB_all z5a (by decide) 0 _ s rfl
 have h2:=Lib.countB_le z5a (by decide) s.size s (v0a _)
 refine ⟨?_,fun i=>?_⟩
 ·have e:(zck s).length=Lib.countB s z5a+1:=by
   unfold zck z0d;rw [v14];exact h1
  omega
 ·unfold wAt
  by_cases hi:i < (zck s).length
  ·have:List.getD (zck s) i default=(zck s)[i]:=by simp [hi]
   rw [this];have hm:=v1x hi;unfold zck at hm;obtain ⟨p,hp,hpe⟩:=List.mem_map.1 hm;have hz:=(z9l z5a _ s).2 p hp
   have:((zck s)[i]).toStr=p:=by
    show (List.map IV.str (z0d s z5a))[i].toStr=p;rw [← hpe]
    rfl
   rw [this];omega
  ·have:List.getD (zck s) i default=default:=by simp [List.getD,hi]
   rw [this]
   decide
theorem zoy:z32 PR B0 73 zar:=by
 refine z0h [(18,zfz),(121,zb4),(119,zhh),(120,zcu),(118,z2w),(104,z6g),(46,z1t)] [(9,⟨[0,2,3,4,5,7,8,9,45,46,47],[2,9],[]⟩)] zar
  [[.int .i64,.int .i64,.int .i64,.int .i64,.int .i64,.int .i64,.int .i64,.int .i64,.int .i64,.int .i64,.int .i64,.int .i64,.int .i64,.int .i64,.int .i64,.bool,.int .i64],[.int .i64],[.bool]] Tryz.func73 yd7
  ⟨y4z,zoa,yav,zsr,zec,zfq,z5y,trivial⟩ ?_
 intro vs r hwf h;unfold zar at h
 split at h
 ·rename_i s
  refine ⟨20,?_⟩;cases hs:decide (s.size < 4294967281) with
  | false=>rw [hs] at h; simp [R.get] at h
  | true=>
   rw [hs,R.get_br,z00,R.get_ok] at h;rw [← h];refine (y8j 20 s).trans ?_;have hs':=v0c hs;rw [hs];obtain ⟨hl,hw⟩:=yhb s hs';have eW:List.map IV.str (z0d s { data:=#[32] })=zck s:=rfl;have eI:zhq (zck s) { data:=#[105,110] } 0=zv2 s:=rfl;rw [eW,eI,show decide (1≤ByteArray.size { data:=#[32] })=true from rfl,v1d,z00]
   have hr:=ygo ypg (zck s) 0 (v2b _)
   change zv2 s = -1∨(0≤zv2 s∧zv2 s < 0+((zck s).length:Int)) at hr
   have w2:IntKind.wrap IntKind.i64 (ic (List.length (zck s)) - 2)=ic (List.length (zck s)) - 2:=z0s (by simp only [ic]; omega) (by simp only [ic]; omega)
   rw [w2];have wd:IntKind.wrap IntKind.i64 (IntKind.wrap IntKind.i64 (ic (List.length (zck s)) - 2 - zv2 s) - 1)=zw8 s:=by
    unfold zw8;rw [z0s (n:=ic (List.length (zck s)) - 2 - zv2 s) (by simp only [ic]; omega) (by simp only [ic]; omega),z0s (by simp only [ic]; omega) (by simp only [ic]; omega)]
   rw [wd];unfold zco ykf y6g;cases h1:decide (zv2 s < 0) with
   | true=>simp only [z00,z01,v0e,v0u]; rfl
   | false=>
    cases h2:decide (zw8 s < 1) with
    | true=>simp only [z00,z01,v0e,v0j,v0u,v2o]; rfl
    | false=>
     cases h3:decide (zw8 s > 4) with
     | true=>simp only [z00,z01,v0e,v0j,v0u,v2o]; rfl
     | false=>
      simp only [z01,v0j,v0k];have h1:=v0r h1;have h2:=v0r h2;have h3:=v0r h3;obtain ⟨I,hI⟩:∃ I:Nat,zv2 s=I:=⟨(zv2 s).toNat,by omega⟩
      obtain ⟨D,hD⟩:∃ D:Nat,zw8 s=D:=⟨(zw8 s).toNat,by omega⟩
      have hD1:1≤D:=by omega
      have hD4:D≤4:=by omega
      unfold yql;have hDd:(D:Int)=((zck s).length:Int) - 2 - I - 1:=by
       rw [← hD,← hI]
       rfl
      rw [hI,hD] at *;generalize zck s=W at *;have wi:IntKind.wrap IntKind.i64 ((I:Int)+1)=((I+1:Nat):Int):=by rw [z0s (by omega) (by omega)]; rfl
      have eb:ic (List.length W) - 2=((W.length - 2:Nat):Int):=by simp only [ic]; omega
      rw [wi,eb];simp only [v0g,v0z];have hall:List.all (List.take I W) (fun x=>decide (ByteArray.size (IV.toStr x) < 4294967281))=true:=by
       rw [v35];intro x hx;obtain ⟨j,hj,rfl⟩:=List.mem_iff_getElem.1 (v33 hx)
       have:=hw j
       unfold wAt at this;have e:List.getD W j default=W[j]:=by simp [hj]
       rw [e] at this;exact v01 this
      rw [hall,v01 (show (0:Int)≤(I:Int) by omega),v01 (show (I:Int)≤ic (List.length W) by simp only [ic]; omega),v01 (show List.length (List.take I W)≤4294967290 by rw [v0l]; omega),
       v01 (show (0:Int)≤((I+1:Nat):Int) by omega),v01 (show ((I+1:Nat):Int)≤((W.length - 2:Nat):Int) by omega),v01 (show ((W.length - 2:Nat):Int)≤ic (List.length W) by simp only [ic]; omega)]
      simp only [v1d,z00];have hLl:(List.drop (I+1) (List.take (W.length - 2) W)).length=D:=by rw [v1g,v0l]; omega
      have hLg:∀ i,i < (List.drop (I+1) (List.take (W.length - 2) W)).length→IV.toStr ((List.drop (I+1) (List.take (W.length - 2) W)).getD i default)=wAt W (I+1+i):=fun i hi=>by
       rw [hLl] at hi;unfold wAt
       congr 1
       simp only [List.getD,v27,v1a];rw [v1b (by omega)]
      rw [yvq W I];have run:=y83 20 s W ((W.length - 2:Nat):Int) (D:Int) (List.drop (I+1) (List.take (W.length - 2) W)) I (by rw [hLl]; exact hD4) hLg hw (z05 0 (kSq (z68 20) (z0f z81 [1,1,1,1,1,1,1,1]) (z2s (z68 20) none [(ResultVar.cell 2 38),(ResultVar.tmp 3),(ResultVar.tmp 4)] [[(.int .i64),(.int .i64),(.int .i64),(.int .i64),(.int .i64),(.int .i64),(.int .i64),(.int .i64),(.int .i64),(.int .i64),(.int .i64),(.int .i64),(.int .i64),(.int .i64),(.int .i64),.bool,(.int .i64)],[(.int .i64)],[.bool]]))) D 0 20 (by rw [hLl]; omega) (by omega)
      refine run.trans ?_;rw [hLl];refine (zuf 20 s 0 false W ((W.length - 2:Nat):Int) (D:Int) (List.drop (I+1) (List.take (W.length - 2) W)) (ic (List.drop (I+1) (List.take (W.length - 2) W)).length) _ 0 0 0 0 0 0 0 0 0 0 0 0 0 0 0 false 0 (rq W I D).k (rq W I D).c (rq W I D).a0 (rq W I D).b0 (rq W I D).a1 (rq W I D).b1 (rq W I D).a2 (rq W I D).b2 (rq W I D).a3 (rq W I D).b3 (rq W I D).a4 (rq W I D).b4 (rq W I D).lo (rq W I D).hi (rq W I D).ft (rq W I D).fl (rq W I D).bu).trans ?_;have e7:IntKind.wrap IntKind.i64 (((W.length - 2:Nat):Int)+1)=((W.length - 1:Nat):Int):=by rw [z0s (by omega) (by omega)]; omega
      rw [e7,v0g,v01 (show (0:Int)≤((W.length - 1:Nat):Int) by omega),v01 (show ((W.length - 1:Nat):Int) < ic (List.length W) by simp only [ic]; omega),v1d,z00]
      have eq:(⟨(rq W I D).k,(rq W I D).c,(rq W I D).a0,(rq W I D).b0,(rq W I D).a1,(rq W I D).b1,(rq W I D).a2,(rq W I D).b2,(rq W I D).a3,(rq W I D).b3,(rq W I D).a4,(rq W I D).b4,(rq W I D).lo,(rq W I D).hi,(rq W I D).ft,(rq W I D).fl,z58 (IV.toStr (List.getD W (W.length - 1) default))⟩:Qy)=yuz W I D:=rfl;rw [eq];cases ((y7j (yuz W I D) (D:Int)).toList==s.toList) with
      | false=>rfl
      | true=>rfl
 ·simp [R.get] at h
open Go
def nm (x:IV) (j:Nat):Nat:=cond (x.cell 0).toBool 0 ((if (x.cell 4).toInt=(j:Int) then 1 else 0)+(if (x.cell 5).toInt=(j:Int) then 1 else 0))
open Go
theorem zww {w:Int} (h:zbi w=true):z9w (z07 w)=w∧zcy (z07 w)=true:=by
 have hn:z07 w=zw1 w:=by unfold z07; rw [h]; rfl
 unfold zbi at h;simp only [v02,v12,v1h,v0v] at h;rw [hn];refine ⟨h.2,?_⟩;cases hr:zcy (zw1 w) with
 | true=>rfl
 | false=>
  have:=h.2
  unfold z9w at this;rw [hr] at this;exact absurd this.symm h.1
def ytz (d c:Int) (bias ts:List IV):Md:=⟨yu7 d,yst c,yd1 c bias 0,yd1 c bias 1,yd1 c bias 2,ykt d c ts⟩
open Go
abbrev z1k:List Kd:=[.bool,.int .i64,.int .i64]
def z9d (x:IV):Bool:=(x.cell 0).toBool
def z17 (x:IV):Int:=(x.cell 1).toInt
def zfv (x:IV):Int:=(x.cell 2).toInt
def ysf (x y:IV):Bool:=z9d x==z9d y&&(z17 x==z17 y&&zfv x==zfv y)
def zj8 (x:IV):Bool:=!(z9d x&&!(z17 x==0&&zfv x==0))&&(decide (0≤z17 x)&&decide (z17 x≤4))
def zj3 (l:List IV):Bool:=decide (1≤l.length)&&(decide (l.length≤65536)&&l.all zj8)
def zdy:z0o
 | [.list true [.bool,.int .i64,.int .i64] l]=>.ok (.bool (zj3 l)) []
 | _=>.no
def z7i:List IV→List IV→Bool
 | [],[]=>true
 | x :: l,y :: m=>ysf x y&&z7i l m
 | _,_=>false
structure Vd where
 kind:Int
 proof:List IV
 w0:Int
 w1:Int
 w2:Int
 w3:Int
 twin:Int
 spent:Int
def Vd.none:Vd:=⟨0,[],0,0,0,0,0,0⟩
def Vd.V (v:Vd):V:=.agg [.int .i64 v.kind,.list true z1k v.proof,.int .i64 v.w0,.int .i64 v.w1,.int .i64 v.w2,.int .i64 v.w3,.int .i64 v.twin,.int .i64 v.spent]
def Vd.bare (v:Vd):Bool:=v.w0==0&&(v.w1==0&&(v.w2==0&&(v.w3==0&&v.twin==0)))
def Vd.right (v:Vd):Bool:=
 decide (0≤v.spent)&&(decide (v.spent≤65536) &&
  (v.kind==1&&(v.bare&&zj3 v.proof)||(v.kind==2&&v.proof.isEmpty||(v.kind==3||v.kind==4)&&(v.bare&&v.proof.isEmpty))))
def ze4:z0o
 | [.agg [.int .i64 k,.list true [.bool,.int .i64,.int .i64] p,.int .i64 a,.int .i64 b,.int .i64 c,.int .i64 d,.int .i64 t,.int .i64 s]]=>.ok (.bool (Vd.right ⟨k,p,a,b,c,d,t,s⟩)) []
 | _=>.no
def zo3:ByteArray→List IV→ByteArray
 | s,[]=>s
 | s,x :: l=>zo3 (s.push 32++z0n x.toInt) l
def z43 (s w:ByteArray) (l:List IV):ByteArray:=(zo3 (s++w) l).push 10
def zfu:z0o
 | [.bor [.bld s],.str w,.list false [.int .i64] l]=>.br (decide ((z43 s w l).size≤strMax)) (.ok (.tup []) [[.bld (z43 s w l)]]) .no
 | _=>.no
def z2f (l:List IV) (i:Int):Int:=cond (decide (ic l.length≤i)) 0 (z58 (l.getD i.toNat default).toStr)
def zc5:z0o
 | [.list false [.str] l,.int .i64 i]=>.br (decide (0≤i)) (.ok (.int .i64 (z2f l i)) []) .no
 | _=>.no
def zn0 (b:Bool) (p a:Int):IV:=.agg [.bool b,.int p,.int a]
abbrev z5l:ByteArray:=⟨#[104,111,108,100,115]⟩
abbrev zfw:ByteArray:=⟨#[102,97,105,108,115]⟩
abbrev z94:ByteArray:=⟨#[117,110,107,110,111,119,110]⟩
abbrev zfj:ByteArray:=⟨#[119,114,111,110,103]⟩
abbrev zz8:ByteArray:=⟨#[115,117,109]⟩
abbrev ydj:ByteArray:=⟨#[99,117,116]⟩
abbrev zh0:ByteArray:=⟨#[10]⟩
abbrev ypo:ByteArray:=⟨#[32]⟩
abbrev z0u:ByteArray:=⟨#[]⟩
def z7o (s:ByteArray):List IV:=(z0d (cutL s zh0) ypo).map IV.str
def zel (l:List IV):ByteArray:=(l.getD 0 default).toStr
def zly (s:ByteArray):IV:=
 cond ((zel (z7o s)).toList==zz8.toList) (zn0 true 0 0) (zn0 false (z2f (z7o s) 1) (z2f (z7o s) 2))
def zbv:Nat→ByteArray→List IV→List IV
 | 0,_,p=>p
 | n+1,s,p=>cond (!(s.toList==z0u.toList)&&decide (p.length≤65536)) (zbv n (zgp s zh0) (p++[zly s])) p
def ze2 (s:ByteArray):Vd:=
 cond ((zel (z7o s)).toList==z5l.toList) ⟨1,zbv ((zgp s zh0).size+1) (zgp s zh0) [],0,0,0,0,0,z2f (z7o s) 1⟩
 (cond ((zel (z7o s)).toList==zfw.toList) ⟨2,[],z2f (z7o s) 2,z2f (z7o s) 3,z2f (z7o s) 4,z2f (z7o s) 5,z2f (z7o s) 6,z2f (z7o s) 1⟩
 (cond ((zel (z7o s)).toList==z94.toList) ⟨3,[],0,0,0,0,0,z2f (z7o s) 1⟩
 (cond ((zel (z7o s)).toList==zfj.toList) ⟨4,[],0,0,0,0,0,z2f (z7o s) 1⟩
 ⟨0,[],0,0,0,0,0,z2f (z7o s) 1⟩)))
def zft:z0o
 | [.str s]=>.br (decide (s.size < 4294967281)) (.ok (.agg [.int .i64 (ze2 s).kind,.list true [.bool,.int .i64,.int .i64] (ze2 s).proof,.int .i64 (ze2 s).w0,.int .i64 (ze2 s).w1,.int .i64 (ze2 s).w2,.int .i64 (ze2 s).w3,.int .i64 (ze2 s).twin,.int .i64 (ze2 s).spent]) []) .no
 | _=>.no
def z3f:ByteArray→List IV→ByteArray
 | s,[]=>s
 | s,x :: l=>z3f (cond (z9d x) (z43 s zz8 []) (z43 s ydj [.int (z17 x),.int (zfv x)])) l
def z11 (v:Vd):ByteArray:=
 cond v.right
  (cond (v.kind==1) (z3f (z43 z0u z5l [.int v.spent,.int (ic v.proof.length)]) v.proof)
  (cond (v.kind==2) (z43 z0u zfw [.int v.spent,.int v.w0,.int v.w1,.int v.w2,.int v.w3,.int v.twin])
  (cond (v.kind==3) (z43 z0u z94 [.int v.spent])
  (z43 z0u zfj [.int v.spent]))))
  z0u
def z8y:z0o
 | [.agg [.int .i64 k,.list true [.bool,.int .i64,.int .i64] p,.int .i64 a,.int .i64 b,.int .i64 c,.int .i64 d,.int .i64 t,.int .i64 s]]=>
  .br (decide ((z11 ⟨k,p,a,b,c,d,t,s⟩).size≤strMax)) (.ok (.str (z11 ⟨k,p,a,b,c,d,t,s⟩)) []) .no
 | _=>.no
def zkd (s:ByteArray):Bool:=!(s.toList==z0u.toList)&&(z11 (ze2 s)).toList==s.toList
def zac (s:ByteArray):Vd:=cond (zkd s) (ze2 s) Vd.none
def zdq:z0o
 | [.str s]=>.br (decide (s.size < 4294967281)) (.br (decide ((z11 (ze2 s)).size≤strMax)) (.ok (.tup [.agg [.int .i64 (zac s).kind,.list true [.bool,.int .i64,.int .i64] (zac s).proof,.int .i64 (zac s).w0,.int .i64 (zac s).w1,.int .i64 (zac s).w2,.int .i64 (zac s).w3,.int .i64 (zac s).twin,.int .i64 (zac s).spent],.bool (zkd s)]) []) .no) .no
 | _=>.no
open Go
def Nd.cs (x:Nd):List FM.V:=[.bool x.lf,.int .i64 x.v,.int .i64 x.f,.int .i64 x.a,.int .i64 x.l,.int .i64 x.r]
def Nd.V (x:Nd):FM.V:=.agg x.cs
def Md.cs (m:Md):List FM.V:=[.int .i64 m.d,.int .i64 m.c,.int .i64 m.b0,.int .i64 m.b1,.int .i64 m.b2,.list true [.int .i64,.list false [.int .u64]] m.ts]
def Md.V (m:Md):FM.V:=.agg m.cs
def Qy.cs (q:Qy):List FM.V:=[.int .i64 q.k,.int .i64 q.c,.int .i64 q.a0,.int .i64 q.b0,.int .i64 q.a1,.int .i64 q.b1,.int .i64 q.a2,.int .i64 q.b2,.int .i64 q.a3,.int .i64 q.b3,.int .i64 q.a4,.int .i64 q.b4,.int .i64 q.lo,.int .i64 q.hi,.int .i64 q.ft,.bool q.fl,.int .i64 q.bu]
def Vd.cs (v:Vd):List FM.V:=[.int .i64 v.kind,.list true [.bool,.int .i64,.int .i64] v.proof,.int .i64 v.w0,.int .i64 v.w1,.int .i64 v.w2,.int .i64 v.w3,.int .i64 v.twin,.int .i64 v.spent]
def Ak.cs (a:Ak):List FM.V:=[.int .i64 a.k,.int .i64 a.c,.int .i64 a.lo,.int .i64 a.size,.int .i64 a.ft,.int .i64 a.bu,.bool a.fl,.list false [.int .i64] a.sp]
def Ak.V (a:Ak):FM.V:=.agg a.cs
structure Sp where
 lo:Int
 hi:Int
def Sp.cs (s:Sp):List FM.V:=[.int .i64 s.lo,.int .i64 s.hi]
def Sp.V (s:Sp):FM.V:=.agg s.cs
structure Bx where
 s0:Sp
 s1:Sp
 s2:Sp
 s3:Sp
 s4:Sp
def Bx.g (b:Bx):Nat→Sp
 | 0=>b.s0
 | 1=>b.s1
 | 2=>b.s2
 | 3=>b.s3
 | _=>b.s4
def Bx.p (b:Bx) (s:Sp):Nat→Bx
 | 0=>⟨s,b.s1,b.s2,b.s3,b.s4⟩
 | 1=>⟨b.s0,s,b.s2,b.s3,b.s4⟩
 | 2=>⟨b.s0,b.s1,s,b.s3,b.s4⟩
 | 3=>⟨b.s0,b.s1,b.s2,s,b.s4⟩
 | _=>⟨b.s0,b.s1,b.s2,b.s3,s⟩
def Bx.cs (b:Bx):List FM.V:=[.int .i64 b.s0.lo,.int .i64 b.s0.hi,.int .i64 b.s1.lo,.int .i64 b.s1.hi,.int .i64 b.s2.lo,.int .i64 b.s2.hi,.int .i64 b.s3.lo,.int .i64 b.s3.hi,.int .i64 b.s4.lo,.int .i64 b.s4.hi]
def Bx.V (b:Bx):FM.V:=.agg b.cs
structure Pt where
 p0:Int
 p1:Int
 p2:Int
 p3:Int
def Pt.cs (p:Pt):List FM.V:=[.int .i64 p.p0,.int .i64 p.p1,.int .i64 p.p2,.int .i64 p.p3]
def Pt.V (p:Pt):FM.V:=.agg p.cs
def Pt.g (p:Pt):Nat→Int
 | 0=>p.p0
 | 1=>p.p1
 | 2=>p.p2
 | _=>p.p3
def spOf?:List FM.V→Option Sp
 | [.int .i64 a,.int .i64 b]=>some ⟨a,b⟩
 | _=>none
def ptOf?:List FM.V→Option Pt
 | [.int .i64 a,.int .i64 b,.int .i64 c,.int .i64 d]=>some ⟨a,b,c,d⟩
 | _=>none
def bxOf?:List FM.V→Option Bx
 | [.int .i64 a0,.int .i64 b0,.int .i64 a1,.int .i64 b1,.int .i64 a2,.int .i64 b2,.int .i64 a3,.int .i64 b3,.int .i64 a4,.int .i64 b4]=>some ⟨⟨a0,b0⟩,⟨a1,b1⟩,⟨a2,b2⟩,⟨a3,b3⟩,⟨a4,b4⟩⟩
 | _=>none
def mdOf?:List FM.V→Option Md
 | [.int .i64 d,.int .i64 c,.int .i64 b0,.int .i64 b1,.int .i64 b2,.list true [.int .i64,.list false [.int .u64]] ts]=>some ⟨d,c,b0,b1,b2,ts⟩
 | _=>none
def qyOf?:List FM.V→Option Qy
 | [.int .i64 k,.int .i64 c,.int .i64 a0,.int .i64 b0,.int .i64 a1,.int .i64 b1,.int .i64 a2,.int .i64 b2,.int .i64 a3,.int .i64 b3,.int .i64 a4,.int .i64 b4,.int .i64 lo,.int .i64 hi,.int .i64 ft,.bool fl,.int .i64 bu]=>
  some ⟨k,c,a0,b0,a1,b1,a2,b2,a3,b3,a4,b4,lo,hi,ft,fl,bu⟩
 | _=>none
def vdOf?:List FM.V→Option Vd
 | [.int .i64 k,.list true [.bool,.int .i64,.int .i64] p,.int .i64 a,.int .i64 b,.int .i64 c,.int .i64 d,.int .i64 t,.int .i64 s]=>some ⟨k,p,a,b,c,d,t,s⟩
 | _=>none
def zzx {α:Type} (of:List FM.V→Option α) (v:FM.V) (k:α→R):R:=
 match v with
 | .agg l=>match of l with | some x=>k x | none=>.no
 | _=>.no
abbrev yof (v:FM.V) (k:Sp→R):R:=zzx spOf? v k
abbrev yau (v:FM.V) (k:Pt→R):R:=zzx ptOf? v k
abbrev zg9 (v:FM.V) (k:Bx→R):R:=zzx bxOf? v k
abbrev zgw (v:FM.V) (k:Md→R):R:=zzx mdOf? v k
abbrev zhl (v:FM.V) (k:Qy→R):R:=zzx qyOf? v k
abbrev yqg (v:FM.V) (k:Vd→R):R:=zzx vdOf? v k
theorem zdb {α:Type} {of:List FM.V→Option α} {v:FM.V} {k:α→R} {z:FM.V × List (List FM.V)} (h:(zzx of v k).get=some z):∃ l x,v = .agg l∧of l=some x∧(k x).get=some z:=by
 unfold zzx at h
 split at h
 ·rename_i l
  split at h
  ·rename_i x hx
   exact ⟨l,x,rfl,hx,h⟩
  ·simp [R.get] at h
 ·simp [R.get] at h
theorem zwe {v:FM.V} {k:Sp→R} {z:FM.V × List (List FM.V)} (h:(yof v k).get=some z):∃ x:Sp,v=x.V∧(k x).get=some z:=by
 obtain ⟨l,x,rfl,hx,h⟩:=zdb h;unfold spOf? at hx
 split at hx
 ·simp only [v00] at hx
  subst hx;exact ⟨_,rfl,h⟩
 ·cases hx
theorem zff {v:FM.V} {k:Pt→R} {z:FM.V × List (List FM.V)} (h:(yau v k).get=some z):∃ x:Pt,v=x.V∧(k x).get=some z:=by
 obtain ⟨l,x,rfl,hx,h⟩:=zdb h;unfold ptOf? at hx
 split at hx
 ·simp only [v00] at hx
  subst hx;exact ⟨_,rfl,h⟩
 ·cases hx
theorem z3i {v:FM.V} {k:Bx→R} {z:FM.V × List (List FM.V)} (h:(zg9 v k).get=some z):∃ x:Bx,v=x.V∧(k x).get=some z:=by
 obtain ⟨l,x,rfl,hx,h⟩:=zdb h;unfold bxOf? at hx
 split at hx
 ·simp only [v00] at hx
  subst hx;exact ⟨_,rfl,h⟩
 ·cases hx
theorem z3q {v:FM.V} {k:Md→R} {z:FM.V × List (List FM.V)} (h:(zgw v k).get=some z):∃ x:Md,v=x.V∧(k x).get=some z:=by
 obtain ⟨l,x,rfl,hx,h⟩:=zdb h;unfold mdOf? at hx
 split at hx
 ·simp only [v00] at hx
  subst hx;exact ⟨_,rfl,h⟩
 ·cases hx
theorem z3z {v:FM.V} {k:Qy→R} {z:FM.V × List (List FM.V)} (h:(zhl v k).get=some z):∃ x:Qy,v=x.V∧(k x).get=some z:=by
 obtain ⟨l,x,rfl,hx,h⟩:=zdb h;unfold qyOf? at hx
 split at hx
 ·simp only [v00] at hx
  subst hx;exact ⟨_,rfl,h⟩
 ·cases hx
theorem y6y {v:FM.V} {k:Vd→R} {z:FM.V × List (List FM.V)} (h:(yqg v k).get=some z):∃ x:Vd,v=x.V∧(k x).get=some z:=by
 obtain ⟨l,x,rfl,hx,h⟩:=zdb h;unfold vdOf? at hx
 split at hx
 ·simp only [v00] at hx
  subst hx;exact ⟨_,rfl,h⟩
 ·cases hx
def Sp.emp (s:Sp):Bool:=decide (s.lo > s.hi)
def Sp.has (s:Sp) (n:Int):Bool:=decide (s.lo≤n)&&decide (n≤s.hi)
def yc8 (lo hi:Int):Sp:=cond (decide (lo > hi)) ⟨1,0⟩ ⟨lo,hi⟩
def Sp.cutL (s:Sp) (a:Int):Sp:=yc8 s.lo (min s.hi a)
def Sp.cutH (s:Sp) (a:Int):Sp:=cond (decide (a≥s.hi)) ⟨1,0⟩ (yc8 (max s.lo (zex (a+1))) s.hi)
def zaz:z0o
 | []=>.ok (.agg [.int .i64 1,.int .i64 0]) []
 | _=>.no
def zjv:z0o
 | [.int .i64 lo,.int .i64 hi]=>.ok (yc8 lo hi).V []
 | _=>.no
def z8t:z0o
 | [s]=>yof s fun s=>.ok (.bool (s.emp)) []
 | _=>.no
def zcs:z0o
 | [s,.int .i64 n]=>yof s fun s=>.ok (.bool (s.has n)) []
 | _=>.no
def zlt:z0o
 | [s,.int .i64 n]=>yof s fun s=>.ok (.tup [(s.cutL n).V,(s.cutH n).V]) []
 | _=>.no
def Bx.I (b:Bx):IV:=.agg [.int b.s0.lo,.int b.s0.hi,.int b.s1.lo,.int b.s1.hi,.int b.s2.lo,.int b.s2.hi,.int b.s3.lo,.int b.s3.hi,.int b.s4.lo,.int b.s4.hi]
abbrev cI (x:IV) (j:Nat):Int:=(x.cell j).toInt
def bxI (x:IV):Bx:=⟨⟨cI x 0,cI x 1⟩,⟨cI x 2,cI x 3⟩,⟨cI x 4,cI x 5⟩,⟨cI x 6,cI x 7⟩,⟨cI x 8,cI x 9⟩⟩
abbrev zch:List Kd:=[.int .i64,.int .i64,.int .i64,.int .i64,.int .i64,.int .i64,.int .i64,.int .i64,.int .i64,.int .i64]
def Bx.emp (b:Bx):Bool:=b.s0.emp||(b.s1.emp||(b.s2.emp||(b.s3.emp||b.s4.emp)))
def bx0:Bx:=⟨⟨0,0⟩,⟨0,0⟩,⟨0,0⟩,⟨0,0⟩,⟨0,0⟩⟩
def zse (i:Int):Bool:=decide (0≤i)&&decide (i < 5)
def Bx.cutL (b:Bx) (i a:Int):Bx:=b.p ((b.g i.toNat).cutL a) i.toNat
def Bx.cutH (b:Bx) (i a:Int):Bx:=b.p ((b.g i.toNat).cutH a) i.toNat
def Pt.p (p:Pt) (x:Int):Nat→Pt
 | 0=>⟨x,p.p1,p.p2,p.p3⟩
 | 1=>⟨p.p0,x,p.p2,p.p3⟩
 | 2=>⟨p.p0,p.p1,x,p.p3⟩
 | _=>⟨p.p0,p.p1,p.p2,x⟩
def Bx.low (b:Bx):Pt:=⟨b.s0.lo,b.s1.lo,b.s2.lo,b.s3.lo⟩
def Bx.has (b:Bx) (p:Pt) (t:Int):Bool:=b.s0.has p.p0&&(b.s1.has p.p1&&(b.s2.has p.p2&&(b.s3.has p.p3&&b.s4.has t)))
def z2u:z0o
 | [b]=>zg9 b fun b=>.ok (.bool (b.emp)) []
 | _=>.no
def zkt:z0o
 | [b]=>zg9 b fun b=>.ok b.low.V []
 | _=>.no
def zlh:z0o
 | [b,p,.int .i64 t]=>zg9 b fun b=>yau p fun p=>.ok (.bool (b.has p t)) []
 | _=>.no
def z92:z0o
 | [b,.int .i64 i,.int .i64 a]=>zg9 b fun b=>.br (zse i) (.ok (.tup [(b.cutL i a).V,(b.cutH i a).V]) []) .no
 | _=>.no
def zv9 (l:List IV) (p:Pt):Nat→Int→Int × Nd
 | 0,_=>(-1,Nd.zero)
 | n+1,a=>
  cond (decide (a≥ic l.length)) (-1,Nd.zero)
   (cond (!(zbi (l.getD a.toNat default).toInt)) (-1,Nd.zero)
    (cond (z07 (l.getD a.toNat default).toInt).lf (a,z07 (l.getD a.toNat default).toInt)
     (cond (decide (p.g (z07 (l.getD a.toNat default).toInt).f.toNat≤(z07 (l.getD a.toNat default).toInt).a)) (zv9 l p n (z07 (l.getD a.toNat default).toInt).l) (zv9 l p n (z07 (l.getD a.toNat default).toInt).r))))
def yuk (l:List IV) (p:Pt):Int:=(zv9 l p 31 0).1
def yns (l:List IV) (p:Pt):Nd:=(zv9 l p 31 0).2
def zh7:z0o
 | [.list false [.int .u64] l,p]=>yau p fun p=>.ok (.tup [.int .i64 (yuk l p),(yns l p).V]) []
 | _=>.no
def zmm (l:List IV) (p:Pt):Int:=(yns l p).v
def zdd:z0o
 | [.list false [.int .u64] l,p]=>yau p fun p=>.ok (.int .i64 (zmm l p)) []
 | _=>.no
def zep (m:Md) (c:Int):Int:=cond (c==0) m.b0 (cond (c==1) m.b1 m.b2)
abbrev ypa (t:IV):Int:=cI t 0
abbrev zcm (t:IV):List IV:=(t.cell 1).toList
def evF (c:Int) (p:Pt):List IV→Int→Int
 | [],s=>s
 | t :: r,s=>evF c p r (cond (ypa t==c) (s+zmm (zcm t) p) s)
def zd7 (m:Md) (c:Int):Bool:=decide (0≤c)&&decide (c < m.c)
def zd6:z0o
 | [m,.int .i64 k,p]=>zgw m fun m=>yau p fun p=>.br (z2g m&&zd7 m k) (.ok (.int .i64 (evF k p m.ts (zep m k))) []) .no
 | _=>.no
def z3j (m:Md) (k:Int) (p:Pt):Int:=cond (z2g m&&zd7 m k) (evF k p m.ts (zep m k)) 0
def ze0:z0o
 | [m,.int .i64 k,p]=>zgw m fun m=>yau p fun p=>.ok (.int .i64 (z3j m k p)) []
 | _=>.no
def ys1 (x:Int):List Int→List Int
 | []=>[x]
 | y :: r=>cond (decide (x≤y)) (x :: y :: r) (y :: ys1 x r)
def zjq:List Int→List Int
 | []=>[]
 | x :: r=>ys1 x (zjq r)
def ycz:Int→List Int→List Int
 | _,[]=>[]
 | p,x :: r=>cond (x==p) (ycz x r) (x :: ycz x r)
def y68:List Int→List Int
 | []=>[]
 | x :: r=>x :: ycz x r
def zvq (f:Int) (w:IV):List Int:=cond (!(z07 w.toInt).lf&&(z07 w.toInt).f==f) [(z07 w.toInt).a] []
def z8d (ts:List IV) (f:Int):List Int:=ts.flatMap fun t=>(zcm t).flatMap (zvq f)
def y08 (ts:List IV) (f:Int):List Int:=y68 (zjq (z8d ts f))
def iZ (l:List Int):List IV:=l.map IV.int
def z6s:z0o
 | [m,.int .i64 f]=>zgw m fun m=>.br (z2g m) (.ok (.vec 3 false [.int .i64] (iZ (y08 m.ts f))) []) .no
 | _=>.no
def yex:Ip:=⟨3,false,fun rs l=>match rs with
 | []=>some (iZ (zjq (l.map IV.toInt)))
 | _=>none⟩
def zq1:Ip:=⟨3,true,fun rs l=>match rs with
 | []=>some (iZ (y68 (l.map IV.toInt)))
 | _=>none⟩
def zkr (a b:Int) (l:List Int):List Int:=l.filter fun t=>!(decide (t < a)||decide (t≥b))
def zv5:Ip:=⟨3,true,fun rs l=>match rs with
 | [.clo f [.bor [.int .i64 a,.int .i64 b]]]=>cond (Nat.beq f 169) (some (iZ (zkr a b (l.map IV.toInt)))) none
 | _=>none⟩
def Qy.bx (q:Qy):Bx:=⟨⟨q.a0,q.b0⟩,⟨q.a1,q.b1⟩,⟨q.a2,q.b2⟩,⟨q.a3,q.b3⟩,⟨q.a4,q.b4⟩⟩
def yek (d i:Int) (s:Sp):Bool:=!(decide (i≥d)&&!((s.lo==0)&&(s.hi==0)))&&(!s.emp&&(z2c s.lo&&z2c s.hi))
def y6l (b:Bx) (d:Int):Bool:=yek d 0 b.s0&&(yek d 1 b.s1&&(yek d 2 b.s2&&(yek d 3 b.s3&&yek d 4 b.s4)))
def zam:z0o
 | [b,.int .i64 d]=>zg9 b fun b=>.ok (.bool (y6l b d)) []
 | _=>.no
def y9o (m:Md) (q:Qy):Bool:=
 cond (q.k==1) (decide (q.lo≤q.hi)&&((q.ft==0)&&!q.fl))
  (cond (q.k==2) (decide (m.c≥2)&&((q.lo==0)&&((q.hi==0)&&((q.ft==0)&&!q.fl))))
   (cond (q.k==3) (decide (q.ft≥0)&&(decide (q.ft < m.d)&&((q.lo==0)&&(q.hi==0)))) false))
def z2b (m:Md) (q:Qy):Bool:=z2g m&&(decide (q.c≥0)&&(decide (q.c < m.c)&&(decide (q.bu≥0)&&(decide (q.bu≤65536)&&(y6l q.bx m.d&&y9o m q)))))
def z5s (q:Qy):Bool:=(q.k==3)&&(decide (q.ft≥0)&&decide (q.ft < 4))
def z4f (q:Qy):Bx:=q.bx.p (cond (z5s q) (q.bx.g q.ft.toNat) ⟨0,0⟩) 4
def z6b (q:Qy) (p:Pt) (t:Int):Pt:=cond (z5s q) (p.p t q.ft.toNat) p
def zq2 (m:Md) (q:Qy) (p:Pt) (own:Int):Bool:=(List.range m.c.toNat).any fun c=>!((c:Int)==q.c)&&decide (z3j m (c:Int) p≥own)
def z3u (m:Md) (q:Qy) (p:Pt) (t:Int):Bool:=
 z2b m q &&
  cond (q.k==1) (!(Sp.has ⟨q.lo,q.hi⟩ (z3j m q.c p)))
   (cond (q.k==2) (zq2 m q p (z3j m q.c p))
    (cond (decide (p.g q.ft.toNat≥t)) false
     (cond q.fl (decide (z3j m q.c (z6b q p t) > z3j m q.c p)) (decide (z3j m q.c (z6b q p t) < z3j m q.c p)))))
def zjd (n:Nd) (i:Nat) (own:List IV):List IV:=
 cond n.lf own ((own.set n.l.toNat ((bxI (own.getD i default)).cutL n.f n.a).I).set n.r.toNat ((bxI (own.getD i default)).cutH n.f n.a).I)
def pcI (b:Bx) (v:Int):IV:=.agg [.int b.s0.lo,.int b.s0.hi,.int b.s1.lo,.int b.s1.hi,.int b.s2.lo,.int b.s2.hi,.int b.s3.lo,.int b.s3.hi,.int b.s4.lo,.int b.s4.hi,.int v]
abbrev pcV (x:IV):Int:=cI x 10
abbrev zfl:List Kd:=[.int .i64,.int .i64,.int .i64,.int .i64,.int .i64,.int .i64,.int .i64,.int .i64,.int .i64,.int .i64,.int .i64]
def zr4:List IV→Nat→List IV→List IV→List IV
 | [],_,_,out=>out
 | w :: r,i,own,out=>zr4 r (i+1) (zjd (z07 w.toInt) i own) (cond ((z07 w.toInt).lf&&!(bxI (own.getD i default)).emp) (out++[pcI (bxI (own.getD i default)) (z07 w.toInt).v]) out)
def z5i (l:List IV) (b:Bx):List IV:=cond (zav l 4&&!b.emp) (zr4 l 0 ((List.replicate l.length bx0.I).set 0 b.I) []) []
def zbh:z0o
 | [.list false [.int .u64] l,b]=>zg9 b fun b=>.ok (.list true zfl (z5i l b)) []
 | _=>.no
def yj0:List IV→Int→Int
 | [],a=>a
 | x :: r,a=>yj0 r (min a (pcV x))
def yj2:List IV→Int→Int
 | [],a=>a
 | x :: r,a=>yj2 r (max a (pcV x))
def yss (ps:List IV):Int:=yj0 ps (pcV (ps.getD 0 default))
def yt9 (ps:List IV):Int:=yj2 ps (pcV (ps.getD 0 default))
def tOK (l:List IV) (b:Bx):Bool:=!((z5i l b).isEmpty)
def tLo (l:List IV) (b:Bx):Int:=cond (tOK l b) (yss (z5i l b)) 0
def tHi (l:List IV) (b:Bx):Int:=cond (tOK l b) (yt9 (z5i l b)) 0
def zde:z0o
 | [.list false [.int .u64] l,b]=>zg9 b fun b=>.ok (.tup [.int .i64 (tLo l b),.int .i64 (tHi l b),.bool (tOK l b)]) []
 | _=>.no
def zvv (h:List IV→Int) (c:Int):List IV→Int→Int
 | [],s=>s
 | t :: r,s=>zvv h c r (cond (ypa t==c) (s+h (zcm t)) s)
def sOK (m:Md) (c:Int) (b:Bx):Bool:=z2g m&&(zd7 m c&&!b.emp)
def sLo (m:Md) (c:Int) (b:Bx):Int:=cond (sOK m c b) (zvv (fun l=>tLo l b) c m.ts (zep m c)) 0
def sHi (m:Md) (c:Int) (b:Bx):Int:=cond (sOK m c b) (zvv (fun l=>tHi l b) c m.ts (zep m c)) 0
def z88:z0o
 | [m,.int .i64 k,b]=>zgw m fun m=>zg9 b fun b=>.ok (.tup [.int .i64 (sLo m k b),.int .i64 (sHi m k b),.bool (sOK m k b)]) []
 | _=>.no
def zzj (m:Md) (c lo:Int) (b:Bx):Nat→Int→Int→Bool→Int
 | 0,_,a,_=>a
 | n+1,i,a,z=>cond (i==c) (zzj m c lo b n (i+1) a z)
  (cond (!z||decide (lo - sHi m i b < a)) (zzj m c lo b n (i+1) (lo - sHi m i b) true) (zzj m c lo b n (i+1) a z))
def yfs (m:Md) (c:Int) (b:Bx):Bool:=sOK m c b&&decide (m.c≥2)
def ypy (m:Md) (c:Int) (b:Bx):Int:=cond (yfs m c b) (zzj m c (sLo m c b) b m.c.toNat 0 0 false) 0
def zad:z0o
 | [m,.int .i64 k,b]=>zgw m fun m=>zg9 b fun b=>.ok (.tup [.int .i64 (ypy m k b),.bool (yfs m k b)]) []
 | _=>.no
def zb8 (q:Qy) (b:Bx):Bx:=cond (z5s q) (b.p ⟨0,0⟩ 4) b
def z7f (q:Qy) (b:Bx):Bx:=cond (z5s q) ((b.p b.s4 q.ft.toNat).p ⟨0,0⟩ 4) b
def zg2 (q:Qy) (b:Bx):Bool:=z5s q&&(!b.emp&&decide ((b.g q.ft.toNat).lo < b.s4.hi))
def y97 (m:Md) (q:Qy) (b:Bx):Bool:=z5s q&&(sOK m q.c (zb8 q b)&&sOK m q.c (z7f q b))
def yn2 (m:Md) (q:Qy) (b:Bx):Int:=cond (y97 m q b) (sLo m q.c (z7f q b) - sHi m q.c (zb8 q b)) 0
def yn1 (m:Md) (q:Qy) (b:Bx):Int:=cond (y97 m q b) (sHi m q.c (z7f q b) - sLo m q.c (zb8 q b)) 0
def z2r (m:Md) (q:Qy) (b:Bx):Bool:=
 z2b m q &&
  cond b.emp true
   (cond (q.k==1) (sOK m q.c b&&(decide (q.lo≤sLo m q.c b)&&decide (sHi m q.c b≤q.hi)))
    (cond (q.k==2) (yfs m q.c b&&decide (ypy m q.c b > 0))
     (cond (!(zg2 q b)) true
      (cond q.fl (y97 m q b&&decide (yn1 m q b≤0)) (y97 m q b&&decide (yn2 m q b≥0))))))
def zew (q:Qy) (i:Int):Int:=cond (decide (i≥0)&&decide (i < 4)) i (cond ((i==4)&&(q.k==3)) q.ft (-1))
def z4g (m:Md) (q:Qy) (b:Bx) (i:Nat):List Int:=
 cond (decide (zew q (i:Int) < 0)) [] (zkr (b.g i).lo (b.g i).hi (y08 m.ts (zew q (i:Int))))
def spR (m:Md) (q:Qy) (b:Bx):Nat→Nat→Option (Int × Int)
 | 0,_=>none
 | n+1,i=>cond (decide ((z4g m q b i).length > 0)) (some ((i:Int),(z4g m q b i).getD (((z4g m q b i).length - 1) / 2) 0)) (spR m q b n (i+1))
def z1p (m:Md) (q:Qy) (b:Bx):Option (Int × Int):=spR m q b 5 0
def ze3:z0o
 | [m,q]=>zgw m fun m=>zhl q fun q=>.ok (.bool (y9o m q)) []
 | _=>.no
def z2k:z0o
 | [m,q]=>zgw m fun m=>zhl q fun q=>.ok (.bool (z2b m q)) []
 | _=>.no
def z6y:z0o
 | [q]=>zhl q fun q=>.ok (.bool (z5s q)) []
 | _=>.no
def z3h:z0o
 | [q]=>zhl q fun q=>.ok (.bool (z5s q)) []
 | _=>.no
def z89:z0o
 | [q]=>zhl q fun q=>.ok (z4f q).V []
 | _=>.no
def zai:z0o
 | [q,p,.int .i64 t]=>zhl q fun q=>yau p fun p=>.ok (z6b q p t).V []
 | _=>.no
def z71:z0o
 | [m,q,p,.int .i64 t]=>zgw m fun m=>zhl q fun q=>yau p fun p=>.ok (.bool (z3u m q p t)) []
 | _=>.no
def zae:z0o
 | [q,b]=>zhl q fun q=>zg9 b fun b=>.ok (zb8 q b).V []
 | _=>.no
def z9m:z0o
 | [q,b]=>zhl q fun q=>zg9 b fun b=>.ok (z7f q b).V []
 | _=>.no
def z8a:z0o
 | [q,b]=>zhl q fun q=>zg9 b fun b=>.ok (.bool (zg2 q b)) []
 | _=>.no
def z9f:z0o
 | [m,q,b]=>zgw m fun m=>zhl q fun q=>zg9 b fun b=>.ok (.tup [.int .i64 (yn2 m q b),.int .i64 (yn1 m q b),.bool (y97 m q b)]) []
 | _=>.no
def zbn:z0o
 | [m,q,b]=>zgw m fun m=>zhl q fun q=>zg9 b fun b=>.ok (.bool (z2r m q b)) []
 | _=>.no
def zbt:z0o
 | [b]=>zg9 b fun b=>.ok (.tup [b.low.V,.int .i64 b.s4.hi]) []
 | _=>.no
def za8:z0o
 | [q,.int .i64 i]=>zhl q fun q=>.ok (.int .i64 (zew q i)) []
 | _=>.no
def zfe:z0o
 | [m,q,b,.int .i64 i]=>zgw m fun m=>zhl q fun q=>zg9 b fun b=>.br (z2g m&&zse i) (.ok (.list false [.int .i64] (iZ (z4g m q b i.toNat))) []) .no
 | _=>.no
def spI (o:Option (Int × Int)):Int:=match o with | none=>0 | some (i,_)=>i
def zxz (o:Option (Int × Int)):Int:=match o with | none=>0 | some (_,a)=>a
def zdc:z0o
 | [m,q,b]=>zgw m fun m=>zhl q fun q=>zg9 b fun b=>.br (z2g m) (.ok (.tup [.int .i64 (spI (z1p m q b)),.int .i64 (zxz (z1p m q b)),.bool (z1p m q b).isSome]) []) .no
 | _=>.no
structure Sr where
 left:List IV
 proof:List IV
 v:Vd
 spent:Int
def stI (s:Bool) (p a:Int):IV:=.agg [.bool s,.int p,.int a]
def z3s (l:List IV):Bx:=bxI (l.getD (l.length - 1) default)
def zgz (l:List IV):List IV:=l.take (l.length - 1)
def z7k (m:Md) (q:Qy) (s:Sr):Sr:=
 cond (z2r m q (z3s s.left)) ⟨zgz s.left,s.proof++[stI true 0 0],cond (ic (s.left.length - 1)==0) ⟨1,s.proof++[stI true 0 0],0,0,0,0,0,0⟩ s.v,s.spent+1⟩
  (cond (z3u m q (z3s s.left).low (z3s s.left).s4.hi) ⟨zgz s.left,s.proof,⟨2,[],(z3s s.left).s0.lo,(z3s s.left).s1.lo,(z3s s.left).s2.lo,(z3s s.left).s3.lo,(z3s s.left).s4.hi,0⟩,s.spent+1⟩
   (cond (z1p m q (z3s s.left)).isSome
    ⟨zgz s.left++[((z3s s.left).cutH (spI (z1p m q (z3s s.left))) (zxz (z1p m q (z3s s.left)))).I,((z3s s.left).cutL (spI (z1p m q (z3s s.left))) (zxz (z1p m q (z3s s.left)))).I],
     s.proof++[stI false (spI (z1p m q (z3s s.left))) (zxz (z1p m q (z3s s.left)))],s.v,s.spent+1⟩
    ⟨zgz s.left,s.proof,⟨3,[],0,0,0,0,0,0⟩,s.spent+1⟩))
def zgy (q:Qy) (s:Sr):Bool:=!(s.v.kind==0)||decide (s.spent≥q.bu)
def yb0 (m:Md) (q:Qy):Nat→Sr→Sr
 | 0,s=>s
 | n+1,s=>cond (zgy q s) s (yb0 m q n (z7k m q s))
def ymy (m:Md) (q:Qy):Sr:=cond (z2b m q) ⟨[(z4f q).I],[],Vd.none,0⟩ ⟨[],[],⟨4,[],0,0,0,0,0,0⟩,0⟩
def z8i (s:Sr):Vd:=⟨cond (s.v.kind==0) 3 s.v.kind,s.v.proof,s.v.w0,s.v.w1,s.v.w2,s.v.w3,s.v.twin,s.spent⟩
def zd3 (m:Md) (q:Qy):Vd:=z8i (yb0 m q (q.bu.toNat+1) (ymy m q))
def zgv (m:Md) (q:Qy) (r:List FM.V):List FM.V:=m.cs++(q.cs++r)
def seOf? (l:List FM.V):Option (Md × Qy × List FM.V):=
 match mdOf? (l.take 6),qyOf? ((l.drop 6).take 17) with
 | some m,some q=>some (m,q,(l.drop 6).drop 17)
 | _,_=>none
abbrev yus (l:List IV):FM.V:=.vec 36 true zch l
abbrev yue (l:List IV):FM.V:=.vec 127 true z1k l
abbrev yoq (l:List IV):FM.V:=.list true z1k l
def vdT (v:Vd) (vp:FM.V) (sp:Int):List FM.V:=[.int .i64 v.kind,vp,.int .i64 v.w0,.int .i64 v.w1,.int .i64 v.w2,.int .i64 v.w3,.int .i64 v.twin,.int .i64 v.spent,.int .i64 sp]
def srV (t:Nat) (m:Md) (q:Qy) (s:Sr):List FM.V:=
 zgv m q (match t with
  | 0=>yus s.left :: yue s.proof :: vdT s.v .zs s.spent
  | 1=>yus s.left :: .zs :: vdT s.v .zs s.spent
  | 2=>yus s.left :: yoq s.proof :: vdT s.v (yoq s.v.proof) s.spent
  | _=>.zs :: .zs :: vdT s.v .zs s.spent)
def srT?:List FM.V→Option (Nat × Sr)
 | [.vec 36 true [.int .i64,.int .i64,.int .i64,.int .i64,.int .i64,.int .i64,.int .i64,.int .i64,.int .i64,.int .i64] l,.vec 127 true [.bool,.int .i64,.int .i64] p,.int .i64 k,.zs,.int .i64 a,.int .i64 b,.int .i64 c,.int .i64 d,.int .i64 t,.int .i64 vs,.int .i64 sp]=>some (0,⟨l,p,⟨k,[],a,b,c,d,t,vs⟩,sp⟩)
 | [.vec 36 true [.int .i64,.int .i64,.int .i64,.int .i64,.int .i64,.int .i64,.int .i64,.int .i64,.int .i64,.int .i64] l,.zs,.int .i64 k,.zs,.int .i64 a,.int .i64 b,.int .i64 c,.int .i64 d,.int .i64 t,.int .i64 vs,.int .i64 sp]=>some (1,⟨l,[],⟨k,[],a,b,c,d,t,vs⟩,sp⟩)
 | [.vec 36 true [.int .i64,.int .i64,.int .i64,.int .i64,.int .i64,.int .i64,.int .i64,.int .i64,.int .i64,.int .i64] l,.list true [.bool,.int .i64,.int .i64] p,.int .i64 k,.list true [.bool,.int .i64,.int .i64] vp,.int .i64 a,.int .i64 b,.int .i64 c,.int .i64 d,.int .i64 t,.int .i64 vs,.int .i64 sp]=>some (2,⟨l,p,⟨k,vp,a,b,c,d,t,vs⟩,sp⟩)
 | [.zs,.zs,.int .i64 k,.zs,.int .i64 a,.int .i64 b,.int .i64 c,.int .i64 d,.int .i64 t,.int .i64 vs,.int .i64 sp]=>some (3,⟨[],[],⟨k,[],a,b,c,d,t,vs⟩,sp⟩)
 | _=>none
def yes (v:FM.V) (k:Nat→Md→Qy→Sr→R):R:=
 match v with
 | .bor l=>match seOf? l with
  | some (m,q,r)=>match srT? r with
   | some (t,s)=>k t m q s
   | none=>.no
  | none=>.no
 | _=>.no
def yoy (m:Md) (q:Qy) (t:Nat) (s:Sr):Nat:=
 cond (z2r m q (z3s s.left)) (cond (ic (s.left.length - 1)==0) 2 0)
  (cond (z3u m q (z3s s.left).low (z3s s.left).s4.hi) t (cond (z1p m q (z3s s.left)).isSome 0 t))
def zd9:z0o
 | [m,q]=>zgw m fun m=>zhl q fun q=>.br (z2b m q) (.ok (.bor (srV 1 m q ⟨[(z4f q).I],[],Vd.none,0⟩)) []) (.ok (.bor (srV 3 m q ⟨[],[],⟨4,[],0,0,0,0,0,0⟩,0⟩)) [])
 | _=>.no
def z5d:z0o
 | [x]=>yes x fun t m q s=>
  .br (zgy q s) (.ok (.bool false) [srV t m q s])
   (.br (Nat.ble t 1&&(z2b m q&&(decide (0≤s.spent)&&(Nat.blt 0 s.left.length&&(Nat.ble s.left.length 100000&&Nat.ble s.proof.length 100000)))))
    (.br (z2r m q (z3s s.left)) (.br (ic (s.left.length - 1)==0) (.ok (.bool true) [srV 2 m q (z7k m q s)]) (.ok (.bool true) [srV 0 m q (z7k m q s)]))
     (.br (z3u m q (z3s s.left).low (z3s s.left).s4.hi) (.ok (.bool true) [srV t m q (z7k m q s)])
      (.br (z1p m q (z3s s.left)).isSome (.ok (.bool true) [srV 0 m q (z7k m q s)]) (.ok (.bool true) [srV t m q (z7k m q s)])))) .no)
 | _=>.no
def z42:z0o
 | [x]=>yes x fun t m q s=>.br (Nat.ble s.v.proof.length 100000) (.ok (z8i s).V [srV t m q s]) .no
 | _=>.no
def z95:z0o
 | [m,q]=>zgw m fun m=>zhl q fun q=>.ok (zd3 m q).V []
 | _=>.no
def z3k:z0o
 | [.list true [.bool,.int .i64,.int .i64] l]=>.br (Nat.ble l.length 100000) (.ok (.vec 127 true z1k l) []) .no
 | _=>.no
open Go Go.Proofs
def yd6 (N:Nat):Env:=mkE [] [] 2 N
theorem y8g (N:Nat):z0z (yd6 N) zxk [.cell 0 34] [[.int .i64,.int .i64]] []=(some ((.agg [(.i 1),(.i 0)]),[])):=by kernel_rfl
def yme (N:Nat):Env:=mkE [(194,zaz)] [] 12 N
theorem yh1 (N:Nat) (lo hi:Int):z0z (yme N) yaq [.cell 4 34] [[.int .i64,.int .i64]] [(.i lo),(.i hi)]=(cond (decide (lo > hi)) (some ((.agg [(.i 1),(.i 0)]),[])) (some ((.agg [(.i lo),(.i hi)]),[]))):=by kernel_rfl
def yao (N:Nat):Env:=mkE [] [] 8 N
theorem y5y (N:Nat) (s:Sp):z0z (yao N) zte [.tmp 2] [[.bool]] [(Sp.V s)]=(some ((.bool (decide (Sp.lo s > Sp.hi s))),[])):=by kernel_rfl
def ygr (N:Nat):Env:=mkE [] [] 15 N
theorem ydy (N:Nat) (s:Sp) (n:Int):z0z (ygr N) y2s [.tmp 4] [[.bool]] [(Sp.V s),(.i n)]=(cond (decide (Sp.lo s≤n)) (some ((.bool (decide (n≤Sp.hi s))),[])) (some ((.bool false),[]))):=by kernel_rfl
def yha (N:Nat):Env:=mkE [(194,zaz),(193,zjv)] [] 29 N
theorem yd0 (N:Nat) (s:Sp) (atv:Int):z0z (yha N) y1e [.cell 4 34,.cell 5 34] [[.int .i64,.int .i64],[.int .i64,.int .i64]] [(Sp.V s),(.i atv)]=(cond (decide (atv≥Sp.hi s)) (some ((.tup [(Sp.V (yc8 (Sp.lo s) (min (Sp.hi s) atv))),(.agg [(.i 1),(.i 0)])]),[])) (some ((.tup [(Sp.V (yc8 (Sp.lo s) (min (Sp.hi s) atv))),(Sp.V (yc8 (max (Sp.lo s) (IntKind.wrap IntKind.i64 (atv+1))) (Sp.hi s)))]),[]))):=by kernel_rfl
def z3g (N:Nat):Env:=mkE [(55,z2i)] [(3,⟨[0,3,4,5,6,9],[3,5],[]⟩)] 46 N
abbrev z2v (p:Pt) (l0:List IV) (x4 x6 x9:Int) (u00:Bool) (u01 u02 u03 u04 u05:Int):St:=⟨[(0,(.list false [(.int .u64)] l0)),(3,(.ptr 3 0 0)),(4,(.i x4)),(5,(.ptr 5 0 0)),(6,(.i x6)),(9,(.i x9))],[(3,(some (.box (Pt.cs p)))),(5,(some (.box [(.bool u00),(.i u01),(.i u02),(.i u03),(.i u04),(.i u05)])))]⟩
theorem ycf (N:Nat) (l:List IV) (p:Pt):z0z (z3g N) z5x [.tmp 4,.cell 5 111] [[.int .i64],[.bool,.int .i64,.int .i64,.int .i64,.int .i64,.int .i64]] [(.list false [.int .u64] l),(Pt.V p)]=(lpE (z3g N) (z0f z5x [1,1,0,1,0,0]) ⟨[0,3,4,5,6,9],[3,5],[]⟩ N (z2v p l 0 0 0 false 0 0 0 0 0) (z05 0 (kSq (z3g N) (z0f z5x [1,1,1]) (z2s (z3g N) none [(ResultVar.tmp 4),(ResultVar.cell 5 111)] [[(.int .i64)],[.bool,(.int .i64),(.int .i64),(.int .i64),(.int .i64),(.int .i64)]])))):=by kernel_rfl
theorem zpb (N:Nat) (p:Pt) (l0:List IV) (x4 x6 x9:Int) (u00:Bool) (u01 u02 u03 u04 u05:Int) (again:St→Res) (k:Out→St→Res):rnd (z3g N) (z0f z5x [1,1,0,1,0,0]) (z2v p l0 x4 x6 x9 u00 u01 u02 u03 u04 u05) (z3t again ⟨[0,3,4,5,6,9],[3,5],[]⟩ k)=(cond (decide (x9 < 31)) (cond (decide (x6≥ic (List.length l0))) (k (.exit 0) (z2v p l0 x4 x6 x9 u00 u01 u02 u03 u04 u05)) (cond (decide (0≤x6)&&decide (x6 < ic (List.length l0))) (cond (!zbi (IV.toInt (List.getD l0 (Int.toNat x6) default))) (k .ret (z2v p l0 (-1) x6 x9 false 0 0 0 0 0)) (cond (Nd.lf (z07 (IV.toInt (List.getD l0 (Int.toNat x6) default)))) (k .ret ⟨[(0,(.list false [(.int .u64)] l0)),(3,(.ptr 3 0 0)),(4,(.i x6)),(5,(.ptr 5 0 0)),(6,(.i x6)),(9,(.i x9))],[(3,(some (.box (Pt.cs p)))),(5,(some (.box (Nd.cs (z07 (IV.toInt (List.getD l0 (Int.toNat x6) default)))))))]⟩) (cond (decide (Nd.f (z07 (IV.toInt (List.getD l0 (Int.toNat x6) default)))=ic 0)) (cond (decide (Pt.p0 p≤Nd.a (z07 (IV.toInt (List.getD l0 (Int.toNat x6) default))))) (again (z2v p l0 x4 (Nd.l (z07 (IV.toInt (List.getD l0 (Int.toNat x6) default)))) (IntKind.wrap IntKind.i64 (x9+1)) u00 u01 u02 u03 u04 u05)) (again (z2v p l0 x4 (Nd.r (z07 (IV.toInt (List.getD l0 (Int.toNat x6) default)))) (IntKind.wrap IntKind.i64 (x9+1)) u00 u01 u02 u03 u04 u05))) (cond (decide (Nd.f (z07 (IV.toInt (List.getD l0 (Int.toNat x6) default)))=ic 1)) (cond (decide (Pt.p1 p≤Nd.a (z07 (IV.toInt (List.getD l0 (Int.toNat x6) default))))) (again (z2v p l0 x4 (Nd.l (z07 (IV.toInt (List.getD l0 (Int.toNat x6) default)))) (IntKind.wrap IntKind.i64 (x9+1)) u00 u01 u02 u03 u04 u05)) (again (z2v p l0 x4 (Nd.r (z07 (IV.toInt (List.getD l0 (Int.toNat x6) default)))) (IntKind.wrap IntKind.i64 (x9+1)) u00 u01 u02 u03 u04 u05))) (cond (decide (Nd.f (z07 (IV.toInt (List.getD l0 (Int.toNat x6) default)))=ic 2)) (cond (decide (Pt.p2 p≤Nd.a (z07 (IV.toInt (List.getD l0 (Int.toNat x6) default))))) (again (z2v p l0 x4 (Nd.l (z07 (IV.toInt (List.getD l0 (Int.toNat x6) default)))) (IntKind.wrap IntKind.i64 (x9+1)) u00 u01 u02 u03 u04 u05)) (again (z2v p l0 x4 (Nd.r (z07 (IV.toInt (List.getD l0 (Int.toNat x6) default)))) (IntKind.wrap IntKind.i64 (x9+1)) u00 u01 u02 u03 u04 u05))) (cond (decide (Nd.f (z07 (IV.toInt (List.getD l0 (Int.toNat x6) default)))=ic 3)) (cond (decide (Pt.p3 p≤Nd.a (z07 (IV.toInt (List.getD l0 (Int.toNat x6) default))))) (again (z2v p l0 x4 (Nd.l (z07 (IV.toInt (List.getD l0 (Int.toNat x6) default)))) (IntKind.wrap IntKind.i64 (x9+1)) u00 u01 u02 u03 u04 u05)) (again (z2v p l0 x4 (Nd.r (z07 (IV.toInt (List.getD l0 (Int.toNat x6) default)))) (IntKind.wrap IntKind.i64 (x9+1)) u00 u01 u02 u03 u04 u05))) none)))))) none)) (k (.exit 0) (z2v p l0 x4 x6 x9 u00 u01 u02 u03 u04 u05))):=by kernel_rfl
theorem zkq (N:Nat) (p:Pt) (l0:List IV) (x4 x6 x9:Int) (u00:Bool) (u01 u02 u03 u04 u05:Int):(z05 0 (kSq (z3g N) (z0f z5x [1,1,1]) (z2s (z3g N) none [(ResultVar.tmp 4),(ResultVar.cell 5 111)] [[(.int .i64)],[.bool,(.int .i64),(.int .i64),(.int .i64),(.int .i64),(.int .i64)]]))) (.exit 0) (z2v p l0 x4 x6 x9 u00 u01 u02 u03 u04 u05)=(some ((.tup [(.i (-1)),(.agg [(.bool false),(.i 0),(.i 0),(.i 0),(.i 0),(.i 0)])]),[])):=by kernel_rfl
theorem zvg (N:Nat) (p:Pt) (l0:List IV) (x4 x6 x9:Int) (u00:Bool) (u01 u02 u03 u04 u05:Int):(z05 0 (kSq (z3g N) (z0f z5x [1,1,1]) (z2s (z3g N) none [(ResultVar.tmp 4),(ResultVar.cell 5 111)] [[(.int .i64)],[.bool,(.int .i64),(.int .i64),(.int .i64),(.int .i64),(.int .i64)]]))) .ret (z2v p l0 x4 x6 x9 u00 u01 u02 u03 u04 u05)=(some ((.tup [(.i x4),(.agg [(.bool u00),(.i u01),(.i u02),(.i u03),(.i u04),(.i u05)])]),[])):=by kernel_rfl
def ybb (N:Nat):Env:=mkE [(217,zh7)] [] 15 N
theorem y6a (N:Nat) (l:List IV) (p:Pt):z0z (ybb N) zsv [.tmp 4] [[.int .i64]] [(.list false [.int .u64] l),(Pt.V p)]=(some ((.i (Nd.v (yns l p))),[])):=by kernel_rfl
def z2m (N:Nat):Env:=mkE [(195,zdd)] [(3,⟨[1,5,6,7,15,16,17],[5],[]⟩)] 33 N
abbrev z5p (p:Pt) (x1 x6 x7:Int) (l15:List IV) (x16 x17:Int):St:=⟨[(1,(.i x1)),(5,(.ptr 5 0 0)),(6,(.i x6)),(7,(.i x7)),(15,(.list true zns l15)),(16,(.i x16)),(17,(.i x17))],[(5,(some (.box (Pt.cs p))))]⟩
theorem y3a (N:Nat) (m:Md) (u00:Int) (p:Pt):z0z (z2m N) z4e [.tmp 6] [[.int .i64]] [(Md.V m),(.i u00),(Pt.V p)]=(cond (decide (u00=ic 0)) (lpE (z2m N) (z0f z4e [1,1,0,1,0,0]) ⟨[1,5,6,7,15,16,17],[5],[]⟩ N (z5p p u00 0 (Md.b0 m) (Md.ts m) (ic (List.length (Md.ts m))) 0) (z05 0 (kSq (z2m N) (z0f z4e [1,1,1]) (z2s (z2m N) none [(ResultVar.tmp 6)] [[(.int .i64)]])))) (cond (decide (u00=ic 1)) (lpE (z2m N) (z0f z4e [1,1,0,1,0,0]) ⟨[1,5,6,7,15,16,17],[5],[]⟩ N (z5p p u00 0 (Md.b1 m) (Md.ts m) (ic (List.length (Md.ts m))) 0) (z05 0 (kSq (z2m N) (z0f z4e [1,1,1]) (z2s (z2m N) none [(ResultVar.tmp 6)] [[(.int .i64)]])))) (cond (decide (u00=ic 2)) (lpE (z2m N) (z0f z4e [1,1,0,1,0,0]) ⟨[1,5,6,7,15,16,17],[5],[]⟩ N (z5p p u00 0 (Md.b2 m) (Md.ts m) (ic (List.length (Md.ts m))) 0) (z05 0 (kSq (z2m N) (z0f z4e [1,1,1]) (z2s (z2m N) none [(ResultVar.tmp 6)] [[(.int .i64)]])))) none))):=by kernel_rfl
theorem zks (N:Nat) (p:Pt) (x1 x6 x7:Int) (l15:List IV) (x16 x17:Int) (again:St→Res) (k:Out→St→Res):rnd (z2m N) (z0f z4e [1,1,0,1,0,0]) (z5p p x1 x6 x7 l15 x16 x17) (z3t again ⟨[1,5,6,7,15,16,17],[5],[]⟩ k)=(cond (decide (x17 < x16)) (cond (decide (0≤x17)&&decide (x17 < ic (List.length l15))) (cond (IV.toInt (IV.cell (List.getD l15 (Int.toNat x17) default) 0)==x1) (again (z5p p x1 x6 (IntKind.wrap IntKind.i64 (x7+zmm (IV.toList (IV.cell (List.getD l15 (Int.toNat x17) default) 1)) p)) l15 x16 (IntKind.wrap IntKind.i64 (x17+1)))) (again (z5p p x1 x6 x7 l15 x16 (IntKind.wrap IntKind.i64 (x17+1))))) none) (k (.exit 0) (z5p p x1 x6 x7 l15 x16 x17))):=by kernel_rfl
theorem zr6 (N:Nat) (p:Pt) (x1 x6 x7:Int) (l15:List IV) (x16 x17:Int):(z05 0 (kSq (z2m N) (z0f z4e [1,1,1]) (z2s (z2m N) none [(ResultVar.tmp 6)] [[(.int .i64)]]))) (.exit 0) (z5p p x1 x6 x7 l15 x16 x17)=(some ((.i x7),[])):=by kernel_rfl
def y9w (N:Nat):Env:=mkE [(53,z2j),(159,zd6)] [] 24 N
theorem y3m (N:Nat) (m:Md) (u00:Int) (p:Pt):z0z (y9w N) ztq [.tmp 6] [[.int .i64]] [(Md.V m),(.i u00),(Pt.V p)]=(cond (!z2g m) (some ((.i 0),[])) (cond (decide (u00 < 0)) (some ((.i 0),[])) (cond (decide (u00≥Md.c m)) (some ((.i 0),[])) (cond (z2g m&&zd7 m u00) (some ((.i (evF u00 p (Md.ts m) (zep m u00))),[])) none)))):=by kernel_rfl
def ybw (N:Nat):Env:=mkE [(155,z8t)] [(2,⟨[2,5,6],[],[]⟩)] 12 N
def yms (N:Nat):Env:=mkE [] [(3,⟨[1,2,3,5],[1,2,3],[]⟩)] 16 N
open Go Go.Proofs
def z1c (N:Nat):Env:=mkI [(53,z2j),(55,z2i)] [(202,zq1),(201,yex)] [(5,⟨[1,4,5,16,17,18],[500],[⟨.tmp 5,500,3,false,[.int .i64]⟩]⟩),(8,⟨[1,4,5,16,17,18,23,24,25],[500],[⟨.tmp 5,500,3,false,[.int .i64]⟩]⟩)] 54 N
abbrev z5f (x1:Int) (n5:Nat) (l16:List IV) (x17 x18:Int) (u00:List IV):St:=⟨[(1,(.i x1)),(4,.zs),(5,(.row 500 0 n5)),(16,(.list true zns l16)),(17,(.i x17)),(18,(.i x18))],[(500,(some (.row true 3 false [(.int .i64)] u00)))]⟩
abbrev z3a (x1:Int) (n5:Nat) (l16:List IV) (x17 x18:Int) (l23:List IV) (x24 x25:Int) (u00:List IV):St:=⟨[(1,(.i x1)),(4,.zs),(5,(.row 500 0 n5)),(16,(.list true zns l16)),(17,(.i x17)),(18,(.i x18)),(23,(.list false [(.int .u64)] l23)),(24,(.i x24)),(25,(.i x25))],[(500,(some (.row true 3 false [(.int .i64)] u00)))]⟩
theorem znx (N:Nat) (m:Md) (u00:Int):z0z (z1c N) z1i [.tmp 4] [] [(Md.V m),(.i u00)]=(cond (!z2g m) (some (.any,[])) (lpE (z1c N) (z0f z1i [1,1,1,0,1,0,0]) ⟨[1,4,5,16,17,18],[500],[⟨(.tmp 5),500,3,false,[(.int .i64)]⟩]⟩ N (z5f u00 0 (Md.ts m) (ic (List.length (Md.ts m))) 0 []) (z05 0 (kSq (z1c N) (z0f z1i [1,1,1,1]) (z2s (z1c N) none [(ResultVar.tmp 4)] []))))):=by kernel_rfl
theorem zdk (N:Nat) (x1:Int) (n5:Nat) (l16:List IV) (x17 x18:Int) (u00:List IV) (again:St→Res) (k:Out→St→Res):rnd (z1c N) (z0f z1i [1,1,1,0,1,0,0]) (z5f x1 n5 l16 x17 x18 u00) (z3t again ⟨[1,4,5,16,17,18],[500],[⟨(.tmp 5),500,3,false,[(.int .i64)]⟩]⟩ k)=(cond (decide (x18 < x17)) (cond (decide (0≤x18)&&decide (x18 < ic (List.length l16))) (lpE (z1c N) (z0f z1i [1,1,1,0,1,0,0,1,1,0,0,1,1,0,0]) ⟨[1,4,5,16,17,18,23,24,25],[500],[⟨(.tmp 5),500,3,false,[(.int .i64)]⟩]⟩ N (z3a x1 n5 l16 x17 x18 (IV.toList (IV.cell (List.getD l16 (Int.toNat x18) default) 1)) (ic (List.length (IV.toList (IV.cell (List.getD l16 (Int.toNat x18) default) 1)))) 0 u00) (z05 2 (z05 1 (kSq (z1c N) (z0f z1i [1,1,1,0,1,0,0,1,1,1]) (z3t again ⟨[1,4,5,16,17,18],[500],[⟨(.tmp 5),500,3,false,[(.int .i64)]⟩]⟩ k))))) none) (k (.exit 0) (z5f x1 n5 l16 x17 x18 u00))):=by kernel_rfl
theorem zdr (N:Nat) (x1:Int) (n5:Nat) (l16:List IV) (x17 x18:Int) (l23:List IV) (x24 x25:Int) (u00:List IV) (again:St→Res) (k:Out→St→Res):rnd (z1c N) (z0f z1i [1,1,1,0,1,0,0,1,1,0,0,1,1,0,0]) (z3a x1 n5 l16 x17 x18 l23 x24 x25 u00) (z3t again ⟨[1,4,5,16,17,18,23,24,25],[500],[⟨(.tmp 5),500,3,false,[(.int .i64)]⟩]⟩ k)=(cond (decide (x25 < x24)) (cond (decide (0≤x25)&&decide (x25 < ic (List.length l23))) (cond (!Nd.lf (z07 (IV.toInt (List.getD l23 (Int.toNat x25) default)))) (cond (Nd.f (z07 (IV.toInt (List.getD l23 (Int.toNat x25) default)))==x1) (cond (decide ((n5+1)*8≤z08)) (again (z3a x1 (n5+1) l16 x17 x18 l23 x24 (IntKind.wrap IntKind.i64 (x25+1)) (List.take n5 u00++[IV.int (Nd.a (z07 (IV.toInt (List.getD l23 (Int.toNat x25) default))))]))) none) (again (z3a x1 n5 l16 x17 x18 l23 x24 (IntKind.wrap IntKind.i64 (x25+1)) u00))) (again (z3a x1 n5 l16 x17 x18 l23 x24 (IntKind.wrap IntKind.i64 (x25+1)) u00))) none) (k (.exit 2) (z3a x1 n5 l16 x17 x18 l23 x24 x25 u00))):=by kernel_rfl
theorem zhv (N:Nat) (x1:Int) (n5:Nat) (l16:List IV) (x17 x18:Int) (u00:List IV):(z05 0 (kSq (z1c N) (z0f z1i [1,1,1,1]) (z2s (z1c N) none [(ResultVar.tmp 4)] []))) (.exit 0) (z5f x1 n5 l16 x17 x18 u00)=(cond (Nat.beq n5 (List.length u00)) (cond (Nat.beq (List.length (iZ (zjq (List.map IV.toInt u00)))) (List.length u00)) (cond (Nat.beq n5 (List.length (iZ (zjq (List.map IV.toInt u00))))) (cond (Nat.ble (List.length (iZ (y68 (List.map IV.toInt (iZ (zjq (List.map IV.toInt u00))))))) (List.length (iZ (zjq (List.map IV.toInt u00))))) (some ((.vec 3 false [(.int .i64)] (List.take (List.length (iZ (y68 (List.map IV.toInt (iZ (zjq (List.map IV.toInt u00))))))) (iZ (y68 (List.map IV.toInt (iZ (zjq (List.map IV.toInt u00)))))))),[])) none) none) none) none):=by kernel_rfl
theorem zip (N:Nat) (again:St→Res) (k:Out→St→Res) (x1:Int) (n5:Nat) (l16:List IV) (x17 x18:Int) (l23:List IV) (x24 x25:Int) (u00:List IV):(z05 2 (z05 1 (kSq (z1c N) (z0f z1i [1,1,1,0,1,0,0,1,1,1]) (z3t again ⟨[1,4,5,16,17,18],[500],[⟨(.tmp 5),500,3,false,[(.int .i64)]⟩]⟩ k)))) (.exit 2) (z3a x1 n5 l16 x17 x18 l23 x24 x25 u00)=(again (z5f x1 n5 l16 x17 (IntKind.wrap IntKind.i64 (x18+1)) u00)):=by kernel_rfl
def zz9 (N:Nat):Env:=mkE [] [] 23 N
theorem zyv (N:Nat) (q:Qy) (u00:Int):z0z (zz9 N) zmy [.tmp 4] [[.int .i64]] [(Qy.V q),(.i u00)]=(cond (decide (u00≥0)) (cond (decide (u00 < 4)) (some ((.i u00),[])) (cond (u00==4) (cond (Qy.k q==3) (some ((.i (Qy.ft q)),[])) (some ((.i (-1)),[]))) (some ((.i (-1)),[])))) (cond (u00==4) (cond (Qy.k q==3) (some ((.i (Qy.ft q)),[])) (some ((.i (-1)),[]))) (some ((.i (-1)),[])))):=by kernel_rfl
def zxy (N:Nat):Env:=mkI [(166,za8),(168,z6s)] [(167,zv5)] [] 24 N
def yag (N:Nat):Env:=mkE [] [] 71 N
theorem y63 (N:Nat) (m:Md) (a1:Qy):z0z (yag N) zt7 [.tmp 4] [[.bool]] [(Md.V m),(Qy.V a1)]=(cond (Qy.k a1==1) (cond (decide (Qy.lo a1≤Qy.hi a1)) (cond (Qy.ft a1==0) (some ((.bool (!Qy.fl a1)),[])) (some ((.bool false),[]))) (some ((.bool false),[]))) (cond (Qy.k a1==2) (cond (decide (Md.c m≥2)) (cond (Qy.lo a1==0) (cond (Qy.hi a1==0) (cond (Qy.ft a1==0) (some ((.bool (!Qy.fl a1)),[])) (some ((.bool false),[]))) (some ((.bool false),[]))) (some ((.bool false),[]))) (some ((.bool false),[]))) (cond (Qy.k a1==3) (cond (decide (Qy.ft a1≥0)) (cond (decide (Qy.ft a1 < Md.d m)) (cond (Qy.lo a1==0) (some ((.bool (Qy.hi a1==0)),[])) (some ((.bool false),[]))) (some ((.bool false),[]))) (some ((.bool false),[]))) (some ((.bool false),[]))))):=by kernel_rfl
def y6f (N:Nat):Env:=mkE [(53,z2j),(108,ze3),(107,zam)] [] 41 N
theorem y0b (N:Nat) (m:Md) (q:Qy):z0z (y6f N) zow [.tmp 4] [[.bool]] [(Md.V m),(Qy.V q)]=(cond (z2g m) (cond (decide (Qy.c q≥0)) (cond (decide (Qy.c q < Md.c m)) (cond (decide (Qy.bu q≥0)) (cond (decide (Qy.bu q≤65536)) (cond (y6l {s0:={lo:=Qy.a0 q,hi:=Qy.b0 q},s1:={lo:=Qy.a1 q,hi:=Qy.b1 q},s2:={lo:=Qy.a2 q,hi:=Qy.b2 q},s3:={lo:=Qy.a3 q,hi:=Qy.b3 q},s4:={lo:=Qy.a4 q,hi:=Qy.b4 q}} (Md.d m)) (some ((.bool (y9o m q)),[])) (some ((.bool false),[]))) (some ((.bool false),[]))) (some ((.bool false),[]))) (some ((.bool false),[]))) (some ((.bool false),[]))) (some ((.bool false),[]))):=by kernel_rfl
def zze (N:Nat):Env:=mkE [] [] 16 N
theorem zyd (N:Nat) (q:Qy):z0z (zze N) zmi [.tmp 2] [[.bool]] [(Qy.V q)]=(cond (Qy.k q==3) (cond (decide (Qy.ft q≥0)) (some ((.bool (decide (Qy.ft q < 4))),[])) (some ((.bool false),[]))) (some ((.bool false),[]))):=by kernel_rfl
def y4w (N:Nat):Env:=mkE [(109,z6y)] [] 16 N
theorem zzg (N:Nat) (q:Qy):z0z (y4w N) zpk [.cell 2 36] [[.int .i64,.int .i64,.int .i64,.int .i64,.int .i64,.int .i64,.int .i64,.int .i64,.int .i64,.int .i64]] [(Qy.V q)]=(cond (z5s q) (cond (decide (Qy.ft q=ic 0)) (some ((.agg [(.i (Qy.a0 q)),(.i (Qy.b0 q)),(.i (Qy.a1 q)),(.i (Qy.b1 q)),(.i (Qy.a2 q)),(.i (Qy.b2 q)),(.i (Qy.a3 q)),(.i (Qy.b3 q)),(.i (Qy.a0 q)),(.i (Qy.b0 q))]),[])) (cond (decide (Qy.ft q=ic 1)) (some ((.agg [(.i (Qy.a0 q)),(.i (Qy.b0 q)),(.i (Qy.a1 q)),(.i (Qy.b1 q)),(.i (Qy.a2 q)),(.i (Qy.b2 q)),(.i (Qy.a3 q)),(.i (Qy.b3 q)),(.i (Qy.a1 q)),(.i (Qy.b1 q))]),[])) (cond (decide (Qy.ft q=ic 2)) (some ((.agg [(.i (Qy.a0 q)),(.i (Qy.b0 q)),(.i (Qy.a1 q)),(.i (Qy.b1 q)),(.i (Qy.a2 q)),(.i (Qy.b2 q)),(.i (Qy.a3 q)),(.i (Qy.b3 q)),(.i (Qy.a2 q)),(.i (Qy.b2 q))]),[])) (cond (decide (Qy.ft q=ic 3)) (some ((.agg [(.i (Qy.a0 q)),(.i (Qy.b0 q)),(.i (Qy.a1 q)),(.i (Qy.b1 q)),(.i (Qy.a2 q)),(.i (Qy.b2 q)),(.i (Qy.a3 q)),(.i (Qy.b3 q)),(.i (Qy.a3 q)),(.i (Qy.b3 q))]),[])) (cond (decide (Qy.ft q=ic 4)) (some ((.agg [(.i (Qy.a0 q)),(.i (Qy.b0 q)),(.i (Qy.a1 q)),(.i (Qy.b1 q)),(.i (Qy.a2 q)),(.i (Qy.b2 q)),(.i (Qy.a3 q)),(.i (Qy.b3 q)),(.i 0),(.i 0)]),[])) none))))) (some ((.agg [(.i (Qy.a0 q)),(.i (Qy.b0 q)),(.i (Qy.a1 q)),(.i (Qy.b1 q)),(.i (Qy.a2 q)),(.i (Qy.b2 q)),(.i (Qy.a3 q)),(.i (Qy.b3 q)),(.i 0),(.i 0)]),[]))):=by kernel_rfl
def zzc (N:Nat):Env:=mkE [(109,z6y)] [] 14 N
theorem zyb (N:Nat) (q:Qy) (p:Pt) (twin:Int):z0z (zzc N) zmu [.cell 6 53] [[.int .i64,.int .i64,.int .i64,.int .i64]] [(Qy.V q),(Pt.V p),(.i twin)]=(cond (z5s q) (cond (decide (Qy.ft q=ic 0)) (some ((.agg [(.i twin),(.i (Pt.p1 p)),(.i (Pt.p2 p)),(.i (Pt.p3 p))]),[])) (cond (decide (Qy.ft q=ic 1)) (some ((.agg [(.i (Pt.p0 p)),(.i twin),(.i (Pt.p2 p)),(.i (Pt.p3 p))]),[])) (cond (decide (Qy.ft q=ic 2)) (some ((.agg [(.i (Pt.p0 p)),(.i (Pt.p1 p)),(.i twin),(.i (Pt.p3 p))]),[])) (cond (decide (Qy.ft q=ic 3)) (some ((.agg [(.i (Pt.p0 p)),(.i (Pt.p1 p)),(.i (Pt.p2 p)),(.i twin)]),[])) none)))) (some ((Pt.V p),[]))):=by kernel_rfl
def z1o (N:Nat):Env:=mkE [(115,ze0),(65,z2k),(116,zai),(114,zcs)] [(9,⟨[4,5,6,8,9,36,37],[4,5,6],[]⟩)] 75 N
abbrev z4a (m:Md) (a1:Qy) (a2:Pt) (b8:Bool) (x9 x36 x37:Int):St:=⟨[(4,(.ptr 4 0 0)),(5,(.ptr 5 0 0)),(6,(.ptr 6 0 0)),(8,(.bool b8)),(9,(.i x9)),(36,(.i x36)),(37,(.i x37))],[(4,(some (.box (Md.cs m)))),(5,(some (.box (Qy.cs a1)))),(6,(some (.box (Pt.cs a2))))]⟩
theorem zw4 (N:Nat) (m:Md) (a1:Qy) (a2:Pt) (a3:Int):z0z (z1o N) z2l [.tmp 8] [[.bool]] [(Md.V m),(Qy.V a1),(Pt.V a2),(.i a3)]=(cond (!z2b m a1) (some ((.bool false),[])) (cond (Qy.k a1==1) (some ((.bool (!Sp.has {lo:=Qy.lo a1,hi:=Qy.hi a1} (z3j m (Qy.c a1) a2))),[])) (cond (Qy.k a1==2) (lpE (z1o N) (z0f z2l [1,1,1,0,1,0,1,1,1,0,0,1,0,0]) ⟨[4,5,6,8,9,36,37],[4,5,6],[]⟩ N (z4a m a1 a2 false (z3j m (Qy.c a1) a2) (Md.c m) 0) (z05 1 (kSq (z1o N) (z0f z2l [1,1,1,0,1,0,1,1,1,0,1]) (z05 0 (kSq (z1o N) (z0f z2l [1,1,1,1]) (z2s (z1o N) none [(ResultVar.tmp 8)] [[.bool]])))))) (cond (decide (Qy.ft a1=ic 0)) (cond (decide (Pt.p0 a2≥a3)) (some ((.bool false),[])) (cond (Qy.fl a1) (some ((.bool (decide (z3j m (Qy.c a1) (z6b a1 a2 a3) > z3j m (Qy.c a1) a2))),[])) (some ((.bool (decide (z3j m (Qy.c a1) (z6b a1 a2 a3) < z3j m (Qy.c a1) a2))),[])))) (cond (decide (Qy.ft a1=ic 1)) (cond (decide (Pt.p1 a2≥a3)) (some ((.bool false),[])) (cond (Qy.fl a1) (some ((.bool (decide (z3j m (Qy.c a1) (z6b a1 a2 a3) > z3j m (Qy.c a1) a2))),[])) (some ((.bool (decide (z3j m (Qy.c a1) (z6b a1 a2 a3) < z3j m (Qy.c a1) a2))),[])))) (cond (decide (Qy.ft a1=ic 2)) (cond (decide (Pt.p2 a2≥a3)) (some ((.bool false),[])) (cond (Qy.fl a1) (some ((.bool (decide (z3j m (Qy.c a1) (z6b a1 a2 a3) > z3j m (Qy.c a1) a2))),[])) (some ((.bool (decide (z3j m (Qy.c a1) (z6b a1 a2 a3) < z3j m (Qy.c a1) a2))),[])))) (cond (decide (Qy.ft a1=ic 3)) (cond (decide (Pt.p3 a2≥a3)) (some ((.bool false),[])) (cond (Qy.fl a1) (some ((.bool (decide (z3j m (Qy.c a1) (z6b a1 a2 a3) > z3j m (Qy.c a1) a2))),[])) (some ((.bool (decide (z3j m (Qy.c a1) (z6b a1 a2 a3) < z3j m (Qy.c a1) a2))),[])))) none))))))):=by kernel_rfl
theorem zhn (N:Nat) (m:Md) (a1:Qy) (a2:Pt) (b8:Bool) (x9 x36 x37:Int) (again:St→Res) (k:Out→St→Res):rnd (z1o N) (z0f z2l [1,1,1,0,1,0,1,1,1,0,0,1,0,0]) (z4a m a1 a2 b8 x9 x36 x37) (z3t again ⟨[4,5,6,8,9,36,37],[4,5,6],[]⟩ k)=(cond (decide (x37 < x36)) (cond (x37 != Qy.c a1) (cond (decide (z3j m x37 a2≥x9)) (k .ret (z4a m a1 a2 true x9 x36 x37)) (again (z4a m a1 a2 b8 x9 x36 (IntKind.wrap IntKind.i64 (x37+1))))) (again (z4a m a1 a2 b8 x9 x36 (IntKind.wrap IntKind.i64 (x37+1))))) (k (.exit 1) (z4a m a1 a2 b8 x9 x36 x37))):=by kernel_rfl
theorem zo5 (N:Nat) (m:Md) (a1:Qy) (a2:Pt) (b8:Bool) (x9 x36 x37:Int):(z05 1 (kSq (z1o N) (z0f z2l [1,1,1,0,1,0,1,1,1,0,1]) (z05 0 (kSq (z1o N) (z0f z2l [1,1,1,1]) (z2s (z1o N) none [(ResultVar.tmp 8)] [[.bool]]))))) (.exit 1) (z4a m a1 a2 b8 x9 x36 x37)=(some ((.bool false),[])):=by kernel_rfl
theorem znq (N:Nat) (m:Md) (a1:Qy) (a2:Pt) (b8:Bool) (x9 x36 x37:Int):(z05 1 (kSq (z1o N) (z0f z2l [1,1,1,0,1,0,1,1,1,0,1]) (z05 0 (kSq (z1o N) (z0f z2l [1,1,1,1]) (z2s (z1o N) none [(ResultVar.tmp 8)] [[.bool]]))))) .ret (z4a m a1 a2 b8 x9 x36 x37)=(some ((.bool b8),[])):=by kernel_rfl
def y0k (N:Nat):Env:=mkE [(93,z7w),(155,z8t)] [(2,⟨[1,4,7,8],[],[]⟩)] 35 N
open Go Go.Proofs
def z4o (N:Nat):Env:=mkE [(111,z92),(112,z2u),(55,z2i),(96,z97)] [(7,⟨[4,5,6,24,25,26],[20,500],[⟨.tmp 6,500,275,true,[.int .i64,.int .i64,.int .i64,.int .i64,.int .i64,.int .i64,.int .i64,.int .i64,.int .i64,.int .i64,.int .i64]⟩]⟩)] 79 N
abbrev z64 (n5 n6:Nat) (l24:List IV) (x25 x26:Int) (lo20 u00:List IV):St:=⟨[(4,.zs),(5,(.row 20 0 n5)),(6,(.row 500 0 n6)),(24,(.list false [(.int .u64)] l24)),(25,(.i x25)),(26,(.i x26))],[(20,(some (.row true 36 true zch lo20))),(500,(some (.row true 275 true zfl u00)))]⟩
theorem y0g (N:Nat) (l:List IV) (a1:Bx):z0z (z4o N) z6p [.tmp 4] [[.list true [.int .i64,.int .i64,.int .i64,.int .i64,.int .i64,.int .i64,.int .i64,.int .i64,.int .i64,.int .i64,.int .i64]]] [(.list false [.int .u64] l),(Bx.V a1)]=(cond (!zav l 4) (some ((.list true zfl []),[])) (cond (Bx.emp a1) (some ((.list true zfl []),[])) (cond (true&&(true&&decide (0≤ic (List.length l)))&&(decide (ic (List.length l)=ic (List.length l))&&decide (ic (List.length l)*ic 80≤ic z08))) (cond (decide (0≤0)&&decide (0 < ic (Int.toNat (ic (List.length l)) - 0))) (lpE (z4o N) (z0f z6p [1,1,1,1,1,0,1,0,0]) ⟨[4,5,6,24,25,26],[20,500],[⟨(.tmp 6),500,275,true,zfl⟩]⟩ N (z64 (Int.toNat (ic (List.length l))) 0 l (ic (List.length l)) 0 (List.set (List.replicate (Int.toNat (ic (List.length l))) (IV.agg [IV.int 0,IV.int 0,IV.int 0,IV.int 0,IV.int 0,IV.int 0,IV.int 0,IV.int 0,IV.int 0,IV.int 0])) 0 (Bx.I a1)) []) (z05 0 (kSq (z4o N) (z0f z6p [1,1,1,1,1,1]) (z2s (z4o N) none [(ResultVar.tmp 4)] [[(.list true zfl)]])))) none) none))):=by kernel_rfl
theorem ziv (N n5 n6:Nat) (l24:List IV) (x25 x26:Int) (lo20 u00:List IV) (again:St→Res) (k:Out→St→Res):rnd (z4o N) (z0f z6p [1,1,1,1,1,0,1,0,0]) (z64 n5 n6 l24 x25 x26 lo20 u00) (z3t again ⟨[4,5,6,24,25,26],[20,500],[⟨(.tmp 6),500,275,true,zfl⟩]⟩ k)=(cond (decide (x26 < x25)) (cond (decide (0≤x26)&&decide (x26 < ic (List.length l24))) (cond (!Nd.lf (z07 (IV.toInt (List.getD l24 (Int.toNat x26) default)))) (cond (decide (0≤x26)&&decide (x26 < ic (n5 - 0))) (cond (zse (Nd.f (z07 (IV.toInt (List.getD l24 (Int.toNat x26) default))))) (cond (decide (0≤Nd.l (z07 (IV.toInt (List.getD l24 (Int.toNat x26) default))))&&decide (Nd.l (z07 (IV.toInt (List.getD l24 (Int.toNat x26) default))) < ic (n5 - 0))) (cond (decide (0≤Nd.r (z07 (IV.toInt (List.getD l24 (Int.toNat x26) default))))&&decide (Nd.r (z07 (IV.toInt (List.getD l24 (Int.toNat x26) default))) < ic (n5 - 0))) (again (z64 n5 n6 l24 x25 (IntKind.wrap IntKind.i64 (x26+1)) (List.set (List.set lo20 (0+Int.toNat (Nd.l (z07 (IV.toInt (List.getD l24 (Int.toNat x26) default))))) (Bx.I (Bx.cutL (bxI (List.getD lo20 (0+Int.toNat x26) default)) (Nd.f (z07 (IV.toInt (List.getD l24 (Int.toNat x26) default)))) (Nd.a (z07 (IV.toInt (List.getD l24 (Int.toNat x26) default))))))) (0+Int.toNat (Nd.r (z07 (IV.toInt (List.getD l24 (Int.toNat x26) default))))) (Bx.I (Bx.cutH (bxI (List.getD lo20 (0+Int.toNat x26) default)) (Nd.f (z07 (IV.toInt (List.getD l24 (Int.toNat x26) default)))) (Nd.a (z07 (IV.toInt (List.getD l24 (Int.toNat x26) default))))))) u00)) none) none) none) none) (cond (decide (0≤x26)&&decide (x26 < ic (n5 - 0))) (cond (!Bx.emp (bxI (List.getD lo20 (0+Int.toNat x26) default))) (cond (decide (0≤x26)&&decide (x26 < ic (n5 - 0))) (cond (decide ((n6+1)*88≤z08)) (again (z64 n5 (n6+1) l24 x25 (IntKind.wrap IntKind.i64 (x26+1)) lo20 (List.take n6 u00++[(pcI (bxI (List.getD lo20 (0+Int.toNat x26) default)) (Nd.v (z07 (IV.toInt (List.getD l24 (Int.toNat x26) default)))))]))) none) none) (again (z64 n5 n6 l24 x25 (IntKind.wrap IntKind.i64 (x26+1)) lo20 u00))) none)) none) (k (.exit 0) (z64 n5 n6 l24 x25 x26 lo20 u00))):=by kernel_rfl
theorem zpr (N n5 n6:Nat) (l24:List IV) (x25 x26:Int) (lo20 u00:List IV):(z05 0 (kSq (z4o N) (z0f z6p [1,1,1,1,1,1]) (z2s (z4o N) none [(ResultVar.tmp 4)] [[(.list true zfl)]]))) (.exit 0) (z64 n5 n6 l24 x25 x26 lo20 u00)=(some ((.list true zfl (List.drop 0 (List.take n6 u00))),[])):=by kernel_rfl
def z5r (N:Nat):Env:=mkE [(218,zbh)] [(6,⟨[4,5,6,8,9,26,27,28],[],[]⟩)] 43 N
abbrev za0 (x4 x5:Int) (b6:Bool) (x8 x9:Int) (l26:List IV) (x27 x28:Int):St:=⟨[(4,(.i x4)),(5,(.i x5)),(6,(.bool b6)),(8,(.i x8)),(9,(.i x9)),(26,(.list true zfl l26)),(27,(.i x27)),(28,(.i x28))],[]⟩
theorem y3h (N:Nat) (l:List IV) (b:Bx):z0z (z5r N) z7s [.tmp 4,.tmp 5,.tmp 6] [[.int .i64],[.int .i64],[.bool]] [(.list false [.int .u64] l),(Bx.V b)]=(cond (ic (List.length (z5i l b))==0) (some ((.tup [(.i 0),(.i 0),(.bool false)]),[])) (cond (decide (0≤0)&&decide (0 < ic (List.length (z5i l b)))) (cond (decide (0≤0)&&decide (0 < ic (List.length (z5i l b)))) (lpE (z5r N) (z0f z7s [1,1,1,1,0,1,0,0]) ⟨[4,5,6,8,9,26,27,28],[],[]⟩ N (za0 0 0 false (IV.toInt (IV.cell (List.getD (z5i l b) (Int.toNat 0) default) 10)) (IV.toInt (IV.cell (List.getD (z5i l b) (Int.toNat 0) default) 10)) (z5i l b) (ic (List.length (z5i l b))) 0) (z05 0 (kSq (z5r N) (z0f z7s [1,1,1,1,1]) (z2s (z5r N) none [(ResultVar.tmp 4),(ResultVar.tmp 5),(ResultVar.tmp 6)] [[(.int .i64)],[(.int .i64)],[.bool]])))) none) none)):=by kernel_rfl
theorem zkg (N:Nat) (x4 x5:Int) (b6:Bool) (x8 x9:Int) (l26:List IV) (x27 x28:Int) (again:St→Res) (k:Out→St→Res):rnd (z5r N) (z0f z7s [1,1,1,1,0,1,0,0]) (za0 x4 x5 b6 x8 x9 l26 x27 x28) (z3t again ⟨[4,5,6,8,9,26,27,28],[],[]⟩ k)=(cond (decide (x28 < x27)) (cond (decide (0≤x28)&&decide (x28 < ic (List.length l26))) (again (za0 x4 x5 b6 (min x8 (IV.toInt (IV.cell (List.getD l26 (Int.toNat x28) default) 10))) (max x9 (IV.toInt (IV.cell (List.getD l26 (Int.toNat x28) default) 10))) l26 x27 (IntKind.wrap IntKind.i64 (x28+1)))) none) (k (.exit 0) (za0 x4 x5 b6 x8 x9 l26 x27 x28))):=by kernel_rfl
theorem zs0 (N:Nat) (x4 x5:Int) (b6:Bool) (x8 x9:Int) (l26:List IV) (x27 x28:Int):(z05 0 (kSq (z5r N) (z0f z7s [1,1,1,1,1]) (z2s (z5r N) none [(ResultVar.tmp 4),(ResultVar.tmp 5),(ResultVar.tmp 6)] [[(.int .i64)],[(.int .i64)],[.bool]]))) (.exit 0) (za0 x4 x5 b6 x8 x9 l26 x27 x28)=(some ((.tup [(.i x8),(.i x9),(.bool true)]),[])):=by kernel_rfl
def z0r (N:Nat):Env:=mkE [(196,zde),(112,z2u),(53,z2j)] [(5,⟨[1,5,6,7,8,9,10,42,43,44],[5],[]⟩)] 69 N
abbrev z2q (a2:Bx) (x1 x6 x7:Int) (b8:Bool) (x9 x10:Int) (l42:List IV) (x43 x44:Int):St:=⟨[(1,(.i x1)),(5,(.ptr 5 0 0)),(6,(.i x6)),(7,(.i x7)),(8,(.bool b8)),(9,(.i x9)),(10,(.i x10)),(42,(.list true zns l42)),(43,(.i x43)),(44,(.i x44))],[(5,(some (.box (Bx.cs a2))))]⟩
theorem y6v (N:Nat) (m:Md) (a1:Int) (a2:Bx):z0z (z0r N) z1e [.tmp 6,.tmp 7,.tmp 8] [[.int .i64],[.int .i64],[.bool]] [(Md.V m),(.i a1),(Bx.V a2)]=(cond (!z2g m) (some ((.tup [(.i 0),(.i 0),(.bool false)]),[])) (cond (decide (a1 < 0)) (some ((.tup [(.i 0),(.i 0),(.bool false)]),[])) (cond (decide (a1≥Md.c m)) (some ((.tup [(.i 0),(.i 0),(.bool false)]),[])) (cond (Bx.emp a2) (some ((.tup [(.i 0),(.i 0),(.bool false)]),[])) (cond (decide (a1=ic 0)) (cond (decide (a1=ic 0)) (lpE (z0r N) (z0f z1e [1,1,1,0,1,0,0]) ⟨[1,5,6,7,8,9,10,42,43,44],[5],[]⟩ N (z2q a2 a1 0 0 false (Md.b0 m) (Md.b0 m) (Md.ts m) (ic (List.length (Md.ts m))) 0) (z05 0 (kSq (z0r N) (z0f z1e [1,1,1,1]) (z2s (z0r N) none [(ResultVar.tmp 6),(ResultVar.tmp 7),(ResultVar.tmp 8)] [[(.int .i64)],[(.int .i64)],[.bool]])))) (cond (decide (a1=ic 1)) (lpE (z0r N) (z0f z1e [1,1,1,0,1,0,0]) ⟨[1,5,6,7,8,9,10,42,43,44],[5],[]⟩ N (z2q a2 a1 0 0 false (Md.b0 m) (Md.b1 m) (Md.ts m) (ic (List.length (Md.ts m))) 0) (z05 0 (kSq (z0r N) (z0f z1e [1,1,1,1]) (z2s (z0r N) none [(ResultVar.tmp 6),(ResultVar.tmp 7),(ResultVar.tmp 8)] [[(.int .i64)],[(.int .i64)],[.bool]])))) (cond (decide (a1=ic 2)) (lpE (z0r N) (z0f z1e [1,1,1,0,1,0,0]) ⟨[1,5,6,7,8,9,10,42,43,44],[5],[]⟩ N (z2q a2 a1 0 0 false (Md.b0 m) (Md.b2 m) (Md.ts m) (ic (List.length (Md.ts m))) 0) (z05 0 (kSq (z0r N) (z0f z1e [1,1,1,1]) (z2s (z0r N) none [(ResultVar.tmp 6),(ResultVar.tmp 7),(ResultVar.tmp 8)] [[(.int .i64)],[(.int .i64)],[.bool]])))) none))) (cond (decide (a1=ic 1)) (cond (decide (a1=ic 0)) (lpE (z0r N) (z0f z1e [1,1,1,0,1,0,0]) ⟨[1,5,6,7,8,9,10,42,43,44],[5],[]⟩ N (z2q a2 a1 0 0 false (Md.b1 m) (Md.b0 m) (Md.ts m) (ic (List.length (Md.ts m))) 0) (z05 0 (kSq (z0r N) (z0f z1e [1,1,1,1]) (z2s (z0r N) none [(ResultVar.tmp 6),(ResultVar.tmp 7),(ResultVar.tmp 8)] [[(.int .i64)],[(.int .i64)],[.bool]])))) (cond (decide (a1=ic 1)) (lpE (z0r N) (z0f z1e [1,1,1,0,1,0,0]) ⟨[1,5,6,7,8,9,10,42,43,44],[5],[]⟩ N (z2q a2 a1 0 0 false (Md.b1 m) (Md.b1 m) (Md.ts m) (ic (List.length (Md.ts m))) 0) (z05 0 (kSq (z0r N) (z0f z1e [1,1,1,1]) (z2s (z0r N) none [(ResultVar.tmp 6),(ResultVar.tmp 7),(ResultVar.tmp 8)] [[(.int .i64)],[(.int .i64)],[.bool]])))) (cond (decide (a1=ic 2)) (lpE (z0r N) (z0f z1e [1,1,1,0,1,0,0]) ⟨[1,5,6,7,8,9,10,42,43,44],[5],[]⟩ N (z2q a2 a1 0 0 false (Md.b1 m) (Md.b2 m) (Md.ts m) (ic (List.length (Md.ts m))) 0) (z05 0 (kSq (z0r N) (z0f z1e [1,1,1,1]) (z2s (z0r N) none [(ResultVar.tmp 6),(ResultVar.tmp 7),(ResultVar.tmp 8)] [[(.int .i64)],[(.int .i64)],[.bool]])))) none))) (cond (decide (a1=ic 2)) (cond (decide (a1=ic 0)) (lpE (z0r N) (z0f z1e [1,1,1,0,1,0,0]) ⟨[1,5,6,7,8,9,10,42,43,44],[5],[]⟩ N (z2q a2 a1 0 0 false (Md.b2 m) (Md.b0 m) (Md.ts m) (ic (List.length (Md.ts m))) 0) (z05 0 (kSq (z0r N) (z0f z1e [1,1,1,1]) (z2s (z0r N) none [(ResultVar.tmp 6),(ResultVar.tmp 7),(ResultVar.tmp 8)] [[(.int .i64)],[(.int .i64)],[.bool]])))) (cond (decide (a1=ic 1)) (lpE (z0r N) (z0f z1e [1,1,1,0,1,0,0]) ⟨[1,5,6,7,8,9,10,42,43,44],[5],[]⟩ N (z2q a2 a1 0 0 false (Md.b2 m) (Md.b1 m) (Md.ts m) (ic (List.length (Md.ts m))) 0) (z05 0 (kSq (z0r N) (z0f z1e [1,1,1,1]) (z2s (z0r N) none [(ResultVar.tmp 6),(ResultVar.tmp 7),(ResultVar.tmp 8)] [[(.int .i64)],[(.int .i64)],[.bool]])))) (cond (decide (a1=ic 2)) (lpE (z0r N) (z0f z1e [1,1,1,0,1,0,0]) ⟨[1,5,6,7,8,9,10,42,43,44],[5],[]⟩ N (z2q a2 a1 0 0 false (Md.b2 m) (Md.b2 m) (Md.ts m) (ic (List.length (Md.ts m))) 0) (z05 0 (kSq (z0r N) (z0f z1e [1,1,1,1]) (z2s (z0r N) none [(ResultVar.tmp 6),(ResultVar.tmp 7),(ResultVar.tmp 8)] [[(.int .i64)],[(.int .i64)],[.bool]])))) none))) none))))))):=by kernel_rfl
theorem zn5 (N:Nat) (a2:Bx) (x1 x6 x7:Int) (b8:Bool) (x9 x10:Int) (l42:List IV) (x43 x44:Int) (again:St→Res) (k:Out→St→Res):rnd (z0r N) (z0f z1e [1,1,1,0,1,0,0]) (z2q a2 x1 x6 x7 b8 x9 x10 l42 x43 x44) (z3t again ⟨[1,5,6,7,8,9,10,42,43,44],[5],[]⟩ k)=(cond (decide (x44 < x43)) (cond (decide (0≤x44)&&decide (x44 < ic (List.length l42))) (cond (IV.toInt (IV.cell (List.getD l42 (Int.toNat x44) default) 0) != x1) (again (z2q a2 x1 x6 x7 b8 x9 x10 l42 x43 (IntKind.wrap IntKind.i64 (x44+1)))) (again (z2q a2 x1 x6 x7 b8 (IntKind.wrap IntKind.i64 (x9+tLo (IV.toList (IV.cell (List.getD l42 (Int.toNat x44) default) 1)) a2)) (IntKind.wrap IntKind.i64 (x10+tHi (IV.toList (IV.cell (List.getD l42 (Int.toNat x44) default) 1)) a2)) l42 x43 (IntKind.wrap IntKind.i64 (x44+1))))) none) (k (.exit 0) (z2q a2 x1 x6 x7 b8 x9 x10 l42 x43 x44))):=by kernel_rfl
theorem zuy (N:Nat) (a2:Bx) (x1 x6 x7:Int) (b8:Bool) (x9 x10:Int) (l42:List IV) (x43 x44:Int):(z05 0 (kSq (z0r N) (z0f z1e [1,1,1,1]) (z2s (z0r N) none [(ResultVar.tmp 6),(ResultVar.tmp 7),(ResultVar.tmp 8)] [[(.int .i64)],[(.int .i64)],[.bool]]))) (.exit 0) (z2q a2 x1 x6 x7 b8 x9 x10 l42 x43 x44)=(some ((.tup [(.i x9),(.i x10),(.bool true)]),[])):=by kernel_rfl
def z3y (N:Nat):Env:=mkE [(162,z88)] [(6,⟨[1,3,5,6,7,8,11,12,33,34],[3,5],[]⟩)] 62 N
abbrev z4c (m:Md) (b:Bx) (x1 x6:Int) (b7:Bool) (x8 x11:Int) (b12:Bool) (x33 x34:Int):St:=⟨[(1,(.i x1)),(3,(.ptr 3 0 0)),(5,(.ptr 5 0 0)),(6,(.i x6)),(7,(.bool b7)),(8,(.i x8)),(11,(.i x11)),(12,(.bool b12)),(33,(.i x33)),(34,(.i x34))],[(3,(some (.box (Md.cs m)))),(5,(some (.box (Bx.cs b))))]⟩
theorem zwn (N:Nat) (m:Md) (u00:Int) (b:Bx):z0z (z3y N) z5q [.tmp 6,.tmp 7] [[.int .i64],[.bool]] [(Md.V m),(.i u00),(Bx.V b)]=(cond (!sOK m u00 b) (some ((.tup [(.i 0),(.bool false)]),[])) (cond (decide (Md.c m < 2)) (some ((.tup [(.i 0),(.bool false)]),[])) (lpE (z3y N) (z0f z5q [1,1,1,1,0,1,0,0]) ⟨[1,3,5,6,7,8,11,12,33,34],[3,5],[]⟩ N (z4c m b u00 0 false (sLo m u00 b) 0 false (Md.c m) 0) (z05 0 (kSq (z3y N) (z0f z5q [1,1,1,1,1]) (z2s (z3y N) none [(ResultVar.tmp 6),(ResultVar.tmp 7)] [[(.int .i64)],[.bool]])))))):=by kernel_rfl
theorem zh3 (N:Nat) (m:Md) (b:Bx) (x1 x6:Int) (b7:Bool) (x8 x11:Int) (b12:Bool) (x33 x34:Int) (again:St→Res) (k:Out→St→Res):rnd (z3y N) (z0f z5q [1,1,1,1,0,1,0,0]) (z4c m b x1 x6 b7 x8 x11 b12 x33 x34) (z3t again ⟨[1,3,5,6,7,8,11,12,33,34],[3,5],[]⟩ k)=(cond (decide (x34 < x33)) (cond (x34==x1) (again (z4c m b x1 x6 b7 x8 x11 b12 x33 (IntKind.wrap IntKind.i64 (x34+1)))) (cond (!b12) (again (z4c m b x1 x6 b7 x8 (IntKind.wrap IntKind.i64 (x8 - sHi m x34 b)) true x33 (IntKind.wrap IntKind.i64 (x34+1)))) (cond (decide (IntKind.wrap IntKind.i64 (x8 - sHi m x34 b) < x11)) (again (z4c m b x1 x6 b7 x8 (IntKind.wrap IntKind.i64 (x8 - sHi m x34 b)) true x33 (IntKind.wrap IntKind.i64 (x34+1)))) (again (z4c m b x1 x6 b7 x8 x11 b12 x33 (IntKind.wrap IntKind.i64 (x34+1))))))) (k (.exit 0) (z4c m b x1 x6 b7 x8 x11 b12 x33 x34))):=by kernel_rfl
theorem znh (N:Nat) (m:Md) (b:Bx) (x1 x6:Int) (b7:Bool) (x8 x11:Int) (b12:Bool) (x33 x34:Int):(z05 0 (kSq (z3y N) (z0f z5q [1,1,1,1,1]) (z2s (z3y N) none [(ResultVar.tmp 6),(ResultVar.tmp 7)] [[(.int .i64)],[.bool]]))) (.exit 0) (z4c m b x1 x6 b7 x8 x11 b12 x33 x34)=(some ((.tup [(.i x11),(.bool true)]),[])):=by kernel_rfl
def zz7 (N:Nat):Env:=mkE [] [] 16 N
theorem zxc (N:Nat) (q:Qy):z0z (zz7 N) zmr [.tmp 2] [[.bool]] [(Qy.V q)]=(cond (Qy.k q==3) (cond (decide (Qy.ft q≥0)) (some ((.bool (decide (Qy.ft q < 4))),[])) (some ((.bool false),[]))) (some ((.bool false),[]))):=by kernel_rfl
def y0w (N:Nat):Env:=mkE [(197,z3h)] [] 10 N
theorem zyh (N:Nat) (q:Qy) (b:Bx):z0z (y0w N) zmp [.cell 4 36] [[.int .i64,.int .i64,.int .i64,.int .i64,.int .i64,.int .i64,.int .i64,.int .i64,.int .i64,.int .i64]] [(Qy.V q),(Bx.V b)]=(cond (z5s q) (some ((.agg [(.i (Sp.lo (Bx.s0 b))),(.i (Sp.hi (Bx.s0 b))),(.i (Sp.lo (Bx.s1 b))),(.i (Sp.hi (Bx.s1 b))),(.i (Sp.lo (Bx.s2 b))),(.i (Sp.hi (Bx.s2 b))),(.i (Sp.lo (Bx.s3 b))),(.i (Sp.hi (Bx.s3 b))),(.i 0),(.i 0)]),[])) (some ((Bx.V b),[]))):=by kernel_rfl
def zxg (N:Nat):Env:=mkE [(197,z3h)] [] 15 N
theorem zuz (N:Nat) (q:Qy) (b:Bx):z0z (zxg N) zku [.cell 4 36] [[.int .i64,.int .i64,.int .i64,.int .i64,.int .i64,.int .i64,.int .i64,.int .i64,.int .i64,.int .i64]] [(Qy.V q),(Bx.V b)]=(cond (z5s q) (cond (decide (Qy.ft q=ic 0)) (some ((.agg [(.i (Sp.lo (Bx.s4 b))),(.i (Sp.hi (Bx.s4 b))),(.i (Sp.lo (Bx.s1 b))),(.i (Sp.hi (Bx.s1 b))),(.i (Sp.lo (Bx.s2 b))),(.i (Sp.hi (Bx.s2 b))),(.i (Sp.lo (Bx.s3 b))),(.i (Sp.hi (Bx.s3 b))),(.i 0),(.i 0)]),[])) (cond (decide (Qy.ft q=ic 1)) (some ((.agg [(.i (Sp.lo (Bx.s0 b))),(.i (Sp.hi (Bx.s0 b))),(.i (Sp.lo (Bx.s4 b))),(.i (Sp.hi (Bx.s4 b))),(.i (Sp.lo (Bx.s2 b))),(.i (Sp.hi (Bx.s2 b))),(.i (Sp.lo (Bx.s3 b))),(.i (Sp.hi (Bx.s3 b))),(.i 0),(.i 0)]),[])) (cond (decide (Qy.ft q=ic 2)) (some ((.agg [(.i (Sp.lo (Bx.s0 b))),(.i (Sp.hi (Bx.s0 b))),(.i (Sp.lo (Bx.s1 b))),(.i (Sp.hi (Bx.s1 b))),(.i (Sp.lo (Bx.s4 b))),(.i (Sp.hi (Bx.s4 b))),(.i (Sp.lo (Bx.s3 b))),(.i (Sp.hi (Bx.s3 b))),(.i 0),(.i 0)]),[])) (cond (decide (Qy.ft q=ic 3)) (some ((.agg [(.i (Sp.lo (Bx.s0 b))),(.i (Sp.hi (Bx.s0 b))),(.i (Sp.lo (Bx.s1 b))),(.i (Sp.hi (Bx.s1 b))),(.i (Sp.lo (Bx.s2 b))),(.i (Sp.hi (Bx.s2 b))),(.i (Sp.lo (Bx.s4 b))),(.i (Sp.hi (Bx.s4 b))),(.i 0),(.i 0)]),[])) (cond (decide (Qy.ft q=ic 4)) (some ((.agg [(.i (Sp.lo (Bx.s0 b))),(.i (Sp.hi (Bx.s0 b))),(.i (Sp.lo (Bx.s1 b))),(.i (Sp.hi (Bx.s1 b))),(.i (Sp.lo (Bx.s2 b))),(.i (Sp.hi (Bx.s2 b))),(.i (Sp.lo (Bx.s3 b))),(.i (Sp.hi (Bx.s3 b))),(.i 0),(.i 0)]),[])) none))))) (some ((Bx.V b),[]))):=by kernel_rfl
def zue (N:Nat):Env:=mkE [(112,z2u),(197,z3h)] [] 23 N
theorem zrs (N:Nat) (q:Qy) (b:Bx):z0z (zue N) zj5 [.tmp 4] [[.bool]] [(Qy.V q),(Bx.V b)]=(cond (z5s q) (cond (!Bx.emp b) (cond (decide (Qy.ft q=ic 0)) (some ((.bool (decide (Sp.lo (Bx.s0 b) < Sp.hi (Bx.s4 b)))),[])) (cond (decide (Qy.ft q=ic 1)) (some ((.bool (decide (Sp.lo (Bx.s1 b) < Sp.hi (Bx.s4 b)))),[])) (cond (decide (Qy.ft q=ic 2)) (some ((.bool (decide (Sp.lo (Bx.s2 b) < Sp.hi (Bx.s4 b)))),[])) (cond (decide (Qy.ft q=ic 3)) (some ((.bool (decide (Sp.lo (Bx.s3 b) < Sp.hi (Bx.s4 b)))),[])) (cond (decide (Qy.ft q=ic 4)) (some ((.bool (decide (Sp.lo (Bx.s4 b) < Sp.hi (Bx.s4 b)))),[])) none))))) (some ((.bool false),[]))) (some ((.bool false),[]))):=by kernel_rfl
def zz1 (N:Nat):Env:=mkE [(162,z88),(198,zae),(199,z9m),(197,z3h)] [] 54 N
theorem zu4 (N:Nat) (m:Md) (q:Qy) (b:Bx):z0z (zz1 N) zkb [.tmp 6,.tmp 7,.tmp 8] [[.int .i64],[.int .i64],[.bool]] [(Md.V m),(Qy.V q),(Bx.V b)]=(cond (!z5s q) (some ((.tup [(.i 0),(.i 0),(.bool false)]),[])) (cond (!sOK m (Qy.c q) (zb8 q b)) (some ((.tup [(.i 0),(.i 0),(.bool false)]),[])) (cond (!sOK m (Qy.c q) (z7f q b)) (some ((.tup [(.i 0),(.i 0),(.bool false)]),[])) (some ((.tup [(.i (IntKind.wrap IntKind.i64 (sLo m (Qy.c q) (z7f q b) - sHi m (Qy.c q) (zb8 q b)))),(.i (IntKind.wrap IntKind.i64 (sHi m (Qy.c q) (z7f q b) - sLo m (Qy.c q) (zb8 q b)))),(.bool true)]),[]))))):=by kernel_rfl
def y5v (N:Nat):Env:=mkE [(163,zad),(162,z88),(112,z2u),(165,z9f),(164,z8a),(65,z2k)] [] 86 N
theorem y0r (N:Nat) (m:Md) (a1:Qy) (a2:Bx):z0z (y5v N) zor [.tmp 6] [[.bool]] [(Md.V m),(Qy.V a1),(Bx.V a2)]=(cond (!z2b m a1) (some ((.bool false),[])) (cond (Bx.emp a2) (some ((.bool true),[])) (cond (Qy.k a1==1) (cond (sOK m (Qy.c a1) a2) (cond (decide (Qy.lo a1≤sLo m (Qy.c a1) a2)) (some ((.bool (decide (sHi m (Qy.c a1) a2≤Qy.hi a1))),[])) (some ((.bool false),[]))) (some ((.bool false),[]))) (cond (Qy.k a1==2) (cond (yfs m (Qy.c a1) a2) (some ((.bool (decide (ypy m (Qy.c a1) a2 > 0))),[])) (some ((.bool false),[]))) (cond (!zg2 a1 a2) (some ((.bool true),[])) (cond (Qy.fl a1) (cond (y97 m a1 a2) (some ((.bool (decide (yn1 m a1 a2≤0))),[])) (some ((.bool false),[]))) (cond (y97 m a1 a2) (some ((.bool (decide (yn2 m a1 a2≥0))),[])) (some ((.bool false),[]))))))))):=by kernel_rfl
def y3n (N:Nat):Env:=mkE [(81,zkt)] [] 9 N
theorem y0y (N:Nat) (b:Bx):z0z (y3n N) zof [.cell 2 53,.tmp 3] [[.int .i64,.int .i64,.int .i64,.int .i64],[.int .i64]] [(Bx.V b)]=(some ((.tup [(Pt.V (Bx.low b)),(.i (Sp.hi (Bx.s4 b)))]),[])):=by kernel_rfl
def z4b (N:Nat):Env:=mkE [(126,zfe)] [(2,⟨[3,4,5,6,7,8,11],[3,4,5],[]⟩)] 31 N
abbrev z6w (m:Md) (q:Qy) (b:Bx) (x6 x7:Int) (b8:Bool) (x11:Int):St:=⟨[(3,(.ptr 3 0 0)),(4,(.ptr 4 0 0)),(5,(.ptr 5 0 0)),(6,(.i x6)),(7,(.i x7)),(8,(.bool b8)),(11,(.i x11))],[(3,(some (.box (Md.cs m)))),(4,(some (.box (Qy.cs q)))),(5,(some (.box (Bx.cs b))))]⟩
theorem y3y (N:Nat) (m:Md) (q:Qy) (b:Bx):z0z (z4b N) z6i [.tmp 6,.tmp 7,.tmp 8] [[.int .i64],[.int .i64],[.bool]] [(Md.V m),(Qy.V q),(Bx.V b)]=(lpE (z4b N) (z0f z6i [1,0,1,0,0]) ⟨[3,4,5,6,7,8,11],[3,4,5],[]⟩ N (z6w m q b 0 0 false 0) (z05 0 (kSq (z4b N) (z0f z6i [1,1]) (z2s (z4b N) none [(ResultVar.tmp 6),(ResultVar.tmp 7),(ResultVar.tmp 8)] [[(.int .i64)],[(.int .i64)],[.bool]])))):=by kernel_rfl
theorem zl5 (N:Nat) (m:Md) (q:Qy) (b:Bx) (x6 x7:Int) (b8:Bool) (x11:Int) (again:St→Res) (k:Out→St→Res):rnd (z4b N) (z0f z6i [1,0,1,0,0]) (z6w m q b x6 x7 b8 x11) (z3t again ⟨[3,4,5,6,7,8,11],[3,4,5],[]⟩ k)=(cond (decide (x11 < 5)) (cond (z2g m&&zse x11) (cond (decide (ic (List.length (iZ (z4g m q b (Int.toNat x11)))) > 0)) (cond (decide (0≤IntKind.wrap IntKind.i64 (Int.tdiv (IntKind.wrap IntKind.i64 (ic (List.length (iZ (z4g m q b (Int.toNat x11)))) - 1)) 2))&&decide (IntKind.wrap IntKind.i64 (Int.tdiv (IntKind.wrap IntKind.i64 (ic (List.length (iZ (z4g m q b (Int.toNat x11)))) - 1)) 2) < ic (List.length (iZ (z4g m q b (Int.toNat x11)))))) (k .ret (z6w m q b x11 (IV.toInt (List.getD (iZ (z4g m q b (Int.toNat x11))) (Int.toNat (IntKind.wrap IntKind.i64 (Int.tdiv (IntKind.wrap IntKind.i64 (ic (List.length (iZ (z4g m q b (Int.toNat x11)))) - 1)) 2))) default)) true x11)) none) (again (z6w m q b x6 x7 b8 (IntKind.wrap IntKind.i64 (x11+1))))) none) (k (.exit 0) (z6w m q b x6 x7 b8 x11))):=by kernel_rfl
theorem zqw (N:Nat) (m:Md) (q:Qy) (b:Bx) (x6 x7:Int) (b8:Bool) (x11:Int):(z05 0 (kSq (z4b N) (z0f z6i [1,1]) (z2s (z4b N) none [(ResultVar.tmp 6),(ResultVar.tmp 7),(ResultVar.tmp 8)] [[(.int .i64)],[(.int .i64)],[.bool]]))) (.exit 0) (z6w m q b x6 x7 b8 x11)=(some ((.tup [(.i 0),(.i 0),(.bool false)]),[])):=by kernel_rfl
theorem zrh (N:Nat) (m:Md) (q:Qy) (b:Bx) (x6 x7:Int) (b8:Bool) (x11:Int):(z05 0 (kSq (z4b N) (z0f z6i [1,1]) (z2s (z4b N) none [(ResultVar.tmp 6),(ResultVar.tmp 7),(ResultVar.tmp 8)] [[(.int .i64)],[(.int .i64)],[.bool]]))) .ret (z6w m q b x6 x7 b8 x11)=(some ((.tup [(.i x6),(.i x7),(.bool b8)]),[])):=by kernel_rfl
open Go Go.Proofs
set_option maxRecDepth 100000
theorem y1y {i:Int} (h:zse i=true):i=0∨i=1∨i=2∨i=3∨i=4:=by
 unfold zse at h;simp only [v02,v07] at h;omega
theorem zq3:z32 PR B0 194 zaz:=by
 refine z0h [] [] zaz [[.int .i64,.int .i64]] Tryz.func194 ydb trivial ?_;intro vs r hwf h;unfold zaz at h
 split at h
 ·rw [R.get_ok] at h
  exact ⟨0,(y8g 0).trans h⟩
 ·simp [R.get] at h
theorem ycj:z32 PR B0 193 zjv:=by
 refine z0h [(194,zaz)] [] zjv [[.int .i64,.int .i64]] Tryz.func193 yls ⟨zq3,trivial⟩ ?_;intro vs r hwf h;unfold zjv at h
 split at h
 ·rename_i lo hi
  rw [R.get_ok] at h;refine ⟨0,?_⟩;rw [← h];refine (yh1 0 lo hi).trans ?_;unfold yc8;cases decide (lo > hi) <;> rfl
 ·simp [R.get] at h
theorem zn1:z32 PR B0 155 z8t:=by
 refine z0h [] [] z8t [[.bool]] Tryz.func155 yaz trivial ?_;intro vs r hwf h;unfold z8t at h
 split at h
 ·rename_i s
  replace h:=zwe h;obtain ⟨s,rfl,h⟩:=h;rw [R.get_ok] at h;exact ⟨0,(y5y 0 s).trans h⟩
 ·simp [R.get] at h
theorem zsw:z32 PR B0 114 zcs:=by
 refine z0h [] [] zcs [[.bool]] Tryz.func114 ygt trivial ?_;intro vs r hwf h;unfold zcs at h
 split at h
 ·rename_i s n
  replace h:=zwe h;obtain ⟨s,rfl,h⟩:=h;rw [R.get_ok] at h;refine ⟨0,?_⟩;rw [← h];refine (ydy 0 s n).trans ?_;unfold Sp.has;cases decide (s.lo≤n) <;> rfl
 ·simp [R.get] at h
theorem yb8:z32 PR B0 157 zlt:=by
 refine z0h [(194,zaz),(193,zjv)] [] zlt [[.int .i64,.int .i64],[.int .i64,.int .i64]] Tryz.func157 ygw ⟨zq3,ycj,trivial⟩ ?_;intro vs r hwf h;unfold zlt at h
 split at h
 ·rename_i s n
  replace h:=zwe h;obtain ⟨s,rfl,h⟩:=h;rw [R.get_ok] at h;refine ⟨0,?_⟩;rw [← h];refine (yd0 0 s n).trans ?_;unfold Sp.cutH;cases decide (n≥s.hi) <;> rfl
 ·simp [R.get] at h
theorem y4b (b:Bx):z0z (ybw 6) zyo [.tmp 2] [[.bool]] [b.V] =
 cond b.s0.emp (some (.bool true,[])) (cond b.s1.emp (some (.bool true,[])) (cond b.s2.emp (some (.bool true,[])) (cond b.s3.emp (some (.bool true,[])) (cond b.s4.emp (some (.bool true,[])) (some (.bool false,[])))))):=by kernel_rfl
theorem z7z:z32 PR B0 112 z2u:=by
 refine z0h [(155,z8t)] [(2,⟨[2,5,6],[],[]⟩)] z2u [[.bool]] Tryz.func112 ycg ⟨zn1,trivial⟩ ?_;intro vs r hwf h;unfold z2u at h
 split at h
 ·rename_i b
  replace h:=z3i h;obtain ⟨b,rfl,h⟩:=h;rw [R.get_ok] at h;refine ⟨6,?_⟩;rw [← h];refine (y4b b).trans ?_;unfold Bx.emp;cases b.s0.emp <;> cases b.s1.emp <;> cases b.s2.emp <;> cases b.s3.emp <;> cases b.s4.emp <;> rfl
 ·simp [R.get] at h
theorem ydr (b:Bx):z0z (yms 5) y9j [.cell 2 53] [[.int .i64,.int .i64,.int .i64,.int .i64]] [b.V]=some (b.low.V,[]):=by kernel_rfl
theorem yd5:z32 PR B0 81 zkt:=by
 refine z0h [] [(3,⟨[1,2,3,5],[1,2,3],[]⟩)] zkt [[.int .i64,.int .i64,.int .i64,.int .i64]] Tryz.func81 ymh trivial ?_;intro vs r hwf h;unfold zkt at h
 split at h
 ·rename_i b
  replace h:=z3i h;obtain ⟨b,rfl,h⟩:=h;rw [R.get_ok] at h;exact ⟨5,(ydr b).trans h⟩
 ·simp [R.get] at h
theorem zhu:z32 PR B0 111 z92:=by
 refine z0h [(157,zlt)] [] z92 [[.int .i64,.int .i64,.int .i64,.int .i64,.int .i64,.int .i64,.int .i64,.int .i64,.int .i64,.int .i64],[.int .i64,.int .i64,.int .i64,.int .i64,.int .i64,.int .i64,.int .i64,.int .i64,.int .i64,.int .i64]] Tryz.func111 yk9 ⟨yb8,trivial⟩ ?_;intro vs r hwf h;unfold z92 at h
 split at h
 ·rename_i b i a
  replace h:=z3i h;obtain ⟨b,rfl,h⟩:=h;cases hg:(zse i) with
  | false=>rw [hg] at h; simp [R.get] at h
  | true=>
  rw [hg,R.get_br,z00,R.get_ok] at h;refine ⟨0,?_⟩;rw [← h];rcases y1y hg with rfl | rfl | rfl | rfl | rfl <;> kernel_rfl
 ·simp [R.get] at h
theorem zjh:z32 PR B0 109 z6y:=by
 refine z0h [] [] z6y [[.bool]] Tryz.func109 zzh trivial ?_;intro vs r hwf h;unfold z6y at h
 split at h
 ·rename_i q
  replace h:=z3z h;obtain ⟨q,rfl,h⟩:=h;rw [R.get_ok] at h;refine ⟨0,?_⟩;rw [← h];refine (zyd 0 q).trans ?_;unfold z5s;cases (q.k==3) <;> cases decide (q.ft≥0) <;> rfl
 ·simp [R.get] at h
theorem zan:z32 PR B0 197 z3h:=by
 refine z0h [] [] z3h [[.bool]] Tryz.func197 y04 trivial ?_;intro vs r hwf h;unfold z3h at h
 split at h
 ·rename_i q
  replace h:=z3z h;obtain ⟨q,rfl,h⟩:=h;rw [R.get_ok] at h;refine ⟨0,?_⟩;rw [← h];refine (zxc 0 q).trans ?_;unfold z5s;cases (q.k==3) <;> cases decide (q.ft≥0) <;> rfl
 ·simp [R.get] at h
theorem za2 {q:Qy} (h:z5s q=true):q.ft=0∨q.ft=1∨q.ft=2∨q.ft=3:=by
 unfold z5s at h;simp only [v02,v07] at h;omega
theorem zuk:z32 PR B0 198 zae:=by
 refine z0h [(197,z3h)] [] zae [[.int .i64,.int .i64,.int .i64,.int .i64,.int .i64,.int .i64,.int .i64,.int .i64,.int .i64,.int .i64]] Tryz.func198 y02 ⟨zan,trivial⟩ ?_;intro vs r hwf h;unfold zae at h
 split at h
 ·rename_i q b
  replace h:=z3z h;obtain ⟨q,rfl,h⟩:=h;replace h:=z3i h;obtain ⟨b,rfl,h⟩:=h;rw [R.get_ok] at h;refine ⟨0,?_⟩;rw [← h];refine (zyh 0 q b).trans ?_;unfold zb8;cases z5s q <;> rfl
 ·simp [R.get] at h
theorem zso:z32 PR B0 199 z9m:=by
 refine z0h [(197,z3h)] [] z9m [[.int .i64,.int .i64,.int .i64,.int .i64,.int .i64,.int .i64,.int .i64,.int .i64,.int .i64,.int .i64]] Tryz.func199 zys ⟨zan,trivial⟩ ?_;intro vs r hwf h;unfold z9m at h
 split at h
 ·rename_i q b
  replace h:=z3z h;obtain ⟨q,rfl,h⟩:=h;replace h:=z3i h;obtain ⟨b,rfl,h⟩:=h;rw [R.get_ok] at h;refine ⟨0,?_⟩;rw [← h];refine (zuz 0 q b).trans ?_;unfold z7f;cases hp:z5s q with
  | false=>rfl
  | true=>rcases za2 hp with e | e | e | e <;> rw [e] <;> rfl
 ·simp [R.get] at h
theorem zou:z32 PR B0 164 z8a:=by
 refine z0h [(112,z2u),(197,z3h)] [] z8a [[.bool]] Tryz.func164 zux ⟨z7z,zan,trivial⟩ ?_;intro vs r hwf h;unfold z8a at h
 split at h
 ·rename_i q b
  replace h:=z3z h;obtain ⟨q,rfl,h⟩:=h;replace h:=z3i h;obtain ⟨b,rfl,h⟩:=h;rw [R.get_ok] at h;refine ⟨0,?_⟩;rw [← h];refine (zrs 0 q b).trans ?_;unfold zg2;cases hp:z5s q with
  | false=>rfl
  | true=>cases b.emp <;> rcases za2 hp with e | e | e | e <;> rw [e] <;> rfl
 ·simp [R.get] at h
theorem zkw:z32 PR B0 66 z89:=by
 refine z0h [(109,z6y)] [] z89 [[.int .i64,.int .i64,.int .i64,.int .i64,.int .i64,.int .i64,.int .i64,.int .i64,.int .i64,.int .i64]] Tryz.func66 y3w ⟨zjh,trivial⟩ ?_;intro vs r hwf h;unfold z89 at h
 split at h
 ·rename_i q
  replace h:=z3z h;obtain ⟨q,rfl,h⟩:=h;rw [R.get_ok] at h;refine ⟨0,?_⟩;rw [← h];refine (zzg 0 q).trans ?_;unfold z4f;cases hp:z5s q with
  | false=>rfl
  | true=>rcases za2 hp with e | e | e | e <;> rw [e] <;> rfl
 ·simp [R.get] at h
theorem zty:z32 PR B0 116 zai:=by
 refine z0h [(109,z6y)] [] zai [[.int .i64,.int .i64,.int .i64,.int .i64]] Tryz.func116 zzr ⟨zjh,trivial⟩ ?_;intro vs r hwf h;unfold zai at h
 split at h
 ·rename_i q p t
  replace h:=z3z h;obtain ⟨q,rfl,h⟩:=h;replace h:=zff h;obtain ⟨p,rfl,h⟩:=h;rw [R.get_ok] at h;refine ⟨0,?_⟩;rw [← h];refine (zyb 0 q p t).trans ?_;unfold z6b;cases hp:z5s q with
  | false=>rfl
  | true=>rcases za2 hp with e | e | e | e <;> rw [e] <;> rfl
 ·simp [R.get] at h
def yq8 (d i:Int) (s:Sp) (rest:Res):Res:=
 cond (decide (i≥d)) (cond (!((s.lo==0)&&((s.hi==0)&&true))) (some (.bool false,[])) (cond s.emp (some (.bool false,[])) (cond (!(z2c s.lo)) (some (.bool false,[])) (cond (!(z2c s.hi)) (some (.bool false,[])) rest))))
  (cond s.emp (some (.bool false,[])) (cond (!(z2c s.lo)) (some (.bool false,[])) (cond (!(z2c s.hi)) (some (.bool false,[])) rest)))
theorem zy4 (d i:Int) (s:Sp) (rest:Res):yq8 d i s rest=cond (yek d i s) rest (some (.bool false,[])):=by
 unfold yq8 yek;rw [v1d];cases decide (i≥d) <;> cases ((s.lo==0)&&(s.hi==0)) <;> cases s.emp <;> cases z2c s.lo <;> cases z2c s.hi <;> rfl
theorem zuu (b:Bx) (d:Int):z0z (y0k 6) zmz [.tmp 4] [[.bool]] [b.V,.int .i64 d]=yq8 d 0 b.s0 (yq8 d 1 b.s1 (yq8 d 2 b.s2 (yq8 d 3 b.s3 (yq8 d 4 b.s4 (some (.bool true,[])))))):=by kernel_rfl
theorem zuq:z32 PR B0 107 zam:=by
 refine z0h [(93,z7w),(155,z8t)] [(2,⟨[1,4,7,8],[],[]⟩)] zam [[.bool]] Tryz.func107 y0i ⟨zim,zn1,trivial⟩ ?_;intro vs r hwf h;unfold zam at h
 split at h
 ·rename_i b d
  replace h:=z3i h;obtain ⟨b,rfl,h⟩:=h;rw [R.get_ok] at h;refine ⟨6,?_⟩;rw [← h];refine (zuu b d).trans ?_;rw [zy4,zy4,zy4,zy4,zy4];unfold y6l;cases yek d 0 b.s0 <;> cases yek d 1 b.s1 <;> cases yek d 2 b.s2 <;> cases yek d 3 b.s3 <;> cases yek d 4 b.s4 <;> rfl
 ·simp [R.get] at h
theorem y0f:z32 PR B0 108 ze3:=by
 refine z0h [] [] ze3 [[.bool]] Tryz.func108 y8p trivial ?_;intro vs r hwf h;unfold ze3 at h
 split at h
 ·rename_i m q
  replace h:=z3q h;obtain ⟨m,rfl,h⟩:=h;replace h:=z3z h;obtain ⟨q,rfl,h⟩:=h;rw [R.get_ok] at h;refine ⟨0,?_⟩;rw [← h];refine (y63 0 m q).trans ?_;unfold y9o;cases (q.k==1) <;> cases (q.k==2) <;> cases (q.k==3) <;> cases decide (q.lo≤q.hi) <;> cases (q.ft==0) <;> cases decide (m.c≥2) <;> cases (q.lo==0) <;> cases (q.hi==0) <;> cases decide (q.ft≥0) <;> cases decide (q.ft < m.d) <;> rfl
 ·simp [R.get] at h
theorem z7g:z32 PR B0 65 z2k:=by
 refine z0h [(53,z2j),(108,ze3),(107,zam)] [] z2k [[.bool]] Tryz.func65 y3i ⟨z7e,y0f,zuq,trivial⟩ ?_;intro vs r hwf h;unfold z2k at h
 split at h
 ·rename_i m q
  replace h:=z3q h;obtain ⟨m,rfl,h⟩:=h;replace h:=z3z h;obtain ⟨q,rfl,h⟩:=h;rw [R.get_ok] at h;refine ⟨0,?_⟩;rw [← h];refine (y0b 0 m q).trans ?_;unfold z2b Qy.bx;generalize y6l _ _=rg;cases z2g m <;> cases decide (q.c≥0) <;> cases decide (q.c < m.c) <;> cases decide (q.bu≥0) <;> cases decide (q.bu≤65536) <;> cases rg <;> rfl
 ·simp [R.get] at h
theorem zwf {w:Int} (hb:zbi w=true) (hl:(z07 w).lf=false):(0≤(z07 w).f∧(z07 w).f < 4)∧(1≤(z07 w).l∧(z07 w).l < 31)∧(1≤(z07 w).r∧(z07 w).r < 31)∧z2c (z07 w).a=true:=by
 have h:=(zww hb).2;unfold zcy at h;rw [hl,z01] at h;unfold zpw at h;simp only [v02,v07] at h;exact ⟨⟨h.2.1,h.2.2.1⟩,h.2.2.2.2.1,h.2.2.2.2.2,h.2.2.2.1⟩
theorem ygk (w:Int):z2c (z07 w).v=true:=by
 cases hb:zbi w with
 | false=>
  have e:z07 w=Nd.zero:=by unfold z07; rw [hb]; rfl
  rw [e]
  rfl
 | true=>
  have h:=(zww hb).2;unfold zcy at h;cases hl:(z07 w).lf with
  | true=>
   rw [hl,z00,v02] at h;exact h.2
  | false=>
   rw [hl,z01,v02,v1h] at h;rw [h.1]
   rfl
abbrev yur (l:List IV) (p:Pt) (a j:Int):St:=
 ⟨[(0,(.list false [(.int .u64)] l)),(3,(.ptr 3 0 0)),(4,(.int .i64 0)),(5,(.ptr 5 0 0)),(6,(.int .i64 a)),(9,(.int .i64 j))],[(3,(some (.box (Pt.cs p)))),(5,(some (.box [(.bool false),(.int .i64 0),(.int .i64 0),(.int .i64 0),(.int .i64 0),(.int .i64 0)])))]⟩
theorem yec (N:Nat) (l:List IV) (p:Pt):∀ (m j n:Nat) (a:Int),0≤a→j+m=31→m < n →
  lpE (z3g N) (z0f z5x [1,1,0,1,0,0]) ⟨[0,3,4,5,6,9],[3,5],[]⟩ n (yur l p a (j:Int)) (z05 0 (kSq (z3g N) (z0f z5x [1,1,1]) (z2s (z3g N) none [(ResultVar.tmp 4),(ResultVar.cell 5 111)] [[(.int .i64)],[.bool,(.int .i64),(.int .i64),(.int .i64),(.int .i64),(.int .i64)]]))) =
   some (.tup [.int .i64 (zv9 l p m a).1,(zv9 l p m a).2.V],[])
 | m,j,0,a,_,_,h=>absurd h (by omega)
 | 0,j,n+1,a,ha,hd,_=>by
  have hj:j=31:=by omega
  subst hj;rw [z06,zpb,v05 (show ¬ ((31:Nat):Int) < 31 by omega),z01]
  exact zkq N p l _ _ _ _ _ _ _ _ _
 | m+1,j,n+1,a,ha,hd,hn=>by
  have ej:IntKind.wrap IntKind.i64 ((j:Int)+1)=((j+1:Nat):Int):=z7r (by omega)
  rw [z06,zpb,v01 (show (j:Int) < 31 by omega),z00,zv9,ej]
  cases hge:decide (a≥ic l.length) with
  | true=>
   rw [z00,z00];exact zkq N p l _ _ _ _ _ _ _ _ _
  | false=>
   have hge:=v0r hge;rw [z01,z01,v01 ha,v01 (show a < ic l.length by omega),v0w,z00]
   generalize (l.getD a.toNat default).toInt=w;cases hb:zbi w with
   | false=>
    rw [v0j,z00,z00];exact zvg N p l _ _ _ _ _ _ _ _ _
   | true=>
    rw [v0e,z01,z01];cases hl:(z07 w).lf with
    | true=>
     rw [z00,z00]
     rfl
    | false=>
     obtain ⟨⟨f0,f4⟩,⟨l1,l31⟩,⟨r1,r31⟩,_⟩:=zwf hb hl;rw [z01,z01];have step:∀ c:Bool,(cond c (lpE (z3g N) (z0f z5x [1,1,0,1,0,0]) ⟨[0,3,4,5,6,9],[3,5],[]⟩ n (yur l p (z07 w).l ((j+1:Nat):Int)) (z05 0 (kSq (z3g N) (z0f z5x [1,1,1]) (z2s (z3g N) none [(ResultVar.tmp 4),(ResultVar.cell 5 111)] [[(.int .i64)],[.bool,(.int .i64),(.int .i64),(.int .i64),(.int .i64),(.int .i64)]]))))
       (lpE (z3g N) (z0f z5x [1,1,0,1,0,0]) ⟨[0,3,4,5,6,9],[3,5],[]⟩ n (yur l p (z07 w).r ((j+1:Nat):Int)) (z05 0 (kSq (z3g N) (z0f z5x [1,1,1]) (z2s (z3g N) none [(ResultVar.tmp 4),(ResultVar.cell 5 111)] [[(.int .i64)],[.bool,(.int .i64),(.int .i64),(.int .i64),(.int .i64),(.int .i64)]]))))) =
       some (.tup [.int .i64 (cond c (zv9 l p m (z07 w).l) (zv9 l p m (z07 w).r)).1,(cond c (zv9 l p m (z07 w).l) (zv9 l p m (z07 w).r)).2.V],[]):=fun c=>by
      cases c with
      | true=>exact yec N l p m (j+1) n (z07 w).l (by omega) (by omega) (by omega)
      | false=>exact yec N l p m (j+1) n (z07 w).r (by omega) (by omega) (by omega)
     obtain e | e | e | e:(z07 w).f=0∨(z07 w).f=1∨(z07 w).f=2∨(z07 w).f=3:=by omega
     all_goals
      rw [e];exact step _
theorem ya8:z32 PR B0 217 zh7:=by
 refine z0h [(55,z2i)] [(3,⟨[0,3,4,5,6,9],[3,5],[]⟩)] zh7 [[.int .i64],[.bool,.int .i64,.int .i64,.int .i64,.int .i64,.int .i64]] Tryz.func217 ygq ⟨z7c,trivial⟩ ?_;intro vs r hwf h;unfold zh7 at h
 split at h
 ·rename_i l p
  replace h:=zff h;obtain ⟨p,rfl,h⟩:=h;rw [R.get_ok] at h;refine ⟨32,?_⟩;rw [← h];exact (ycf 32 l p).trans (yec 32 l p 31 0 32 0 (by omega) rfl (by omega))
 ·simp [R.get] at h
theorem zzm:z32 PR B0 195 zdd:=by
 refine z0h [(217,zh7)] [] zdd [[.int .i64]] Tryz.func195 y7f ⟨ya8,trivial⟩ ?_;intro vs r hwf h;unfold zdd at h
 split at h
 ·rename_i l p
  replace h:=zff h;obtain ⟨p,rfl,h⟩:=h;rw [R.get_ok] at h;exact ⟨0,(y6a 0 l p).trans h⟩
 ·simp [R.get] at h
theorem z6q {n:Int} (h:z2c n=true) : -2147483648≤n∧n≤2147483647:=by
 unfold z2c at h
 simpa only [v02,v07] using h
theorem y45 (l:List IV) (p:Pt):∀ (n:Nat) (a:Int),z2c (zv9 l p n a).2.v=true
 | 0,_=>rfl
 | n+1,a=>by
  rw [zv9];cases decide (a≥ic l.length) with
  | true=>rfl
  | false=>
   rw [z01];generalize (l.getD a.toNat default).toInt=w;cases zbi w with
   | false=>rfl
   | true=>
    rw [v0e,z01];cases (z07 w).lf with
    | true=>exact ygk w
    | false=>
     rw [z01];cases decide (p.g (z07 w).f.toNat≤(z07 w).a) with
     | true=>exact y45 l p n _
     | false=>exact y45 l p n _
theorem yqk (l:List IV) (p:Pt) : -2147483648≤zmm l p∧zmm l p≤2147483647:=z6q (y45 l p 31 0)
theorem z2n {m:Md} (h:z2g m=true):(1≤m.d∧m.d≤4)∧(1≤m.c∧m.c≤3)∧m.ts.length≤8∧(z2c m.b0=true∧z2c m.b1=true∧z2c m.b2=true)∧m.ts.all (z9v m.d m.c)=true:=by
 unfold z2g zjr at h;simp only [v02,v12,v15] at h;obtain ⟨⟨h1,h2,h3,h4,h5⟩,⟨h6,h7,h8⟩,h9⟩:=h;exact ⟨⟨by omega,by omega⟩,⟨by omega,by omega⟩,v04 h5,⟨h6.1,h7.1,h8.1⟩,h9⟩
theorem yfz {m:Md} {k:Int} (h:zd7 m k=true):0≤k∧k < m.c:=by
 unfold zd7 at h
 simpa only [v02,v07] using h
theorem zyq {m:Md} {k:Int} (hm:z2g m=true) (h:zd7 m k=true):k=0∨k=1∨k=2:=by
 have:=yfz h
 have:=(z2n hm).2.1
 omega
theorem y3c {m:Md} (hm:z2g m=true) (k:Int) : -2147483648≤zep m k∧zep m k≤2147483647:=by
 obtain ⟨h0,h1,h2⟩:=(z2n hm).2.2.2.1;unfold zep;cases (k==0) with
 | true=>exact z6q h0
 | false=>
  cases (k==1) with
  | true=>exact z6q h1
  | false=>exact z6q h2
abbrev yvf (ts:List IV) (p:Pt) (k s i:Int):St:=
 ⟨[(1,(.int .i64 k)),(5,(.ptr 5 0 0)),(6,(.int .i64 0)),(7,(.int .i64 s)),(15,(.list true [(.int .i64),(.list false [(.int .u64)])] ts)),(16,(.int .i64 (ic (List.length ts)))),(17,(.int .i64 i))],[(5,(some (.box (Pt.cs p))))]⟩
theorem y49 (N:Nat) (ts:List IV) (p:Pt) (k:Int) (hts:ts.length≤8):∀ (m i n:Nat) (s:Int),i+m=ts.length→m < n → -2147483648*(i+1)≤s∧s≤2147483648*(i+1) →
  lpE (z2m N) (z0f z4e [1,1,0,1,0,0]) ⟨[1,5,6,7,15,16,17],[5],[]⟩ n (yvf ts p k s (i:Int)) (z05 0 (kSq (z2m N) (z0f z4e [1,1,1]) (z2s (z2m N) none [(ResultVar.tmp 6)] [[(.int .i64)]]))) =
   some (.int .i64 (evF k p (ts.drop i) s),[])
 | m,i,0,s,_,h,_=>absurd h (by omega)
 | 0,i,n+1,s,hd,_,_=>by
  have hi:i=ts.length:=by omega
  subst hi;rw [z06,zks,zdj (v0a _),z01,v2e];exact zr6 N p _ _ _ _ _ _
 | m+1,i,n+1,s,hd,hn,hs=>by
  have hi:i < ts.length:=by omega
  have ei:IntKind.wrap IntKind.i64 ((i:Int)+1)=((i+1:Nat):Int):=z7r (by omega)
  rw [z06,zks,ei,zbm hi,z00,zjl,v0w,z00,zda hi,v0m hi,evF];have hv:=yqk (zcm ts[i]) p;cases hc:((ts[i].cell 0).toInt==k) with
  | true=>
   rw [z00,z00];have ew:IntKind.wrap IntKind.i64 (s+zmm (zcm ts[i]) p)=s+zmm (zcm ts[i]) p:=z0s (by omega) (by omega)
   have ih:=y49 N ts p k hts m (i+1) n (s+zmm (zcm ts[i]) p) (by omega) (by omega) (by omega)
   rw [← ew] at ih;refine v4b ih ?_;rw [ew]
  | false=>
   rw [z01,z01];exact y49 N ts p k hts m (i+1) n s (by omega) (by omega) (by omega)
theorem y0e:z32 PR B0 159 zd6:=by
 refine z0h [(195,zdd)] [(3,⟨[1,5,6,7,15,16,17],[5],[]⟩)] zd6 [[.int .i64]] Tryz.func159 y9b ⟨zzm,trivial⟩ ?_;intro vs r hwf h;unfold zd6 at h
 split at h
 ·rename_i m k p
  replace h:=z3q h;obtain ⟨m,rfl,h⟩:=h;replace h:=zff h;obtain ⟨p,rfl,h⟩:=h;cases hg:(z2g m&&zd7 m k) with
  | false=>rw [hg] at h; simp [R.get] at h
  | true=>
  rw [hg,R.get_br,z00,R.get_ok] at h;rw [v02] at hg;have hb:=y3c hg.1 k;have run:=y49 10 m.ts p k (z2n hg.1).2.2.1 m.ts.length 0 10 (zep m k) (by omega) (by have:=(z2n hg.1).2.2.1; omega) (by omega)
  refine ⟨10,?_⟩;rw [← h];refine (y3a 10 m k p).trans ?_;rcases zyq hg.1 hg.2 with rfl | rfl | rfl <;> exact run
 ·simp [R.get] at h
theorem y0m:z32 PR B0 115 ze0:=by
 refine z0h [(53,z2j),(159,zd6)] [] ze0 [[.int .i64]] Tryz.func115 yam ⟨z7e,y0e,trivial⟩ ?_;intro vs r hwf h;unfold ze0 at h
 split at h
 ·rename_i m k p
  replace h:=z3q h;obtain ⟨m,rfl,h⟩:=h;replace h:=zff h;obtain ⟨p,rfl,h⟩:=h;rw [R.get_ok] at h;refine ⟨0,?_⟩;rw [← h];refine (y3m 0 m k p).trans ?_;unfold z3j zd7;cases z2g m with
  | false=>rfl
  | true=>
   cases h0:decide (k < 0) with
   | true=>rw [v05 (show ¬ 0≤k by have:=v0c h0; omega)]; rfl
   | false=>
    rw [v01 (show 0≤k by have:=v0r h0; omega)]
    cases h1:decide (k≥m.c) with
    | true=>rw [v05 (show ¬ k < m.c by have:=v0c h1; omega)]; rfl
    | false=>rw [v01 (show k < m.c by have:=v0r h1; omega)]; rfl
 ·simp [R.get] at h
abbrev yui (m:Md) (q:Qy) (p:Pt) (own i:Int):St:=
 ⟨[(4,(.ptr 4 0 0)),(5,(.ptr 5 0 0)),(6,(.ptr 6 0 0)),(8,(.bool false)),(9,(.int .i64 own)),(36,(.int .i64 (Md.c m))),(37,(.int .i64 i))],[(4,(some (.box (Md.cs m)))),(5,(some (.box (Qy.cs q)))),(6,(some (.box (Pt.cs p))))]⟩
def ykx (m:Md) (q:Qy) (p:Pt) (own:Int):Nat→Nat→Bool
 | 0,_=>false
 | d+1,i=>(!((i:Int)==q.c)&&decide (z3j m (i:Int) p≥own))||ykx m q p own d (i+1)
theorem yfw (m:Md) (q:Qy) (p:Pt) (own:Int):∀ d i,ykx m q p own d i=(List.range' i d).any fun c=>!((c:Int)==q.c)&&decide (z3j m (c:Int) p≥own)
 | 0,_=>rfl
 | d+1,i=>by rw [ykx,yfw m q p own d (i+1),List.range'_succ,List.any_cons]
theorem y1x (N:Nat) (m:Md) (q:Qy) (p:Pt) (own:Int) (hc:0≤m.c∧m.c≤3):∀ (d i n:Nat),((i+d:Nat):Int)=m.c→d < n →
  lpE (z1o N) (z0f z2l [1,1,1,0,1,0,1,1,1,0,0,1,0,0]) ⟨[4,5,6,8,9,36,37],[4,5,6],[]⟩ n (yui m q p own (i:Int)) (z05 1 (kSq (z1o N) (z0f z2l [1,1,1,0,1,0,1,1,1,0,1]) (z05 0 (kSq (z1o N) (z0f z2l [1,1,1,1]) (z2s (z1o N) none [(ResultVar.tmp 8)] [[.bool]]))))) =
   some (.bool (ykx m q p own d i),[])
 | d,i,0,_,h=>absurd h (by omega)
 | 0,i,n+1,hd,_=>by
  rw [z06,zhn,v05 (show ¬ (i:Int) < m.c by omega),z01]
  exact zo5 N m q p _ _ _ _
 | d+1,i,n+1,hd,hn=>by
  have ei:IntKind.wrap IntKind.i64 ((i:Int)+1)=((i+1:Nat):Int):=z7r (by omega)
  rw [z06,zhn,ei,v01 (show (i:Int) < m.c by omega),z00,ykx]
  have ih:=y1x N m q p own hc d (i+1) n (by omega) (by omega)
  have en:((i:Int) != q.c)=!((i:Int)==q.c):=rfl;rw [en];cases ((i:Int)==q.c) with
  | true=>exact ih
  | false=>
   rw [v0j,z00,v0k];cases decide (z3j m (i:Int) p≥own) with
   | true=>exact znq N m q p _ _ _ _
   | false=>exact ih
theorem z91 {m:Md} {q:Qy} (h:z2b m q=true):z2g m=true∧(0≤q.c∧q.c < m.c)∧(0≤q.bu∧q.bu≤65536)∧y6l q.bx m.d=true∧y9o m q=true:=by
 unfold z2b at h;simp only [v02,v07] at h;exact ⟨h.1,⟨h.2.1,h.2.2.1⟩,⟨h.2.2.2.1,h.2.2.2.2.1⟩,h.2.2.2.2.2.1,h.2.2.2.2.2.2⟩
theorem zlk {m:Md} {q:Qy} (h:y9o m q=true):(q.k=1∧q.lo≤q.hi∧q.ft=0∧q.fl=false)∨(q.k=2∧2≤m.c∧q.lo=0∧q.hi=0∧q.ft=0∧q.fl=false)∨(q.k=3∧(0≤q.ft∧q.ft < m.d)∧q.lo=0∧q.hi=0):=by
 unfold y9o at h;cases h1:(q.k==1) with
 | true=>
  rw [h1,z00] at h;simp only [v02,v07,v1h,v12] at h;exact .inl ⟨v1h.1 h1,h⟩
 | false=>
  rw [h1,z01] at h;cases h2:(q.k==2) with
  | true=>
   rw [h2,z00] at h;simp only [v02,v07,v1h,v12,ge_iff_le] at h;exact .inr (.inl ⟨v1h.1 h2,h⟩)
  | false=>
   rw [h2,z01] at h;cases h3:(q.k==3) with
   | true=>
    rw [h3,z00] at h;simp only [v02,v07,v1h,ge_iff_le] at h;exact .inr (.inr ⟨v1h.1 h3,⟨h.1,h.2.1⟩,h.2.2⟩)
   | false=>rw [h3,z01] at h; cases h
theorem zj1:z32 PR B0 70 z71:=by
 refine z0h [(115,ze0),(65,z2k),(116,zai),(114,zcs)] [(9,⟨[4,5,6,8,9,36,37],[4,5,6],[]⟩)] z71 [[.bool]] Tryz.func70 zzp ⟨y0m,z7g,zty,zsw,trivial⟩ ?_;intro vs r hwf h;unfold z71 at h
 split at h
 ·rename_i m q p t
  replace h:=z3q h;obtain ⟨m,rfl,h⟩:=h;replace h:=z3z h;obtain ⟨q,rfl,h⟩:=h;replace h:=zff h;obtain ⟨p,rfl,h⟩:=h;rw [R.get_ok] at h;refine ⟨10,?_⟩;rw [← h];refine (zw4 10 m q p t).trans ?_;unfold z3u;cases hr:z2b m q with
  | false=>rfl
  | true=>
   obtain ⟨hm,_,_,_,hk⟩:=z91 hr;have hmp:=z2n hm;rw [v0e,z01,v0k];cases h1:(q.k==1) with
   | true=>rfl
   | false=>
    rw [z01,z01];cases h2:(q.k==2) with
    | true=>
     rw [z00,z00];refine (y1x 10 m q p _ (by omega) m.c.toNat 0 10 (by omega) (by omega)).trans ?_
     rw [yfw,← v3z]
     rfl
    | false=>
     rw [z01,z01];rcases zlk hk with ⟨e,_⟩ | ⟨e,_⟩ | ⟨_,⟨f0,fd⟩,_⟩
     ·rw [e] at h1; cases h1
     ·rw [e] at h2; cases h2
     ·have step:∀ x:Int,cond (decide (x≥t)) (some (V.bool false,[])) (cond q.fl (some (V.bool (decide (z3j m q.c (z6b q p t) > z3j m q.c p)),[])) (some (V.bool (decide (z3j m q.c (z6b q p t) < z3j m q.c p)),[]))) =
        some (V.bool (cond (decide (x≥t)) false (cond q.fl (decide (z3j m q.c (z6b q p t) > z3j m q.c p)) (decide (z3j m q.c (z6b q p t) < z3j m q.c p)))),([]:List (List V))):=fun x=>by
       cases decide (x≥t) with
       | true=>rfl
       | false=>cases q.fl <;> rfl
      obtain e | e | e | e:q.ft=0∨q.ft=1∨q.ft=2∨q.ft=3:=by omega
      all_goals
       rw [e];exact step _
 ·simp [R.get] at h
open Go Go.Proofs Go.RowKit Go.Sort
theorem zxp (x:Int):∀ l,(ys1 x l).Perm (x :: l)
 | []=>List.Perm.refl _
 | y :: r=>by
  rw [ys1];cases decide (x≤y) with
  | true=>exact List.Perm.refl _
  | false=>exact ((zxp x r).cons y).trans (List.Perm.swap x y r)
theorem z9q:∀ l,(zjq l).Perm l
 | []=>List.Perm.refl _
 | x :: r=>(zxp x (zjq r)).trans ((z9q r).cons x)
theorem zxl (x:Int):∀ {l:List Int},l.Pairwise (·≤·)→(ys1 x l).Pairwise (·≤·)
 | [],_=>by simp [ys1]
 | y :: r,h=>by
  rw [ys1];cases hd:decide (x≤y) with
  | true=>
   have hd:=v0c hd;rw [z00];rw [List.pairwise_cons] at h ⊢
   refine ⟨fun z hz=>?_,by rw [List.pairwise_cons]; exact h⟩
   rcases v17.1 hz with rfl | hz
   ·exact hd
   ·exact Int.le_trans hd (h.1 z hz)
  | false=>
   have hd:=v0r hd;rw [z01];rw [List.pairwise_cons] at h ⊢
   refine ⟨fun z hz=>?_,zxl x h.2⟩
   rcases v17.1 ((zxp x r).mem_iff.1 hz) with rfl | hz
   ·omega
   ·exact h.1 z hz
theorem ztb:∀ l,(zjq l).Pairwise (·≤·)
 | []=>List.Pairwise.nil
 | x :: r=>zxl x (ztb r)
theorem ydp (l:List Int):(l.mergeSort fun x y=>decide (x≤y))=zjq l:=by
 refine List.Perm.eq_of_pairwise (le:=(·≤·)) (fun a b _ _ h1 h2=>Int.le_antisymm h1 h2) ?_ (ztb l) ((List.mergeSort_perm l _).trans (z9q l).symm)
 have:=List.pairwise_mergeSort (le:=fun (x y:Int)=>decide (x≤y)) (fun a b c h1 h2=>v01 (Int.le_trans (v0c h1) (v0c h2))) (fun a b=>by
  rcases Int.le_total a b with h | h
  ·rw [v01 h]; rfl
  ·rw [v01 h,Bool.or_true]) l
 exact this.imp fun h=>by simpa using h
theorem y7y (x:Int):∀ (l:List Int) (p:Int),ycz p (l++[x])=ycz p l++cond ((l.getLast?.getD p)==x) [] [x]
 | [],p=>by
  show cond (x==p) (ycz x []) (x :: ycz x [])=_;rw [show ((([]:List Int).getLast?.getD p)==x)=(x==p) by show (p==x)=(x==p); rw [v2s,v1h,v1h]; exact eq_comm]
  cases (x==p) <;> rfl
 | y :: r,p=>by
  rw [v1u,ycz,ycz,y7y x r y];have e:((y :: r).getLast?.getD p)=r.getLast?.getD y:=by
   cases r with
   | nil=>rfl
   | cons z r=>rw [List.getLast?_cons_cons,List.getLast?_eq_some_getLast (List.cons_ne_nil z r)]; rfl
  rw [e];cases (y==p) <;> rfl
theorem ykg (x:Int) (l:List Int):y68 (l++[x])=y68 l++cond (l.getLast?==some x) [] [x]:=by
 cases l with
 | nil=>rfl
 | cons y r=>
  rw [v1u,y68,y68,y7y,v1u]
  congr 2
  have:((y :: r).getLast?==some x)=(r.getLast?.getD y==x):=by
   cases r with
   | nil=>show (some y==some x)=(y==x); rw [v2s]; simp
   | cons z r=>rw [List.getLast?_cons_cons,List.getLast?_eq_some_getLast (List.cons_ne_nil z r)]; rw [v2s]; simp
  rw [this]
theorem yap (l:List Int):Lib.compact l=y68 l:=by
 have key:∀ m,m≤l.length→Lib.compactUpTo l.toArray m=y68 (l.take m):=by
  intro m
  induction m with
  | zero=>intro _; rfl
  | succ m ih=>
   intro hm;have e1:Lib.compactUpTo l.toArray (m+1)=Lib.compactUpTo l.toArray m++cond (Lib.keeps l.toArray m) [l.toArray[m]!] []:=by
    unfold Lib.compactUpTo;rw [List.range_succ,List.filter_append,v3x]
    congr 1
    cases hk:Lib.keeps l.toArray m <;> simp [hk]
   have hml:m < l.length:=by omega
   have e2:l.toArray[m]! = l[m]:=by simp [hml]
   rw [e1,ih (by omega),List.take_succ_eq_append_getElem hml,ykg,e2]
   congr 1
   cases m with
   | zero=>simp [Lib.keeps]
   | succ k=>
    have hk:k < l.length:=by omega
    have e3:(l.take (k+1)).getLast?=some l[k]:=by rw [List.getLast?_take]; simp [hk]
    rw [e3];have e4:l.toArray[k]! = l[k]:=by simp [hk]
    cases hq:Lib.keeps l.toArray (k+1) with
    | true=>
     have:¬ (l[k+1]=l[k]):=fun he=>by
      rw [Lib.keeps_neg (Nat.succ_pos k) (by show l.toArray[k+1]! = l.toArray[k]!; rw [e2,e4]; exact he)] at hq
      cases hq
     rw [z00];rw [show (some l[k]==some l[k+1])=false by simp; exact fun h=>this h.symm]
     rfl
    | false=>
     have:l[k+1]=l[k]:=by
      by_cases he:l[k+1]=l[k]
      ·exact he
      ·rw [Lib.keeps_pos (by show l.toArray[k+1]!≠l.toArray[k]!; rw [e2,e4]; exact he)] at hq
       cases hq
     rw [z01,this];rw [show (some l[k]==some l[k])=true by simp]
     rfl
 unfold Lib.compact;rw [key _ (v0a _),v0q]
theorem yew:∀ (l:List Int) (p:Int),(ycz p l).length≤l.length
 | [],_=>v0a _
 | x :: r,p=>by
  have:=yew r x
  rw [ycz];cases (x==p)
  ·rw [z01,v03,v03]; omega
  ·rw [z00,v03]; omega
theorem zv4 (l:List Int):(y68 l).length≤l.length:=by
 cases l with
 | nil=>exact v0a _
 | cons x r=>rw [y68,v03,v03]; have:=yew r x; omega
theorem y5f {p x:Int}:∀ {l:List Int},x∈ycz p l→x∈l
 | [],h=>by cases h
 | y :: r,h=>by
  rw [ycz] at h;cases hb:(y==p)
  ·rw [hb,z01] at h
   rcases v17.1 h with h | h
   ·exact h ▸ v09 ..
   ·exact v0b _ (y5f h)
  ·rw [hb,z00] at h
   exact v0b _ (y5f h)
theorem yg3 {x:Int} {l:List Int} (h:x∈y68 l):x∈l:=by
 cases l with
 | nil=>cases h
 | cons y r=>
  rcases v17.1 h with h | h
  ·exact h ▸ v09 ..
  ·exact v0b _ (y5f h)
theorem zkf (l:List Int):(iZ l).length=l.length:=v14 ..
theorem y5m (l:List Int):(iZ l).map IV.toInt=l:=by
 unfold iZ;rw [v43];exact List.map_id l
theorem zvl (l:List Int):zfp (iZ l)=l.map (Value.int .i64):=by
 unfold zfp iZ;rw [v43]
 rfl
theorem yio (l:List IV):zfp l=(l.map IV.toInt).map (Value.int .i64):=by
 unfold zfp;rw [v43]
 rfl
abbrev y12:Int→Value:=Value.int .i64
theorem zqc {w:World} {e g n cap:Nat} {zs:List Int} (h:w.ownsRow 0 e 1 (.slice (some ⟨g,0,none⟩) n cap) zs.length (zs.map y12)):n=zs.length∧n≤cap∧cap≤maxLen∧g < w.heap.size∧Holds y12 w g 0 zs.toArray:=by
 rcases h.2 with ⟨h1,_⟩ | ⟨g',cap',cur,h1,_,h2,h3,h4,h5,h6⟩
 ·cases h1
 ·simp only [Value.slice.injEq,v00,Addr.mk.injEq,v1c] at h1
  obtain ⟨rfl,rfl,rfl⟩:=h1;refine ⟨rfl,h3,h4,(Array.getElem?_eq_some_iff.1 h2).1,fun j hj=>?_⟩
  have hj':j < zs.length:=by simpa using hj
  rw [v0p];constructor
  ·have hc:cur[j]?=some (y12 zs[j]):=by
    have:(cur.toList.take (zs.length*1))[j]?=some (y12 zs[j]):=by rw [h6]; simp [hj']
    rw [v1a,v1b (by omega)] at this
    simpa using this
   simp only [World.cell?,h2];simp [hc,hj']
  ·simp [World.frozen?,h2]
theorem yo9 {w:World} {g:Nat} {cur:Array Value} {e:TypeId} {fr:Nat × Nat} (h:w.heap[g]?=some (.cells cur e fr)) (q:Nat) (os:Array Obj) (zs:List Int) :
  (grow (putRow y12 (Sort.ahead w q) g 0 zs.toArray) os).heap[g]?=some (.cells (putCells y12 0 zs.toArray cur) e fr):=by
 have hg:g < w.heap.size:=(Array.getElem?_eq_some_iff.1 h).1;have h0:(putRow y12 (Sort.ahead w q) g 0 zs.toArray).heap[g]?=some (.cells (putCells y12 0 zs.toArray cur) e fr):=by
  unfold putRow mapBlock;simp [v3m,onCells,h]
 unfold grow;simp only;rw [v3i (by rw [size_putRow]; exact hg)]
 exact h0
theorem yjl {cur:Array Value} {zs:List Int} (h:zs.length≤cur.size):(putCells y12 0 zs.toArray cur).size=cur.size∧(putCells y12 0 zs.toArray cur).toList.take zs.length=zs.map y12:=by
 refine ⟨by simp [putCells],?_⟩
 apply List.ext_getElem?;intro k;rw [v1a]
 by_cases hk:k < zs.length
 ·rw [v1b hk]
  have hc:k < cur.size:=by omega
  simp [putCells,hk,hc]
 ·rw [v0y hk]
  simp [hk]
theorem ycx {w:World} {e g n cap:Nat} {zs:List Int} (h:w.ownsRow 0 e 1 (.slice (some ⟨g,0,none⟩) n cap) zs.length (zs.map y12)) (q:Nat) (os:Array Obj) (ys rest:List Int) (hl:(ys++rest).length=zs.length) :
  w.grownBy (grow (putRow y12 (Sort.ahead w q) g 0 (ys++rest).toArray) os) (some g) ∧
   (grow (putRow y12 (Sort.ahead w q) g 0 (ys++rest).toArray) os).ownsRow 0 e 1 (.slice (some ⟨g,0,none⟩) ys.length cap) ys.length (ys.map y12):=by
 have hh:=zqc h;rcases h.2 with ⟨h1,_⟩ | ⟨g',cap',cur,h1,_,h2,h3,h4,h5,h6⟩
 ·cases h1
 ·simp only [Value.slice.injEq,v00,Addr.mk.injEq,v1c] at h1
  obtain ⟨rfl,rfl,rfl⟩:=h1;rw [v08] at hl;have hcur:(ys++rest).length≤cur.size:=by rw [v08]; omega
  obtain ⟨p1,p2⟩:=yjl (zs:=ys++rest) hcur;refine ⟨⟨rfl,rfl,rfl,?_,fun k hk hne=>?_⟩,by simp,.inr ⟨g,cap,_,rfl,v0x _,yo9 h2 q os _,by omega,h4,by rw [p1,h5],?_⟩⟩
  ·show w.heap.size≤((putRow y12 (Sort.ahead w q) g 0 (ys++rest).toArray).heap++os).size
   rw [Array.size_append,size_putRow];exact Nat.le_add_right _ _
  ·have hne':g≠k:=fun e=>hne (by rw [e])
   unfold grow;simp only;rw [v3i (by rw [size_putRow]; exact hk)]
   unfold putRow mapBlock;simp [v3m,hne']
  ·rw [v49]
   have:=congrArg (List.take ys.length) p2
   rw [v3u,v2d (by rw [v08]; omega),v3x,List.take_left' (by simp)] at this
   exact this
theorem y1v (w:World) (r:Option Nat):w.grownBy w r:=⟨rfl,rfl,rfl,v0a _,fun _ _ _=>rfl⟩
theorem ymq {l:List IV} (h:∀ x∈l,IntKind.i64.min≤x.toInt∧x.toInt≤IntKind.i64.max) {ys:List Int} (hs:∀ y∈ys,y∈l.map IV.toInt):∀ x∈iZ ys,IntKind.i64.min≤x.toInt∧x.toInt≤IntKind.i64.max:=by
 intro x hx;obtain ⟨y,hy,rfl⟩:=List.mem_map.1 hx;obtain ⟨z,hz,hzy⟩:=List.mem_map.1 (hs y hy);show IntKind.i64.min≤y∧y≤IntKind.i64.max;rw [← hzy];exact h z hz
theorem zxw {w:World} {e:Nat} {v:Value} {l:List IV} (h:w.ownsRow 0 e 1 v l.length (zfp l)):(v = .slice none 0 0∧l=[])∨∃ g cap,v = .slice (some ⟨g,0,none⟩) (l.map IV.toInt).length cap∧w.ownsRow 0 e 1 (.slice (some ⟨g,0,none⟩) (l.map IV.toInt).length cap) (l.map IV.toInt).length ((l.map IV.toInt).map y12):=by
 rcases h.2 with ⟨h1,h2⟩ | ⟨g,cap,cur,h1,_⟩
 ·exact .inl ⟨h1,List.length_eq_zero_iff.1 h2⟩
 ·rw [h1] at h
  refine .inr ⟨g,cap,by rw [h1,v14],?_⟩
  rw [v14,← yio];exact h
theorem yin:y4e PR 201 yex:=by
 intro w v l l' rs ys hown hrng hlen hr hg;unfold yex at hg;simp only at hg
 split at hg
 ·simp only [v00] at hg
  subst hg;obtain rfl:ys=[]:=by
   cases ys with
   | nil=>rfl
   | cons y ys=>simp [zsx] at hr
  refine Does.of_calls Tryz.func201 (by kernel_rfl) (by kernel_rfl) ?_
  have hmem:∀ y∈zjq (l.map IV.toInt),y∈l.map IV.toInt:=fun y hy=>(z9q _).mem_iff.1 hy
  rcases zxw hown with ⟨rfl,rfl⟩ | ⟨g,cap,rfl,ho⟩
  ·refine (Tryz.slices_Sort_int_none none 0 w).mono ?_
   rintro e w' ⟨rfl,rfl⟩
   exact ⟨_,rfl,y1v _ _,fun x hx=>(by cases hx),fun h=>(by cases h),fun _=>hown⟩
  ·obtain ⟨_,_,hcm,hgs,hH⟩:=zqc ho
   refine (Tryz.slices_Sort_int g 0 cap (l.map IV.toInt) w hH hgs (by rw [v14]; unfold strMax at hlen; omega)).mono ?_
   rintro e w' ⟨rfl,q,os,rfl⟩
   rw [ydp];have hl:(zjq (l.map IV.toInt)++[]).length=(l.map IV.toInt).length:=by rw [v2a]; exact (z9q _).length_eq
   have hp:=ycx ho q os (zjq (l.map IV.toInt)) [] hl;rw [v2a] at hp hl;refine ⟨_,rfl,hp.1,ymq hrng hmem,fun h=>(by cases h),fun _=>?_⟩
   rw [zvl,zkf,← hl];exact hp.2
 ·cases hg
theorem y44:y4e PR 202 zq1:=by
 intro w v l l' rs ys hown hrng hlen hr hg;unfold zq1 at hg;simp only at hg
 split at hg
 ·simp only [v00] at hg
  subst hg;obtain rfl:ys=[]:=by
   cases ys with
   | nil=>rfl
   | cons y ys=>simp [zsx] at hr
  refine Does.of_calls Tryz.func202 (by kernel_rfl) (by kernel_rfl) ?_
  rcases zxw hown with ⟨rfl,rfl⟩ | ⟨g,cap,rfl,ho⟩
  ·refine (Tryz.slices_Compact_int_empty none 0 w).mono ?_
   rintro e w' ⟨rfl,rfl⟩
   exact ⟨_,rfl,y1v _ _,fun x hx=>(by cases hx),fun _=>⟨hown,fun b hb=>(by simp [Value.ownBlock] at hb)⟩,fun h=>by cases h⟩
  ·obtain ⟨_,hnc,hcm,hgs,hH⟩:=zqc ho
   refine (Tryz.slices_Compact_int g 0 cap (l.map IV.toInt) w hH (by rw [v14]; unfold strMax at hlen; omega) hnc).mono ?_
   rintro e w' ⟨rfl,q,rfl⟩
   rw [yap];have hlc:=zv4 (l.map IV.toInt);have hp:=ycx ho q #[] (y68 (l.map IV.toInt)) (List.replicate ((l.map IV.toInt).length - (y68 (l.map IV.toInt)).length) 0) (by rw [v08,v3l]; omega)
   rw [grow_empty] at hp;refine ⟨_,rfl,hp.1,ymq hrng fun y hy=>yg3 hy,fun _=>⟨?_,fun b hb=>.inl hb⟩,fun h=>by cases h⟩
   rw [zvl,zkf];exact hp.2
 ·cases hg
set_option maxHeartbeats 1000000 in
theorem y2d (a b x:Int) (B:Nat) (W:World) (ha:W.cell? ⟨B,0,none⟩=some (.int .i64 a)) (hb:W.cell? ⟨B,1,none⟩=some (.int .i64 b)) :
  FnGives Tryz.prog 169 #[.pointer (some ⟨B,0,none⟩)] #[.int .i64 x] (.bool (decide (x < a)||decide (x≥b))) W:=by
 show Calls Tryz.prog 169 #[.int .i64 x,.pointer (some ⟨B,0,none⟩)] W _
 go_enter Tryz.func169,Tryz.ntmps169
 go_wp2
 all_goals (go_ret; exact ⟨by simp_all,0,rfl⟩)
set_option maxHeartbeats 1000000 in
theorem yhn (fv:Value) (w:World):Calls Tryz.prog 167 #[.slice none 0 0,fv] w fun e w'=>e = .returned (.slice none 0 0)∧∃ q,w'=w.drewN q:=by
 go_enter Tryz.func167,Tryz.ntmps167
 go_wp2_with (go_at_call 200; refine (Tryz.slices_IndexFunc_empty (α:=Int) none 0 fv _).mono ?_; rintro e w' ⟨rfl,rfl⟩)
 go_ret
 exact ⟨rfl,0,rfl⟩
theorem yhp {w:World} {v:Value} {f:Nat} {a b:Int} {ys:List Value} (h:zsx w v [.clo f [.bor [.int .i64 a,.int .i64 b]]] ys):∃ B,ys=[.func (.func f) #[] #[.pointer (some ⟨B,0,none⟩)]]∧B < w.heap.size∧w.cell? ⟨B,0,none⟩=some (.int .i64 a)∧w.cell? ⟨B,1,none⟩=some (.int .i64 b)∧v.ownBlock≠some B:=by
 cases ys with
 | nil=>simp [zsx] at h
 | cons y r=>
  cases r with
  | cons _ _=>simp [zsx] at h
  | nil=>
   simp only [zsx] at h;obtain ⟨B,c,T,rfl,hh,hc,hne⟩:=h;refine ⟨B,rfl,(Array.getElem?_eq_some_iff.1 hh).1,?_,?_,hne⟩
   ·simp only [World.cell?,hh]
    rw [← v28,hc]
    rfl
   ·simp only [World.cell?,hh]
    rw [← v28,hc]
    rfl
theorem yb7:y4e PR 167 zv5:=by
 intro w v l l' rs ys hown hrng hlen hr hg;unfold zv5 at hg;simp only at hg
 split at hg
 ·rename_i f a b
  cases hf:Nat.beq f 169 with
  | false=>rw [hf,z01] at hg; cases hg
  | true=>
   rw [hf,z00,v00] at hg;subst hg;obtain rfl:=z1w.1 hf;obtain ⟨B,rfl,hBs,ha,hb,hne⟩:=yhp hr;have pe:zkr a b (l.map IV.toInt)=(l.map IV.toInt).filter fun x=>!(decide (x < a)||decide (x≥b)):=rfl
   have eg:∀ args w,(callFunc 169 args).run Tryz.prog w = .ok (.enter 169 args) w:=enters_of Tryz.func169 (by kernel_rfl) rfl
   have hp:PredAt Tryz.prog 169 #[.pointer (some ⟨B,0,none⟩)] y12 (fun x=>decide (x < a)||decide (x≥b)) w:=
    fun W x hbw=>y2d a b x B W ((hbw.cell (p:=⟨B,0,none⟩) hBs).trans ha) ((hbw.cell (p:=⟨B,1,none⟩) hBs).trans hb)
   rcases zxw hown with ⟨rfl,rfl⟩ | ⟨g,cap,rfl,ho⟩
   ·refine Does.of_calls Tryz.func167 (by kernel_rfl) (by kernel_rfl) ((yhn _ w).mono ?_)
    rintro e w' ⟨rfl,q,rfl⟩
    exact ⟨_,rfl,⟨rfl,rfl,rfl,v0a _,fun _ _ _=>rfl⟩,fun x hx=>(by cases hx),fun _=>⟨World.ownsRow_nil _ 0 _ _,fun b hb=>(by simp [Value.ownBlock] at hb)⟩,fun h=>by cases h⟩
   ·obtain ⟨_,hnc,hcm,hgs,hH⟩:=zqc ho
    have hBg:B≠g:=fun e=>hne (by rw [e]; rfl)
    have hpo:PredOver Tryz.prog 169 #[.pointer (some ⟨B,0,none⟩)] y12 (fun x=>decide (x < a)||decide (x≥b)) g 0 (l.map IV.toInt).toArray.size w:=
     fun n os dk x _=>by
      have hcell:∀ o u,w.cell? ⟨B,o,none⟩=some u→(sortWorld y12 w g 0 n dk os).cell? ⟨B,o,none⟩=some u:=fun o u hu=>by
       unfold sortWorld;rw [cell?_grow _ _ _ (by show B < (putRow _ _ _ _ _).heap.size; rw [size_putRow]; exact hBs),cell?_putRow_other _ _ g 0 _ _ (Or.inl hBg)]
       exact hu
      exact y2d a b x B _ (hcell 0 _ ha) (hcell 1 _ hb)
    refine Does.of_calls Tryz.func167 (by kernel_rfl) (by kernel_rfl) ?_
    have hcall:=Tryz.slices_DeleteFunc y12 (fun _=>rfl) (fun x=>decide (x < a)||decide (x≥b)) 169 #[.pointer (some ⟨B,0,none⟩)] eg 0 Tryz.zeroValue3 g 0 cap (l.map IV.toInt).toArray w hp hpo hH (by simp; unfold strMax at hlen; omega) (by simp; rw [v14] at hnc; exact hnc)
    have es:(l.map IV.toInt).toArray.size=(l.map IV.toInt).length:=by simp
    rw [es] at hcall;refine hcall.mono ?_
    rintro e w' ⟨rfl,q,rfl⟩
    have ef:(l.map IV.toInt).toArray.toList.filter (fun x=>!(decide (x < a)||decide (x≥b)))=zkr a b (l.map IV.toInt):=rfl
    rw [ef];have hlc:(zkr a b (l.map IV.toInt)).length≤(l.map IV.toInt).length:=v3y ..
    have hp2:=ycx ho q #[] (zkr a b (l.map IV.toInt)) (List.replicate ((l.map IV.toInt).length - (zkr a b (l.map IV.toInt)).length) 0) (by rw [v08,v3l]; omega)
    rw [grow_empty] at hp2;refine ⟨_,rfl,hp2.1,ymq hrng fun y hy=>(List.mem_filter.1 hy).1,fun _=>⟨?_,fun b hb=>.inl hb⟩,fun h=>by cases h⟩
    rw [zvl,zkf];exact hp2.2
 ·cases hg
open Go Go.Proofs
set_option maxRecDepth 100000
theorem yar {dim n:Int}:∀ {l:List IV} {i k:Nat} (hk:k < l.length),zf5 dim n i l=true→zbi (l[k]).toInt=true∧y38 dim n (i+k) (z07 (l[k]).toInt)=true
 | [],i,k,hk,_=>absurd hk (Nat.not_lt_zero k)
 | w :: r,i,0,hk,h=>by
  rw [zf5] at h;simp only [v02] at h;exact h.1
 | w :: r,i,k+1,hk,h=>by
  rw [zf5,v02] at h
  have:=yar (k:=k) (by simpa using hk) h.2
  rw [show i+1+k=i+(k+1) by omega] at this
  exact this
theorem zi5 {l:List IV} {dim:Int} (h:zav l dim=true):(1≤l.length∧l.length≤31)∧(∀ k (hk:k < l.length),zbi (l[k]).toInt=true∧y38 dim (ic l.length) k (z07 (l[k]).toInt)=true)∧ym0 l=true:=by
 unfold zav at h;simp only [v02] at h;refine ⟨⟨v04 h.1.1,v04 h.1.2⟩,fun k hk=>?_,h.2.2⟩
 have:=yar hk h.2.1
 rwa [v0p] at this
theorem ycb {dim n:Int} {i:Nat} {x:Nd} (h:y38 dim n i x=true) (hl:x.lf=false):x.f < dim∧x.l≠x.r∧((i:Int) < x.l∧(i:Int) < x.r)∧(x.l < n∧x.r < n):=by
 unfold y38 at h;rw [hl,z01] at h;simp only [v02,v12,v15,v0v] at h;obtain ⟨h1,h2,h3,h4⟩:=h;exact ⟨by omega,h2,by omega,by omega⟩
theorem yhr {l:List IV} {d e:Int} (h:zav l d=true) (hde:d≤e):zav l e=true:=by
 have key:∀ (l:List IV) (n:Int) (i:Nat),zf5 d n i l=true→zf5 e n i l=true:=by
  intro l n
  induction l with
  | nil=>intro _ _; rfl
  | cons w r ih=>
   intro i h;rw [zf5] at h ⊢
   simp only [v02] at h ⊢
   refine ⟨⟨h.1.1,?_⟩,ih _ h.2⟩;have h2:=h.1.2;unfold y38 at h2 ⊢
   cases hl:(z07 w.toInt).lf with
   | true=>rfl
   | false=>
    rw [hl,z01] at h2;rw [z01];simp only [v02,v12,v15] at h2 ⊢
    exact ⟨by omega,h2.2⟩
 unfold zav at h ⊢
 simp only [v02] at h ⊢
 exact ⟨h.1,key _ _ _ h.2.1,h.2.2⟩
abbrev kpL:KP:=⟨[4,5,6,24,25,26],[20,500],[⟨(.tmp 6),500,275,true,zfl⟩]⟩
abbrev yva (l:List IV) (i:Int) (own out:List IV):St:=
 ⟨[(4,.zs),(5,(.row 20 0 l.length)),(6,(.row 500 0 out.length)),(24,(.list false [(.int .u64)] l)),(25,(.int .i64 (ic (List.length l)))),(26,(.int .i64 i))],[(20,(some (.row true 36 true zch own))),(500,(some (.row true 275 true zfl out)))]⟩
theorem zlw (N:Nat) (l:List IV) (ht:zav l 4=true):∀ (m i n:Nat) (own out:List IV),i+m=l.length→m < n→own.length=l.length→out.length≤i →
  lpE (z4o N) (z0f z6p [1,1,1,1,1,0,1,0,0]) kpL n (yva l (i:Int) own out) (z05 0 (kSq (z4o N) (z0f z6p [1,1,1,1,1,1]) (z2s (z4o N) none [(ResultVar.tmp 4)] [[(.list true zfl)]]))) =
   some (.list true zfl (zr4 (l.drop i) i own out),[])
 | m,i,0,_,_,_,h,_,_=>absurd h (by omega)
 | 0,i,n+1,own,out,hd,_,_,_=>by
  have hi:i=l.length:=by omega
  subst hi;rw [z06,ziv,zdj (v0a _),z01,zpr,v2e,zr4,v0z,v0q]
 | m+1,i,n+1,own,out,hd,hn,ho,hu=>by
  obtain ⟨⟨l1,l31⟩,hat,_⟩:=zi5 ht;have hi:i < l.length:=by omega
  have ei:IntKind.wrap IntKind.i64 ((i:Int)+1)=((i+1:Nat):Int):=z7r (by omega)
  obtain ⟨hb,hf⟩:=hat i hi;have io:decide ((i:Int) < ic (l.length - 0))=true:=zbm hi;rw [z06,ziv,ei,zbm hi,z00,zjl,v0w,z00,zda hi,io,v0w,v0g,v0m hi,zr4];simp only [v0p];cases hl:(z07 (l[i]).toInt).lf with
  | true=>
   rw [v0e,z01,z00,z00,v0k];have e1:zjd (z07 (l[i]).toInt) i own=own:=by unfold zjd; rw [hl,z00]
   rw [e1];cases (bxI (own.getD i default)).emp with
   | true=>exact zlw N l ht m (i+1) n own out (by omega) (by omega) ho (by omega)
   | false=>
    have ih:=zlw N l ht m (i+1) n own (out++[pcI (bxI (own.getD i default)) (z07 (l[i]).toInt).v]) (by omega) (by omega) ho (by rw [v08]; simp; omega)
    unfold yva at ih;rw [v08,v1j] at ih;rw [v0j,z00,z00,v01 (show (out.length+1)*88≤z08 by unfold z08; omega),z00,v0q]
    exact ih
  | false=>
   obtain ⟨f4,_,_,⟨ln,rn⟩⟩:=ycb hf hl;obtain ⟨⟨f0,_⟩,⟨a1,_⟩,⟨b1,_⟩,_⟩:=zwf hb hl;have hp:zse (z07 (l[i]).toInt).f=true:=by unfold zse; rw [v01 f0,v01 (by omega)]; rfl
   have el:(decide (0≤(z07 (l[i]).toInt).l)&&decide ((z07 (l[i]).toInt).l < ic (l.length - 0)))=true:=by rw [v01 (by omega),v01 (show (z07 (l[i]).toInt).l < ic (l.length - 0) from ln)]; rfl
   have er:(decide (0≤(z07 (l[i]).toInt).r)&&decide ((z07 (l[i]).toInt).r < ic (l.length - 0)))=true:=by rw [v01 (by omega),v01 (show (z07 (l[i]).toInt).r < ic (l.length - 0) from rn)]; rfl
   rw [v0j,z00,z00,hp,z00,el,z00,er,z00,v0u,z01];have e1:zjd (z07 (l[i]).toInt) i own=(own.set (z07 (l[i]).toInt).l.toNat ((bxI (own.getD i default)).cutL (z07 (l[i]).toInt).f (z07 (l[i]).toInt).a).I).set (z07 (l[i]).toInt).r.toNat ((bxI (own.getD i default)).cutH (z07 (l[i]).toInt).f (z07 (l[i]).toInt).a).I:=by unfold zjd; rw [hl,z01]
   rw [e1];exact zlw N l ht m (i+1) n _ out (by omega) (by omega) (by rw [v2l,v2l]; exact ho) (by omega)
theorem zx3:z32 PR B0 218 zbh:=by
 refine z0h [(111,z92),(112,z2u),(55,z2i),(96,z97)] [(7,⟨[4,5,6,24,25,26],[20,500],[⟨.tmp 6,500,275,true,[.int .i64,.int .i64,.int .i64,.int .i64,.int .i64,.int .i64,.int .i64,.int .i64,.int .i64,.int .i64,.int .i64]⟩]⟩)] zbh [[.list true [.int .i64,.int .i64,.int .i64,.int .i64,.int .i64,.int .i64,.int .i64,.int .i64,.int .i64,.int .i64,.int .i64]]] Tryz.func218 y65 ⟨zhu,z7z,z7c,zn6,trivial⟩ ?_;intro vs r hwf h;unfold zbh at h
 split at h
 ·rename_i l b
  replace h:=z3i h;obtain ⟨b,rfl,h⟩:=h;rw [R.get_ok] at h;refine ⟨40,?_⟩;rw [← h];refine (y0g 40 l b).trans ?_;unfold z5i;cases ht:zav l 4 with
  | false=>rfl
  | true=>
   rw [v0e,z01,v0k];cases b.emp with
   | true=>rfl
   | false=>
    obtain ⟨⟨l1,l31⟩,_,_⟩:=zi5 ht;have run:=zlw 40 l ht l.length 0 40 ((List.replicate l.length bx0.I).set 0 b.I) [] (by omega) (by omega) (by simp) (v0x _)
    rw [z01,v01 (show (0:Int)≤ic l.length by simp only [ic]; omega),v01 (show ic l.length=ic l.length from rfl),v01 (show ic l.length*ic 80≤ic z08 by unfold z08; simp only [ic]; omega),v0w,v0w,z00,
     v01 (show 0≤0 from v0a 0),v01 (show (0:Int) < ic (Int.toNat (ic l.length) - 0) by simp only [ic]; omega),v0w,z00]
    exact run
 ·simp [R.get] at h
abbrev yun (l:List IV) (lo hi i:Int):St:=⟨[(4,(.int .i64 0)),(5,(.int .i64 0)),(6,(.bool false)),(8,(.int .i64 lo)),(9,(.int .i64 hi)),(26,(.list true zfl l)),(27,(.int .i64 (ic (List.length l)))),(28,(.int .i64 i))],[]⟩
theorem y71 (N:Nat) (l:List IV) (hl:l.length≤strMax):∀ (m i n:Nat) (lo hi:Int),i+m=l.length→m < n →
  lpE (z5r N) (z0f z7s [1,1,1,1,0,1,0,0]) ⟨[4,5,6,8,9,26,27,28],[],[]⟩ n (yun l lo hi (i:Int)) (z05 0 (kSq (z5r N) (z0f z7s [1,1,1,1,1]) (z2s (z5r N) none [(ResultVar.tmp 4),(ResultVar.tmp 5),(ResultVar.tmp 6)] [[(.int .i64)],[(.int .i64)],[.bool]]))) =
   some (.tup [.int .i64 (yj0 (l.drop i) lo),.int .i64 (yj2 (l.drop i) hi),.bool true],[])
 | m,i,0,_,_,_,h=>absurd h (by omega)
 | 0,i,n+1,lo,hi,hd,_=>by
  have hi:i=l.length:=by omega
  subst hi;rw [z06,zkg,zdj (v0a _),z01,v2e];exact zs0 N _ _ _ _ _ l _ _
 | m+1,i,n+1,lo,hi,hd,hn=>by
  have hi:i < l.length:=by omega
  have mx:strMax=140737488355327:=rfl;have ei:IntKind.wrap IntKind.i64 ((i:Int)+1)=((i+1:Nat):Int):=z7r (by omega)
  rw [z06,zkg,ei,zbm hi,z00,zjl,v0w,z00,zda hi,v0m hi,yj0,yj2];exact y71 N l hl m (i+1) n _ _ (by omega) (by omega)
theorem y91:∀ (l:List IV) (i:Nat) (own out:List IV),(zr4 l i own out).length≤out.length+l.length
 | [],_,_,out=>v0a _
 | w :: r,i,own,out=>by
  rw [zr4]
  have:=y91 r (i+1) (zjd (z07 w.toInt) i own) (cond ((z07 w.toInt).lf&&!(bxI (own.getD i default)).emp) (out++[pcI (bxI (own.getD i default)) (z07 w.toInt).v]) out)
  refine v1n this ?_;cases ((z07 w.toInt).lf&&!(bxI (own.getD i default)).emp) with
  | true=>rw [z00,v08,v1j,v03]; omega
  | false=>rw [z01,v03]; omega
theorem yig (l:List IV) (b:Bx):(z5i l b).length≤31:=by
 unfold z5i;cases ht:zav l 4 with
 | false=>exact v0x _
 | true=>
  cases b.emp with
  | true=>exact v0x _
  | false=>
   have:=y91 l 0 ((List.replicate l.length bx0.I).set 0 b.I) []
   have h2:=(zi5 ht).1.2;simp only [v0i,v0p] at this;exact v1n this h2
theorem zzo:z32 PR B0 196 zde:=by
 refine z0h [(218,zbh)] [(6,⟨[4,5,6,8,9,26,27,28],[],[]⟩)] zde [[.int .i64],[.int .i64],[.bool]] Tryz.func196 y7v ⟨zx3,trivial⟩ ?_;intro vs r hwf h;unfold zde at h
 split at h
 ·rename_i l b
  replace h:=z3i h;obtain ⟨b,rfl,h⟩:=h;rw [R.get_ok] at h;refine ⟨40,?_⟩;rw [← h];refine (y3h 40 l b).trans ?_;have h31:=yig l b;unfold tLo tHi tOK yss yt9;generalize z5i l b=ps at h31 ⊢
  cases ps with
  | nil=>rfl
  | cons x r=>
   have run:=y71 40 (x :: r) (v1n h31 (by decide)) (x :: r).length 0 40 (pcV x) (pcV x) (by omega) (by omega)
   have e0:(ic (x :: r).length==0)=false:=by
    simp only [ic,v03,v0v];omega
   have e1:(decide (0≤0)&&decide (0 < ic (x :: r).length))=true:=by
    rw [v01 (show 0≤0 from v0a 0),v01 (show 0 < ic (x :: r).length by simp only [ic,v03]; omega)]
    rfl
   rw [e0,z01,e1,z00,z00];exact run
 ·simp [R.get] at h
theorem yr4 {l:List IV}:∀ {a:Int},z2c a=true→(∀ x∈l,z2c (pcV x)=true)→z2c (yj0 l a)=true:=by
 induction l with
 | nil=>intro a h _; exact h
 | cons x r ih=>
  intro a h hx;rw [yj0];refine ih ?_ fun y hy=>hx y (v0b _ hy)
  have:=z6q h
  have:=z6q (hx x (v09 ..))
  unfold z2c;rw [v01 (by omega),v01 (by omega)]
  rfl
theorem yqb {l:List IV}:∀ {a:Int},z2c a=true→(∀ x∈l,z2c (pcV x)=true)→z2c (yj2 l a)=true:=by
 induction l with
 | nil=>intro a h _; exact h
 | cons x r ih=>
  intro a h hx;rw [yj2];refine ih ?_ fun y hy=>hx y (v0b _ hy)
  have:=z6q h
  have:=z6q (hx x (v09 ..))
  unfold z2c;rw [v01 (by omega),v01 (by omega)]
  rfl
theorem y2g:∀ (l:List IV) (i:Nat) (own out:List IV),(∀ x∈out,z2c (pcV x)=true)→∀ x∈zr4 l i own out,z2c (pcV x)=true
 | [],_,_,_,h=>h
 | w :: r,i,own,out,h=>by
  rw [zr4];refine y2g r (i+1) _ _ ?_;cases ((z07 w.toInt).lf&&!(bxI (own.getD i default)).emp) with
  | true=>
   intro x hx;rcases v0o.1 hx with hx | hx
   ·exact h x hx
   ·obtain rfl:=v1v.1 hx
    exact ygk _
  | false=>exact h
theorem ydx (l:List IV) (b:Bx):∀ x∈z5i l b,z2c (pcV x)=true:=by
 unfold z5i;cases (zav l 4&&!b.emp) with
 | true=>exact y2g _ _ _ _ (fun x hx=>by cases hx)
 | false=>intro x hx; cases hx
theorem yu5 (l:List IV) (b:Bx):z2c (tLo l b)=true∧z2c (tHi l b)=true:=by
 unfold tLo tHi tOK;have hf:=ydx l b;generalize z5i l b=ps at hf ⊢
 cases ps with
 | nil=>exact ⟨rfl,rfl⟩
 | cons x r=>exact ⟨yr4 (hf x (v09 ..)) hf,yqb (hf x (v09 ..)) hf⟩
abbrev yut (ts:List IV) (b:Bx) (k lo hi i:Int):St:=⟨[(1,(.int .i64 k)),(5,(.ptr 5 0 0)),(6,(.int .i64 0)),(7,(.int .i64 0)),(8,(.bool false)),(9,(.int .i64 lo)),(10,(.int .i64 hi)),(42,(.list true zns ts)),(43,(.int .i64 (ic (List.length ts)))),(44,(.int .i64 i))],[(5,(some (.box (Bx.cs b))))]⟩
theorem ydc (N:Nat) (ts:List IV) (b:Bx) (k:Int) (hts:ts.length≤8):∀ (m i n:Nat) (lo hi:Int),i+m=ts.length→m < n→(-2147483648*(i+1)≤lo∧lo≤2147483648*(i+1))→(-2147483648*(i+1)≤hi∧hi≤2147483648*(i+1)) →
  lpE (z0r N) (z0f z1e [1,1,1,0,1,0,0]) ⟨[1,5,6,7,8,9,10,42,43,44],[5],[]⟩ n (yut ts b k lo hi (i:Int)) (z05 0 (kSq (z0r N) (z0f z1e [1,1,1,1]) (z2s (z0r N) none [(ResultVar.tmp 6),(ResultVar.tmp 7),(ResultVar.tmp 8)] [[(.int .i64)],[(.int .i64)],[.bool]]))) =
   some (.tup [.int .i64 (zvv (fun l=>tLo l b) k (ts.drop i) lo),.int .i64 (zvv (fun l=>tHi l b) k (ts.drop i) hi),.bool true],[])
 | m,i,0,_,_,_,h,_,_=>absurd h (by omega)
 | 0,i,n+1,lo,hi,hd,_,_,_=>by
  have hlt:i=ts.length:=by omega
  subst hlt;rw [z06,zn5,zdj (v0a _),z01,v2e];exact zuy N b _ _ _ _ _ _ _ _ _
 | m+1,i,n+1,lo,hi,hd,hn,h1,h2=>by
  have hlt:i < ts.length:=by omega
  have ei:IntKind.wrap IntKind.i64 ((i:Int)+1)=((i+1:Nat):Int):=z7r (by omega)
  rw [z06,zn5,ei,zbm hlt,z00,zjl,v0w,z00,zda hlt,v0m hlt,zvv,zvv];obtain ⟨q1,q2⟩:=yu5 (zcm ts[i]) b;have q1:=z6q q1;have q2:=z6q q2;have en:((ts[i].cell 0).toInt != k)=!((ts[i].cell 0).toInt==k):=rfl;rw [en];cases ((ts[i].cell 0).toInt==k) with
  | true=>
   rw [v0e,z01,z00,z00];have ew:IntKind.wrap IntKind.i64 (lo+tLo (zcm ts[i]) b)=lo+tLo (zcm ts[i]) b:=z0s (by omega) (by omega)
   have ew2:IntKind.wrap IntKind.i64 (hi+tHi (zcm ts[i]) b)=hi+tHi (zcm ts[i]) b:=z0s (by omega) (by omega)
   have ih:=ydc N ts b k hts m (i+1) n (lo+tLo (zcm ts[i]) b) (hi+tHi (zcm ts[i]) b) (by omega) (by omega) (by omega) (by omega)
   rw [← ew,← ew2] at ih;refine v4b ih ?_;rw [ew,ew2]
  | false=>
   rw [v0j,z00,z01,z01];exact ydc N ts b k hts m (i+1) n lo hi (by omega) (by omega) (by omega) (by omega)
theorem zi8:z32 PR B0 162 z88:=by
 refine z0h [(196,zde),(112,z2u),(53,z2j)] [(5,⟨[1,5,6,7,8,9,10,42,43,44],[5],[]⟩)] z88 [[.int .i64],[.int .i64],[.bool]] Tryz.func162 yd2 ⟨zzo,z7z,z7e,trivial⟩ ?_;intro vs r hwf h;unfold z88 at h
 split at h
 ·rename_i m k b
  replace h:=z3q h;obtain ⟨m,rfl,h⟩:=h;replace h:=z3i h;obtain ⟨b,rfl,h⟩:=h;rw [R.get_ok] at h;refine ⟨10,?_⟩;rw [← h];refine (y6v 10 m k b).trans ?_;unfold sLo sHi sOK;cases hm:z2g m with
  | false=>rfl
  | true=>
   rw [v0e,z01];cases h0:decide (k < 0) with
   | true=>
    have:zd7 m k=false:=by unfold zd7; rw [v05 (show ¬ 0≤k by have:=v0c h0; omega)]; rfl
    rw [this]
    rfl
   | false=>
    rw [z01];cases h1:decide (k≥m.c) with
    | true=>
     have:zd7 m k=false:=by unfold zd7; rw [v05 (show ¬ k < m.c by have:=v0c h1; omega),v2o]
     rw [this]
     rfl
    | false=>
     have hc:zd7 m k=true:=by unfold zd7; rw [v01 (show 0≤k by have:=v0r h0; omega),v01 (show k < m.c by have:=v0r h1; omega)]; rfl
     rw [z01,hc];cases b.emp with
     | true=>rfl
     | false=>
      have hb:=y3c hm k;have run:=ydc 10 m.ts b k (z2n hm).2.2.1 m.ts.length 0 10 (zep m k) (zep m k) (by omega) (by have:=(z2n hm).2.2.1; omega) (by omega) (by omega)
      rw [z01];rcases zyq hm hc with rfl | rfl | rfl <;> exact run
 ·simp [R.get] at h
theorem ybt (g:List IV→Int) (hg:∀ l,-2147483648≤g l∧g l≤2147483648) (k:Int):∀ (ts:List IV) (s:Int) (n:Nat),(-2147483648*(n:Int)≤s∧s≤2147483648*(n:Int)) → -2147483648*((n+ts.length:Nat):Int)≤zvv g k ts s∧zvv g k ts s≤2147483648*((n+ts.length:Nat):Int)
 | [],s,n,h=>by
  rw [zvv]
  simpa using h
 | t :: r,s,n,h=>by
  rw [zvv];have h1:=hg (zcm t)
  have:=ybt g hg k r (cond (ypa t==k) (s+g (zcm t)) s) (n+1) (by cases (ypa t==k) <;> simp only [v1e,v18] <;> omega)
  rw [v03];rw [show n+1+r.length=n+(r.length+1) by omega] at this
  exact this
theorem yu6 {m:Md} (k:Int) (b:Bx):(-34359738368≤sLo m k b∧sLo m k b≤34359738368)∧(-34359738368≤sHi m k b∧sHi m k b≤34359738368):=by
 unfold sLo sHi;cases hs:sOK m k b with
 | false=>simp only [v18]; omega
 | true=>
  unfold sOK at hs;simp only [v02] at hs;have hb:=y3c hs.1 k;have h8:=(z2n hs.1).2.2.1;have h1:=ybt (fun l=>tLo l b) (fun l=>by have:=z6q (yu5 l b).1; omega) k m.ts (zep m k) 1 (by omega)
  have h2:=ybt (fun l=>tHi l b) (fun l=>by have:=z6q (yu5 l b).2; omega) k m.ts (zep m k) 1 (by omega)
  rw [z00,z00];omega
abbrev yvn (m:Md) (b:Bx) (k lo a:Int) (z:Bool) (i:Int):St:=⟨[(1,(.int .i64 k)),(3,(.ptr 3 0 0)),(5,(.ptr 5 0 0)),(6,(.int .i64 0)),(7,(.bool false)),(8,(.int .i64 lo)),(11,(.int .i64 a)),(12,(.bool z)),(33,(.int .i64 (Md.c m))),(34,(.int .i64 i))],[(3,(some (.box (Md.cs m)))),(5,(some (.box (Bx.cs b))))]⟩
theorem yel (N:Nat) (m:Md) (b:Bx) (k:Int) (hc:0≤m.c∧m.c≤3) (lo:Int) (hlo : -34359738368≤lo∧lo≤34359738368):∀ (d i n:Nat) (a:Int) (z:Bool),((i+d:Nat):Int)=m.c→d < n →
  lpE (z3y N) (z0f z5q [1,1,1,1,0,1,0,0]) ⟨[1,3,5,6,7,8,11,12,33,34],[3,5],[]⟩ n (yvn m b k lo a z (i:Int)) (z05 0 (kSq (z3y N) (z0f z5q [1,1,1,1,1]) (z2s (z3y N) none [(ResultVar.tmp 6),(ResultVar.tmp 7)] [[(.int .i64)],[.bool]]))) =
   some (.tup [.int .i64 (zzj m k lo b d (i:Int) a z),.bool true],[])
 | d,i,0,_,_,_,h=>absurd h (by omega)
 | 0,i,n+1,a,z,hd,_=>by
  rw [z06,zh3,v05 (show ¬ (i:Int) < m.c by omega),z01]
  exact znh N m b _ _ _ _ _ _ _ _
 | d+1,i,n+1,a,z,hd,hn=>by
  have ei:IntKind.wrap IntKind.i64 ((i:Int)+1)=((i+1:Nat):Int):=z7r (by omega)
  have hs:=(yu6 (m:=m) (i:Int) b).2;have ew:IntKind.wrap IntKind.i64 (lo - sHi m (i:Int) b)=lo - sHi m (i:Int) b:=z0s (by omega) (by omega)
  have ec:(i:Int)+1=((i+1:Nat):Int):=by omega
  rw [z06,zh3,ei,ew,v01 (show (i:Int) < m.c by omega),z00,zzj,ec]
  have ih:=fun a z=>yel N m b k hc lo hlo d (i+1) n a z (by omega) (by omega)
  cases ((i:Int)==k) with
  | true=>exact ih a z
  | false=>
   rw [z01,z01];cases z with
   | false=>exact ih _ true
   | true=>
    rw [v0e,z01,v2t];cases decide (lo - sHi m (i:Int) b < a) with
    | true=>exact ih _ true
    | false=>exact ih a true
theorem zv3:z32 PR B0 163 zad:=by
 refine z0h [(162,z88)] [(6,⟨[1,3,5,6,7,8,11,12,33,34],[3,5],[]⟩)] zad [[.int .i64],[.bool]] Tryz.func163 zzb ⟨zi8,trivial⟩ ?_;intro vs r hwf h;unfold zad at h
 split at h
 ·rename_i m k b
  replace h:=z3q h;obtain ⟨m,rfl,h⟩:=h;replace h:=z3i h;obtain ⟨b,rfl,h⟩:=h;rw [R.get_ok] at h;refine ⟨10,?_⟩;rw [← h];refine (zwn 10 m k b).trans ?_;unfold ypy yfs;cases hs:sOK m k b with
  | false=>rfl
  | true=>
   have hm:z2g m=true:=by unfold sOK at hs; simp only [v02] at hs; exact hs.1
   have hc:=(z2n hm).2.1;rw [v0e,z01];cases h2:decide (m.c < 2) with
   | true=>rw [v05 (show ¬ m.c≥2 by have:=v0c h2; omega)]; rfl
   | false=>
    rw [v01 (show m.c≥2 by have:=v0r h2; omega),z01]
    exact yel 10 m b k (by omega) (sLo m k b) (yu6 k b).1 m.c.toNat 0 10 0 false (by omega) (by omega)
 ·simp [R.get] at h
theorem zsf:z32 PR B0 165 z9f:=by
 refine z0h [(162,z88),(198,zae),(199,z9m),(197,z3h)] [] z9f [[.int .i64],[.int .i64],[.bool]] Tryz.func165 zwp ⟨zi8,zuk,zso,zan,trivial⟩ ?_;intro vs r hwf h;unfold z9f at h
 split at h
 ·rename_i m q b
  replace h:=z3q h;obtain ⟨m,rfl,h⟩:=h;replace h:=z3z h;obtain ⟨q,rfl,h⟩:=h;replace h:=z3i h;obtain ⟨b,rfl,h⟩:=h;rw [R.get_ok] at h;refine ⟨0,?_⟩;rw [← h];refine (zu4 0 m q b).trans ?_;have h1:=yu6 (m:=m) q.c (zb8 q b);have h2:=yu6 (m:=m) q.c (z7f q b);rw [z0s (n:=sLo m q.c (z7f q b) - sHi m q.c (zb8 q b)) (by omega) (by omega),z0s (n:=sHi m q.c (z7f q b) - sLo m q.c (zb8 q b)) (by omega) (by omega)]
  unfold yn2 yn1 y97;cases z5s q <;> cases sOK m q.c (zb8 q b) <;> cases sOK m q.c (z7f q b) <;> rfl
 ·simp [R.get] at h
theorem zvr:z32 PR B0 122 zbn:=by
 refine z0h [(163,zad),(162,z88),(112,z2u),(165,z9f),(164,z8a),(65,z2k)] [] zbn [[.bool]] Tryz.func122 y3f ⟨zv3,zi8,z7z,zsf,zou,z7g,trivial⟩ ?_;intro vs r hwf h;unfold zbn at h
 split at h
 ·rename_i m q b
  replace h:=z3q h;obtain ⟨m,rfl,h⟩:=h;replace h:=z3z h;obtain ⟨q,rfl,h⟩:=h;replace h:=z3i h;obtain ⟨b,rfl,h⟩:=h;rw [R.get_ok] at h;refine ⟨0,?_⟩;rw [← h];refine (y0r 0 m q b).trans ?_;unfold z2r;cases z2b m q <;> cases b.emp <;> cases (q.k==1) <;> cases (q.k==2) <;> cases sOK m q.c b <;> cases decide (q.lo≤sLo m q.c b) <;> cases yfs m q.c b <;> cases zg2 q b <;> cases q.fl <;> cases y97 m q b <;> rfl
 ·simp [R.get] at h
theorem zy5:z32 PR B0 123 zbt:=by
 refine z0h [(81,zkt)] [] zbt [[.int .i64,.int .i64,.int .i64,.int .i64],[.int .i64]] Tryz.func123 y6b ⟨yd5,trivial⟩ ?_;intro vs r hwf h;unfold zbt at h
 split at h
 ·rename_i b
  replace h:=z3i h;obtain ⟨b,rfl,h⟩:=h;rw [R.get_ok] at h;exact ⟨0,(y0y 0 b).trans h⟩
 ·simp [R.get] at h
theorem zu8:z32 PR B0 166 za8:=by
 refine z0h [] [] za8 [[.int .i64]] Tryz.func166 y05 trivial ?_;intro vs r hwf h;unfold za8 at h
 split at h
 ·rename_i q i
  replace h:=z3z h;obtain ⟨q,rfl,h⟩:=h;rw [R.get_ok] at h;refine ⟨0,?_⟩;rw [← h];refine (zyv 0 q i).trans ?_;unfold zew;cases decide (i≥0) <;> cases decide (i < 4) <;> cases (i==4) <;> cases (q.k==3) <;> rfl
 ·simp [R.get] at h
def yqc (m:Md) (f:Int) (s:Sp):Res:=
 cond (decide (f < 0)) (some (.list false [.int .i64] [],[]))
  (cond (z2g m)
   (cond (Nat.beq (iZ (y08 m.ts f)).length (iZ (y08 m.ts f)).length)
    (cond (Nat.ble (iZ (zkr s.lo s.hi ((iZ (y08 m.ts f)).map IV.toInt))).length (iZ (y08 m.ts f)).length)
     (some (.list false [.int .i64] (List.drop 0 (List.take (iZ (zkr s.lo s.hi ((iZ (y08 m.ts f)).map IV.toInt))).length (iZ (zkr s.lo s.hi ((iZ (y08 m.ts f)).map IV.toInt))))),[])) none) none) none)
theorem yos {m:Md} (hm:z2g m=true) (f:Int) (s:Sp):yqc m f s=some (.list false [.int .i64] (iZ (cond (decide (f < 0)) [] (zkr s.lo s.hi (y08 m.ts f)))),[]):=by
 unfold yqc;cases decide (f < 0) with
 | true=>rfl
 | false=>
  rw [z01,hm,z00,v3j,z00,y5m,z01];have hle:(iZ (zkr s.lo s.hi (y08 m.ts f))).length≤(iZ (y08 m.ts f)).length:=by
   rw [zkf,zkf];exact v3y ..
  rw [v1o hle,z00,v0z,v0q]
theorem y6h (m:Md) (q:Qy) (b:Bx):∀ i:Nat,i < 5→z0z (zxy 0) znc [.tmp 8] [[.list false [.int .i64]]] [m.V,q.V,b.V,.int .i64 (i:Int)]=yqc m (zew q (i:Int)) (b.g i)
 | 0,_=>by kernel_rfl
 | 1,_=>by kernel_rfl
 | 2,_=>by kernel_rfl
 | 3,_=>by kernel_rfl
 | 4,_=>by kernel_rfl
 | i+5,h=>absurd h (by omega)
abbrev yv6:KP:=⟨[1,4,5,16,17,18],[500],[⟨(.tmp 5),500,3,false,[(.int .i64)]⟩]⟩
abbrev yv7:KP:=⟨[1,4,5,16,17,18,23,24,25],[500],[⟨(.tmp 5),500,3,false,[(.int .i64)]⟩]⟩
abbrev yok (f:Int) (ts:List IV) (i:Int) (W:List IV) (j:Int) (O:List IV):St:=
 ⟨[(1,(.int .i64 f)),(4,.zs),(5,(.row 500 0 O.length)),(16,(.list true zns ts)),(17,(.int .i64 (ic ts.length))),(18,(.int .i64 i)),(23,(.list false [(.int .u64)] W)),(24,(.int .i64 (ic W.length))),(25,(.int .i64 j))],[(500,(some (.row true 3 false [(.int .i64)] O)))]⟩
theorem zqb (N:Nat) (f:Int) (ts:List IV) (i:Int) (W:List IV) (hW:W.length≤31) (K:Out→St→Res):∀ (m j n:Nat) (O:List IV),j+m=W.length→m < n→O.length+m≤1000 →
  lpE (z1c N) (z0f z1i [1,1,1,0,1,0,0,1,1,0,0,1,1,0,0]) yv7 n (yok f ts i W (j:Int) O) K=K (.exit 2) (yok f ts i W (ic W.length) (O++iZ ((W.drop j).flatMap (zvq f))))
 | m,j,0,_,_,h,_=>absurd h (by omega)
 | 0,j,n+1,O,hd,_,_=>by
  have hj:j=W.length:=by omega
  subst hj;rw [z06,zdr,zdj (v0a _),z01,v2e];show K (.exit 2) _=K (.exit 2) (yok f ts i W (ic W.length) (O++[]));rw [v2a]
 | m+1,j,n+1,O,hd,hn,hO=>by
  have hj:j < W.length:=by omega
  have ej:IntKind.wrap IntKind.i64 ((j:Int)+1)=((j+1:Nat):Int):=z7r (by omega)
  rw [z06,zdr,ej,zbm hj,z00,zjl,v0w,z00,zda hj,v0m hj,v2p];unfold zvq;cases (z07 (W[j]).toInt).lf with
  | true=>
   rw [v0e,z01,v0u,z01,v29];exact zqb N f ts i W hW K m (j+1) n O (by omega) (by omega) (by omega)
  | false=>
   rw [v0j,z00,v0k];cases ((z07 (W[j]).toInt).f==f) with
   | false=>
    rw [z01,z01,v29];exact zqb N f ts i W hW K m (j+1) n O (by omega) (by omega) (by omega)
   | true=>
    rw [z00,z00,v01 (show (O.length+1)*8≤z08 by unfold z08; omega),z00,v0q]
    have ih:=zqb N f ts i W hW K m (j+1) n (O++[IV.int (z07 (W[j]).toInt).a]) (by omega) (by omega) (by rw [v08,v1j]; omega)
    rw [v2w] at ih;unfold yok at ih ⊢
    rw [v08,v1j] at ih;exact ih
abbrev yq5 (f:Int) (ts:List IV) (i:Int) (O:List IV):St:=
 ⟨[(1,(.int .i64 f)),(4,.zs),(5,(.row 500 0 O.length)),(16,(.list true zns ts)),(17,(.int .i64 (ic ts.length))),(18,(.int .i64 i))],[(500,(some (.row true 3 false [(.int .i64)] O)))]⟩
theorem y43 (f:Int):∀ W:List IV,(W.flatMap (zvq f)).length≤W.length
 | []=>v0a _
 | w :: r=>by
  rw [v2p,v08,v03]
  have:=y43 f r
  unfold zvq at this ⊢
  cases (!(z07 w.toInt).lf&&(z07 w.toInt).f==f) <;> simp only [v1e,v18,v0i,v1j] <;> omega
theorem ztp {d c:Int} {t:IV} (h:z9v d c t=true):(0≤ypa t∧ypa t < c)∧zav (zcm t) d=true:=by
 unfold z9v at h;simp only [v02,v12,v15] at h;exact ⟨⟨by show 0≤(t.cell 0).toInt; omega,by show (t.cell 0).toInt < c; omega⟩,h.2.2⟩
theorem yf9 {d c:Int} {ts:List IV} (h:ts.all (z9v d c)=true) {t:IV} (ht:t∈ts):(zcm t).length≤31:=by
 have:=(ztp (v35.1 h t ht)).2
 exact (zi5 this).1.2
theorem y9l (N:Nat) (hN:40≤N) (f:Int) (ts:List IV) (hts:ts.length≤8) (hW:∀ t∈ts,(zcm t).length≤31) (K:Out→St→Res):∀ (m i n:Nat) (O:List IV),i+m=ts.length→m < n→O.length≤31*i →
  lpE (z1c N) (z0f z1i [1,1,1,0,1,0,0]) yv6 n (yq5 f ts (i:Int) O) K=K (.exit 0) (yq5 f ts (ic ts.length) (O++iZ (z8d (ts.drop i) f)))
 | m,i,0,_,_,h,_=>absurd h (by omega)
 | 0,i,n+1,O,hd,_,_=>by
  have hi:i=ts.length:=by omega
  subst hi;rw [z06,zdk,zdj (v0a _),z01,v2e];show K (.exit 0) _=K (.exit 0) (yq5 f ts (ic ts.length) (O++[]));rw [v2a]
 | m+1,i,n+1,O,hd,hn,hO=>by
  have hi:i < ts.length:=by omega
  have ei:IntKind.wrap IntKind.i64 ((i:Int)+1)=((i+1:Nat):Int):=z7r (by omega)
  have hw:=hW ts[i] (v1x hi);have hl:=y43 f (zcm ts[i]);rw [z06,zdk,zbm hi,z00,zjl,v0w,z00,zda hi,v0m hi];refine (zqb N f ts (i:Int) (zcm ts[i]) hw _ (zcm ts[i]).length 0 N O (by omega) (by omega) (by omega)).trans ?_
  rw [zip,ei,v0z];have ih:=y9l N hN f ts hts hW K m (i+1) n (O++iZ ((zcm ts[i]).flatMap (zvq f))) (by omega) (by omega) (by rw [v08,zkf]; omega)
  have e:z8d (ts[i] :: ts.drop (i+1)) f=(zcm ts[i]).flatMap (zvq f)++z8d (ts.drop (i+1)) f:=by unfold z8d; rw [v2p]
  rw [e];have e2:iZ ((zcm ts[i]).flatMap (zvq f)++z8d (ts.drop (i+1)) f)=iZ ((zcm ts[i]).flatMap (zvq f))++iZ (z8d (ts.drop (i+1)) f):=by unfold iZ; rw [v3x]
  rw [e2,← v2w];exact ih
theorem zme:z32 PR B0 168 z6s:=by
 refine ym2 [(53,z2j),(55,z2i)] [(202,zq1),(201,yex)] [(5,yv6),(8,yv7)] z6s [] Tryz.func168 zq7 ⟨z7e,z7c,trivial⟩ ⟨y44,yin,trivial⟩ ?_;intro vs r hwf h;unfold z6s at h
 split at h
 ·rename_i m f
  replace h:=z3q h;obtain ⟨m,rfl,h⟩:=h;cases hm:z2g m with
  | false=>rw [hm] at h; simp [R.get] at h
  | true=>
   rw [hm,R.get_br,z00,R.get_ok] at h;refine ⟨40,?_⟩;rw [← h];refine (znx 40 m f).trans ?_;have hmp:=z2n hm;rw [hm,v0e,z01];refine (y9l 40 (by omega) f m.ts hmp.2.2.1 (fun t ht=>yf9 hmp.2.2.2.2 ht) _ m.ts.length 0 40 [] (by omega) (by have:=hmp.2.2.1; omega) (v0x _)).trans ?_
   rw [v0z,v29,zhv,v3j,z00,y5m];have e1:(iZ (zjq (z8d m.ts f))).length=(iZ (z8d m.ts f)).length:=by rw [zkf,zkf]; exact (z9q _).length_eq
   have e2:(iZ (y68 (zjq (z8d m.ts f)))).length≤(iZ (z8d m.ts f)).length:=by rw [← e1,zkf,zkf]; exact zv4 _
   rw [e1,v3j,z00,z00,y5m,v1o e2,z00,v0q]
   rfl
 ·simp [R.get] at h
theorem y6d:z32 PR B0 126 zfe:=by
 refine ym2 [(166,za8),(168,z6s)] [(167,zv5)] [] zfe [[.list false [.int .i64]]] Tryz.func126 ye5 ⟨zu8,zme,trivial⟩ ⟨yb7,trivial⟩ ?_;intro vs r hwf h;unfold zfe at h
 split at h
 ·rename_i m q b i
  replace h:=z3q h;obtain ⟨m,rfl,h⟩:=h;replace h:=z3z h;obtain ⟨q,rfl,h⟩:=h;replace h:=z3i h;obtain ⟨b,rfl,h⟩:=h;cases hg:(z2g m&&zse i) with
  | false=>rw [hg] at h; simp [R.get] at h
  | true=>
  rw [hg,R.get_br,z00,R.get_ok] at h;rw [v02] at hg;refine ⟨0,?_⟩;rw [← h];have key:∀ k:Nat,k < 5→z0z (zxy 0) znc [.tmp 8] [[.list false [.int .i64]]] [m.V,q.V,b.V,.int .i64 (k:Int)]=some (.list false [.int .i64] (iZ (z4g m q b k)),[]):=fun k hk=>by
   rw [y6h m q b k hk,yos hg.1]
   rfl
  rcases y1y hg.2 with rfl | rfl | rfl | rfl | rfl
  ·exact key 0 (by omega)
  ·exact key 1 (by omega)
  ·exact key 2 (by omega)
  ·exact key 3 (by omega)
  ·exact key 4 (by omega)
 ·simp [R.get] at h
abbrev yvp (m:Md) (q:Qy) (b:Bx) (i:Int):St:=⟨[(3,(.ptr 3 0 0)),(4,(.ptr 4 0 0)),(5,(.ptr 5 0 0)),(6,(.int .i64 0)),(7,(.int .i64 0)),(8,(.bool false)),(11,(.int .i64 i))],[(3,(some (.box (Md.cs m)))),(4,(some (.box (Qy.cs q)))),(5,(some (.box (Bx.cs b))))]⟩
theorem yp8 {m:Md} (hm:z2g m=true) (q:Qy) (b:Bx) (i:Nat):(z4g m q b i).length≤248:=by
 have key:∀ (ts:List IV) (f:Int),(∀ t∈ts,(zcm t).length≤31)→(z8d ts f).length≤31*ts.length:=by
  intro ts f
  induction ts with
  | nil=>intro _; exact v0a _
  | cons t r ih=>
   intro ht;have h1:=ih fun u hu=>ht u (v0b _ hu)
   have h2:=y43 f (zcm t);have h3:=ht t (v09 ..);unfold z8d at h1 ⊢
   rw [v2p,v08,v03];omega
 have hmp:=z2n hm;have h1:=key m.ts (zew q (i:Int)) fun t ht=>yf9 hmp.2.2.2.2 ht
 unfold z4g;cases decide (zew q (i:Int) < 0) with
 | true=>exact v0x _
 | false=>
  rw [z01];have h2:(zkr (b.g i).lo (b.g i).hi (y08 m.ts (zew q (i:Int)))).length≤(y08 m.ts (zew q (i:Int))).length:=v3y ..
  have h3:(y08 m.ts (zew q (i:Int))).length≤(z8d m.ts (zew q (i:Int))).length:=by
   unfold y08;exact v1n (zv4 _) (Nat.le_of_eq (z9q _).length_eq)
  have:=hmp.2.2.1
  omega
theorem y7c (N:Nat) (m:Md) (hm:z2g m=true) (q:Qy) (b:Bx):∀ (d i n:Nat),i+d=5→d < n →
  lpE (z4b N) (z0f z6i [1,0,1,0,0]) ⟨[3,4,5,6,7,8,11],[3,4,5],[]⟩ n (yvp m q b (i:Int)) (z05 0 (kSq (z4b N) (z0f z6i [1,1]) (z2s (z4b N) none [(ResultVar.tmp 6),(ResultVar.tmp 7),(ResultVar.tmp 8)] [[(.int .i64)],[(.int .i64)],[.bool]]))) =
   some (.tup [.int .i64 (spI (spR m q b d i)),.int .i64 (zxz (spR m q b d i)),.bool (spR m q b d i).isSome],[])
 | d,i,0,_,h=>absurd h (by omega)
 | 0,i,n+1,hd,_=>by
  have hi:i=5:=by omega
  subst hi;rw [z06,zl5,v05 (show ¬ ((5:Nat):Int) < 5 by omega),z01]
  exact zqw N m q b _ _ _ _
 | d+1,i,n+1,hd,hn=>by
  have hp:zse (i:Int)=true:=by unfold zse; rw [v01 (show (0:Int)≤(i:Int) by omega),v01 (show (i:Int) < 5 by omega)]; rfl
  have ei:IntKind.wrap IntKind.i64 ((i:Int)+1)=((i+1:Nat):Int):=z7r (by omega)
  have hc:=yp8 hm q b i;rw [z06,zl5,ei,v01 (show (i:Int) < 5 by omega),z00,hm,hp,v0w,z00,v0g,spR,zkf]
  generalize z4g m q b i=cs at hc ⊢
  have ed:decide (ic cs.length > 0)=decide (cs.length > 0):=by rw [v2s]; simp
  rw [ed];cases hpos:decide (cs.length > 0) with
  | true=>
   have hpos:=v0c hpos;have ew:IntKind.wrap IntKind.i64 (Int.tdiv (IntKind.wrap IntKind.i64 (ic cs.length - 1)) 2)=(((cs.length - 1) / 2:Nat):Int):=by
    have e1:IntKind.wrap IntKind.i64 (ic cs.length - 1)=((cs.length - 1:Nat):Int):=by rw [z0s (by simp only [ic]; omega) (by simp only [ic]; omega)]; simp only [ic]; omega
    have e2:Int.tdiv ((cs.length - 1:Nat):Int) 2=(((cs.length - 1) / 2:Nat):Int):=by
     rw [Int.tdiv_eq_ediv_of_nonneg (by omega)]
     omega
    rw [e1,e2,z0s (by omega) (by omega)]
   have hlt:(cs.length - 1) / 2 < cs.length:=by omega
   rw [z00,ew,zjl,v01 (show (((cs.length - 1) / 2:Nat):Int) < ic cs.length by simp only [ic]; omega),v0w,z00,z00,v0g]
   have eg:IV.toInt (List.getD (iZ cs) ((cs.length - 1) / 2) default)=cs.getD ((cs.length - 1) / 2) 0:=by
    unfold iZ;rw [v0n,v0n,v11,v0h hlt]
    rfl
   rw [eg];exact zrh N m q b _ _ _ _
  | false=>
   rw [z01,z01];exact y7c N m hm q b d (i+1) n (by omega) (by omega)
theorem y0u:z32 PR B0 124 zdc:=by
 refine z0h [(126,zfe)] [(2,⟨[3,4,5,6,7,8,11],[3,4,5],[]⟩)] zdc [[.int .i64],[.int .i64],[.bool]] Tryz.func124 y7t ⟨y6d,trivial⟩ ?_;intro vs r hwf h;unfold zdc at h
 split at h
 ·rename_i m q b
  replace h:=z3q h;obtain ⟨m,rfl,h⟩:=h;replace h:=z3z h;obtain ⟨q,rfl,h⟩:=h;replace h:=z3i h;obtain ⟨b,rfl,h⟩:=h;cases hg:(z2g m) with
  | false=>rw [hg] at h; simp [R.get] at h
  | true=>
  rw [hg,R.get_br,z00,R.get_ok] at h;refine ⟨10,?_⟩;rw [← h];exact (y3y 10 m q b).trans (y7c 10 m hg q b 5 0 10 rfl (by omega))
 ·simp [R.get] at h
open Go Go.Proofs
def y9c (N:Nat):Env:=mkE [(65,z2k),(66,z89)] [] 26 N
theorem y4i (N:Nat) (m:Md) (q:Qy):z0z (y9c N) ztj [.tmp 4] [[.list false []]] [(Md.V m),(Qy.V q)]=(cond (!z2b m q) (some ((.bor (zgv m q [.zs,.zs,(.i 4),.zs,(.i 0),(.i 0),(.i 0),(.i 0),(.i 0),(.i 0),(.i 0)])),[])) (some ((.bor (zgv m q [(.vec 36 true zch [(Bx.I (z4f q))]),.zs,(.i 0),.zs,(.i 0),(.i 0),(.i 0),(.i 0),(.i 0),(.i 0),(.i 0)])),[]))):=by kernel_rfl
def z5h (N:Nat):Env:=mkE [(125,z3k)] [] 22 N
theorem zg7 (N:Nat) (m:Md) (q:Qy) (left u00:List IV) (k w0 w1 w2 w3 tw vs sp:Int):z0z (z5h N) z45 [.cell 2 55] [[.int .i64,.list true [.bool,.int .i64,.int .i64],.int .i64,.int .i64,.int .i64,.int .i64,.int .i64,.int .i64]] [(.bor (zgv m q [.vec 36 true zch left,.vec 127 true z1k u00,.int .i64 k,.zs,.int .i64 w0,.int .i64 w1,.int .i64 w2,.int .i64 w3,.int .i64 tw,.int .i64 vs,.int .i64 sp]))]=(cond (k==0) (some ((.agg [(.i 3),(.list true z1k []),(.i w0),(.i w1),(.i w2),(.i w3),(.i tw),(.i sp)]),[(zgv m q [(.vec 36 true zch (List.take (List.length left) left)),(.vec 127 true z1k (List.take (List.length u00) u00)),(.i k),.zs,(.i w0),(.i w1),(.i w2),(.i w3),(.i tw),(.i vs),(.i sp)])])) (some ((.agg [(.i k),(.list true z1k []),(.i w0),(.i w1),(.i w2),(.i w3),(.i tw),(.i sp)]),[(zgv m q [(.vec 36 true zch (List.take (List.length left) left)),(.vec 127 true z1k (List.take (List.length u00) u00)),(.i k),.zs,(.i w0),(.i w1),(.i w2),(.i w3),(.i tw),(.i vs),(.i sp)])]))):=by kernel_rfl
theorem zg4 (N:Nat) (m:Md) (q:Qy) (left:List IV) (k w0 w1 w2 w3 tw vs sp:Int):z0z (z5h N) z45 [.cell 2 55] [[.int .i64,.list true [.bool,.int .i64,.int .i64],.int .i64,.int .i64,.int .i64,.int .i64,.int .i64,.int .i64]] [(.bor (zgv m q [.vec 36 true zch left,.zs,.int .i64 k,.zs,.int .i64 w0,.int .i64 w1,.int .i64 w2,.int .i64 w3,.int .i64 tw,.int .i64 vs,.int .i64 sp]))]=(cond (k==0) (some ((.agg [(.i 3),(.list true z1k []),(.i w0),(.i w1),(.i w2),(.i w3),(.i tw),(.i sp)]),[(zgv m q [(.vec 36 true zch (List.take (List.length left) left)),.zs,(.i k),.zs,(.i w0),(.i w1),(.i w2),(.i w3),(.i tw),(.i vs),(.i sp)])])) (some ((.agg [(.i k),(.list true z1k []),(.i w0),(.i w1),(.i w2),(.i w3),(.i tw),(.i sp)]),[(zgv m q [(.vec 36 true zch (List.take (List.length left) left)),.zs,(.i k),.zs,(.i w0),(.i w1),(.i w2),(.i w3),(.i tw),(.i vs),(.i sp)])]))):=by kernel_rfl
theorem zga (N:Nat) (m:Md) (q:Qy) (left u00 vp:List IV) (k w0 w1 w2 w3 tw vs sp:Int):z0z (z5h N) z45 [.cell 2 55] [[.int .i64,.list true [.bool,.int .i64,.int .i64],.int .i64,.int .i64,.int .i64,.int .i64,.int .i64,.int .i64]] [(.bor (zgv m q [.vec 36 true zch left,.list true z1k u00,.int .i64 k,.list true z1k vp,.int .i64 w0,.int .i64 w1,.int .i64 w2,.int .i64 w3,.int .i64 tw,.int .i64 vs,.int .i64 sp]))]=(cond (k==0) (cond (Nat.ble (List.length vp) 100000) (some ((.agg [(.i 3),(.list true z1k (List.drop 0 (List.take (List.length vp) vp))),(.i w0),(.i w1),(.i w2),(.i w3),(.i tw),(.i sp)]),[(zgv m q [(.vec 36 true zch (List.take (List.length left) left)),(.list true z1k u00),(.i k),(.list true z1k vp),(.i w0),(.i w1),(.i w2),(.i w3),(.i tw),(.i vs),(.i sp)])])) none) (cond (Nat.ble (List.length vp) 100000) (some ((.agg [(.i k),(.list true z1k (List.drop 0 (List.take (List.length vp) vp))),(.i w0),(.i w1),(.i w2),(.i w3),(.i tw),(.i sp)]),[(zgv m q [(.vec 36 true zch (List.take (List.length left) left)),(.list true z1k u00),(.i k),(.list true z1k vp),(.i w0),(.i w1),(.i w2),(.i w3),(.i tw),(.i vs),(.i sp)])])) none)):=by kernel_rfl
theorem zg5 (N:Nat) (m:Md) (q:Qy) (k w0 w1 w2 w3 tw vs sp:Int):z0z (z5h N) z45 [.cell 2 55] [[.int .i64,.list true [.bool,.int .i64,.int .i64],.int .i64,.int .i64,.int .i64,.int .i64,.int .i64,.int .i64]] [(.bor (zgv m q [.zs,.zs,.int .i64 k,.zs,.int .i64 w0,.int .i64 w1,.int .i64 w2,.int .i64 w3,.int .i64 tw,.int .i64 vs,.int .i64 sp]))]=(cond (k==0) (some ((.agg [(.i 3),(.list true z1k []),(.i w0),(.i w1),(.i w2),(.i w3),(.i tw),(.i sp)]),[(zgv m q [.zs,.zs,(.i k),.zs,(.i w0),(.i w1),(.i w2),(.i w3),(.i tw),(.i vs),(.i sp)])])) (some ((.agg [(.i k),(.list true z1k []),(.i w0),(.i w1),(.i w2),(.i w3),(.i tw),(.i sp)]),[(zgv m q [.zs,.zs,(.i k),.zs,(.i w0),(.i w1),(.i w2),(.i w3),(.i tw),(.i vs),(.i sp)])]))):=by kernel_rfl
def z7a (N:Nat):Env:=mkE [(111,z92),(122,zbn),(123,zbt),(124,zdc),(70,z71)] [] 165 N
theorem zca (N:Nat) (m:Md) (q:Qy) (left u00:List IV) (k w0 w1 w2 w3 tw vs sp:Int):z0z (z7a N) z5c [.tmp 2] [[.bool]] [(.bor (zgv m q [.vec 36 true zch left,.vec 127 true z1k u00,.int .i64 k,.zs,.int .i64 w0,.int .i64 w1,.int .i64 w2,.int .i64 w3,.int .i64 tw,.int .i64 vs,.int .i64 sp]))]=(cond (k != 0) (some ((.bool false),[(zgv m q [(.vec 36 true zch (List.take (List.length left) left)),(.vec 127 true z1k (List.take (List.length u00) u00)),(.i k),.zs,(.i w0),(.i w1),(.i w2),(.i w3),(.i tw),(.i vs),(.i sp)])])) (cond (decide (sp≥Qy.bu q)) (some ((.bool false),[(zgv m q [(.vec 36 true zch (List.take (List.length left) left)),(.vec 127 true z1k (List.take (List.length u00) u00)),(.i k),.zs,(.i w0),(.i w1),(.i w2),(.i w3),(.i tw),(.i vs),(.i sp)])])) (cond (decide (0≤IntKind.wrap IntKind.i64 (ic (List.length left - 0) - 1))&&decide (IntKind.wrap IntKind.i64 (ic (List.length left - 0) - 1) < ic (List.length left - 0))) (cond (decide (0≤IntKind.wrap IntKind.i64 (ic (List.length left - 0) - 1))&&decide (IntKind.wrap IntKind.i64 (ic (List.length left - 0) - 1)≤ic (List.length left - 0))) (cond (z2r m q (bxI (List.getD left (0+Int.toNat (IntKind.wrap IntKind.i64 (ic (List.length left - 0) - 1))) default))) (cond (decide ((List.length u00+1)*24≤z08)) (cond (ic (0+Int.toNat (IntKind.wrap IntKind.i64 (ic (List.length left - 0) - 1)) - 0)==0) (some ((.bool true),[(zgv m q [(.vec 36 true zch (List.take (0+Int.toNat (IntKind.wrap IntKind.i64 (ic (List.length left - 0) - 1))) left)),(.list true z1k (List.drop 0 (List.take (List.length u00+1) (List.take (List.length u00) u00++[IV.agg [IV.bool true,IV.int 0,IV.int 0]])))),(.i 1),(.list true z1k (List.drop 0 (List.take (List.length u00+1) (List.take (List.length u00) u00++[IV.agg [IV.bool true,IV.int 0,IV.int 0]])))),(.i 0),(.i 0),(.i 0),(.i 0),(.i 0),(.i 0),(.i (IntKind.wrap IntKind.i64 (sp+1)))])])) (some ((.bool true),[(zgv m q [(.vec 36 true zch (List.take (0+Int.toNat (IntKind.wrap IntKind.i64 (ic (List.length left - 0) - 1))) left)),(.vec 127 true z1k (List.take (List.length u00+1) (List.take (List.length u00) u00++[IV.agg [IV.bool true,IV.int 0,IV.int 0]]))),(.i k),.zs,(.i w0),(.i w1),(.i w2),(.i w3),(.i tw),(.i vs),(.i (IntKind.wrap IntKind.i64 (sp+1)))])]))) none) (cond (z3u m q (Bx.low (bxI (List.getD left (0+Int.toNat (IntKind.wrap IntKind.i64 (ic (List.length left - 0) - 1))) default))) (Sp.hi (Bx.s4 (bxI (List.getD left (0+Int.toNat (IntKind.wrap IntKind.i64 (ic (List.length left - 0) - 1))) default))))) (some ((.bool true),[(zgv m q [(.vec 36 true zch (List.take (0+Int.toNat (IntKind.wrap IntKind.i64 (ic (List.length left - 0) - 1))) left)),(.vec 127 true z1k (List.take (List.length u00) u00)),(.i 2),.zs,(.i (Pt.p0 (Bx.low (bxI (List.getD left (0+Int.toNat (IntKind.wrap IntKind.i64 (ic (List.length left - 0) - 1))) default))))),(.i (Pt.p1 (Bx.low (bxI (List.getD left (0+Int.toNat (IntKind.wrap IntKind.i64 (ic (List.length left - 0) - 1))) default))))),(.i (Pt.p2 (Bx.low (bxI (List.getD left (0+Int.toNat (IntKind.wrap IntKind.i64 (ic (List.length left - 0) - 1))) default))))),(.i (Pt.p3 (Bx.low (bxI (List.getD left (0+Int.toNat (IntKind.wrap IntKind.i64 (ic (List.length left - 0) - 1))) default))))),(.i (Sp.hi (Bx.s4 (bxI (List.getD left (0+Int.toNat (IntKind.wrap IntKind.i64 (ic (List.length left - 0) - 1))) default))))),(.i 0),(.i (IntKind.wrap IntKind.i64 (sp+1)))])])) (cond (z2g m) (cond (!Option.isSome (z1p m q (bxI (List.getD left (0+Int.toNat (IntKind.wrap IntKind.i64 (ic (List.length left - 0) - 1))) default)))) (some ((.bool true),[(zgv m q [(.vec 36 true zch (List.take (0+Int.toNat (IntKind.wrap IntKind.i64 (ic (List.length left - 0) - 1))) left)),(.vec 127 true z1k (List.take (List.length u00) u00)),(.i 3),.zs,(.i 0),(.i 0),(.i 0),(.i 0),(.i 0),(.i 0),(.i (IntKind.wrap IntKind.i64 (sp+1)))])])) (cond (zse (spI (z1p m q (bxI (List.getD left (0+Int.toNat (IntKind.wrap IntKind.i64 (ic (List.length left - 0) - 1))) default))))) (cond (decide ((0+Int.toNat (IntKind.wrap IntKind.i64 (ic (List.length left - 0) - 1))+2)*80≤z08)) (cond (decide ((List.length u00+1)*24≤z08)) (some ((.bool true),[(zgv m q [(.vec 36 true zch (List.take (0+Int.toNat (IntKind.wrap IntKind.i64 (ic (List.length left - 0) - 1))+2) (List.take (0+Int.toNat (IntKind.wrap IntKind.i64 (ic (List.length left - 0) - 1))) left++[(Bx.I (Bx.cutH (bxI (List.getD left (0+Int.toNat (IntKind.wrap IntKind.i64 (ic (List.length left - 0) - 1))) default)) (spI (z1p m q (bxI (List.getD left (0+Int.toNat (IntKind.wrap IntKind.i64 (ic (List.length left - 0) - 1))) default)))) (zxz (z1p m q (bxI (List.getD left (0+Int.toNat (IntKind.wrap IntKind.i64 (ic (List.length left - 0) - 1))) default)))))),(Bx.I (Bx.cutL (bxI (List.getD left (0+Int.toNat (IntKind.wrap IntKind.i64 (ic (List.length left - 0) - 1))) default)) (spI (z1p m q (bxI (List.getD left (0+Int.toNat (IntKind.wrap IntKind.i64 (ic (List.length left - 0) - 1))) default)))) (zxz (z1p m q (bxI (List.getD left (0+Int.toNat (IntKind.wrap IntKind.i64 (ic (List.length left - 0) - 1))) default))))))]))),(.vec 127 true z1k (List.take (List.length u00+1) (List.take (List.length u00) u00++[IV.agg [IV.bool false,IV.int (spI (z1p m q (bxI (List.getD left (0+Int.toNat (IntKind.wrap IntKind.i64 (ic (List.length left - 0) - 1))) default)))),IV.int (zxz (z1p m q (bxI (List.getD left (0+Int.toNat (IntKind.wrap IntKind.i64 (ic (List.length left - 0) - 1))) default))))]]))),(.i k),.zs,(.i w0),(.i w1),(.i w2),(.i w3),(.i tw),(.i vs),(.i (IntKind.wrap IntKind.i64 (sp+1)))])])) none) none) none)) none))) none) none))):=by kernel_rfl
theorem zbu (N:Nat) (m:Md) (q:Qy) (left:List IV) (k w0 w1 w2 w3 tw vs sp:Int):z0z (z7a N) z5c [.tmp 2] [[.bool]] [(.bor (zgv m q [.vec 36 true zch left,.zs,.int .i64 k,.zs,.int .i64 w0,.int .i64 w1,.int .i64 w2,.int .i64 w3,.int .i64 tw,.int .i64 vs,.int .i64 sp]))]=(cond (k != 0) (some ((.bool false),[(zgv m q [(.vec 36 true zch (List.take (List.length left) left)),.zs,(.i k),.zs,(.i w0),(.i w1),(.i w2),(.i w3),(.i tw),(.i vs),(.i sp)])])) (cond (decide (sp≥Qy.bu q)) (some ((.bool false),[(zgv m q [(.vec 36 true zch (List.take (List.length left) left)),.zs,(.i k),.zs,(.i w0),(.i w1),(.i w2),(.i w3),(.i tw),(.i vs),(.i sp)])])) (cond (decide (0≤IntKind.wrap IntKind.i64 (ic (List.length left - 0) - 1))&&decide (IntKind.wrap IntKind.i64 (ic (List.length left - 0) - 1) < ic (List.length left - 0))) (cond (decide (0≤IntKind.wrap IntKind.i64 (ic (List.length left - 0) - 1))&&decide (IntKind.wrap IntKind.i64 (ic (List.length left - 0) - 1)≤ic (List.length left - 0))) (cond (z2r m q (bxI (List.getD left (0+Int.toNat (IntKind.wrap IntKind.i64 (ic (List.length left - 0) - 1))) default))) (cond (ic (0+Int.toNat (IntKind.wrap IntKind.i64 (ic (List.length left - 0) - 1)) - 0)==0) (some ((.bool true),[(zgv m q [(.vec 36 true zch (List.take (0+Int.toNat (IntKind.wrap IntKind.i64 (ic (List.length left - 0) - 1))) left)),(.list true z1k [(IV.agg [IV.bool true,IV.int 0,IV.int 0])]),(.i 1),(.list true z1k [(IV.agg [IV.bool true,IV.int 0,IV.int 0])]),(.i 0),(.i 0),(.i 0),(.i 0),(.i 0),(.i 0),(.i (IntKind.wrap IntKind.i64 (sp+1)))])])) (some ((.bool true),[(zgv m q [(.vec 36 true zch (List.take (0+Int.toNat (IntKind.wrap IntKind.i64 (ic (List.length left - 0) - 1))) left)),(.vec 127 true z1k [(IV.agg [IV.bool true,IV.int 0,IV.int 0])]),(.i k),.zs,(.i w0),(.i w1),(.i w2),(.i w3),(.i tw),(.i vs),(.i (IntKind.wrap IntKind.i64 (sp+1)))])]))) (cond (z3u m q (Bx.low (bxI (List.getD left (0+Int.toNat (IntKind.wrap IntKind.i64 (ic (List.length left - 0) - 1))) default))) (Sp.hi (Bx.s4 (bxI (List.getD left (0+Int.toNat (IntKind.wrap IntKind.i64 (ic (List.length left - 0) - 1))) default))))) (some ((.bool true),[(zgv m q [(.vec 36 true zch (List.take (0+Int.toNat (IntKind.wrap IntKind.i64 (ic (List.length left - 0) - 1))) left)),.zs,(.i 2),.zs,(.i (Pt.p0 (Bx.low (bxI (List.getD left (0+Int.toNat (IntKind.wrap IntKind.i64 (ic (List.length left - 0) - 1))) default))))),(.i (Pt.p1 (Bx.low (bxI (List.getD left (0+Int.toNat (IntKind.wrap IntKind.i64 (ic (List.length left - 0) - 1))) default))))),(.i (Pt.p2 (Bx.low (bxI (List.getD left (0+Int.toNat (IntKind.wrap IntKind.i64 (ic (List.length left - 0) - 1))) default))))),(.i (Pt.p3 (Bx.low (bxI (List.getD left (0+Int.toNat (IntKind.wrap IntKind.i64 (ic (List.length left - 0) - 1))) default))))),(.i (Sp.hi (Bx.s4 (bxI (List.getD left (0+Int.toNat (IntKind.wrap IntKind.i64 (ic (List.length left - 0) - 1))) default))))),(.i 0),(.i (IntKind.wrap IntKind.i64 (sp+1)))])])) (cond (z2g m) (cond (!Option.isSome (z1p m q (bxI (List.getD left (0+Int.toNat (IntKind.wrap IntKind.i64 (ic (List.length left - 0) - 1))) default)))) (some ((.bool true),[(zgv m q [(.vec 36 true zch (List.take (0+Int.toNat (IntKind.wrap IntKind.i64 (ic (List.length left - 0) - 1))) left)),.zs,(.i 3),.zs,(.i 0),(.i 0),(.i 0),(.i 0),(.i 0),(.i 0),(.i (IntKind.wrap IntKind.i64 (sp+1)))])])) (cond (zse (spI (z1p m q (bxI (List.getD left (0+Int.toNat (IntKind.wrap IntKind.i64 (ic (List.length left - 0) - 1))) default))))) (cond (decide ((0+Int.toNat (IntKind.wrap IntKind.i64 (ic (List.length left - 0) - 1))+2)*80≤z08)) (some ((.bool true),[(zgv m q [(.vec 36 true zch (List.take (0+Int.toNat (IntKind.wrap IntKind.i64 (ic (List.length left - 0) - 1))+2) (List.take (0+Int.toNat (IntKind.wrap IntKind.i64 (ic (List.length left - 0) - 1))) left++[(Bx.I (Bx.cutH (bxI (List.getD left (0+Int.toNat (IntKind.wrap IntKind.i64 (ic (List.length left - 0) - 1))) default)) (spI (z1p m q (bxI (List.getD left (0+Int.toNat (IntKind.wrap IntKind.i64 (ic (List.length left - 0) - 1))) default)))) (zxz (z1p m q (bxI (List.getD left (0+Int.toNat (IntKind.wrap IntKind.i64 (ic (List.length left - 0) - 1))) default)))))),(Bx.I (Bx.cutL (bxI (List.getD left (0+Int.toNat (IntKind.wrap IntKind.i64 (ic (List.length left - 0) - 1))) default)) (spI (z1p m q (bxI (List.getD left (0+Int.toNat (IntKind.wrap IntKind.i64 (ic (List.length left - 0) - 1))) default)))) (zxz (z1p m q (bxI (List.getD left (0+Int.toNat (IntKind.wrap IntKind.i64 (ic (List.length left - 0) - 1))) default))))))]))),(.vec 127 true z1k [(IV.agg [IV.bool false,IV.int (spI (z1p m q (bxI (List.getD left (0+Int.toNat (IntKind.wrap IntKind.i64 (ic (List.length left - 0) - 1))) default)))),IV.int (zxz (z1p m q (bxI (List.getD left (0+Int.toNat (IntKind.wrap IntKind.i64 (ic (List.length left - 0) - 1))) default))))])]),(.i k),.zs,(.i w0),(.i w1),(.i w2),(.i w3),(.i tw),(.i vs),(.i (IntKind.wrap IntKind.i64 (sp+1)))])])) none) none)) none))) none) none))):=by kernel_rfl
theorem zi1 (N:Nat) (m:Md) (q:Qy) (left u00 vp:List IV) (k w0 w1 w2 w3 tw vs sp:Int):z0z (z7a N) z5c [.tmp 2] [[.bool]] [(.bor (zgv m q [.vec 36 true zch left,.list true z1k u00,.int .i64 k,.list true z1k vp,.int .i64 w0,.int .i64 w1,.int .i64 w2,.int .i64 w3,.int .i64 tw,.int .i64 vs,.int .i64 sp]))]=(cond (k != 0) (some ((.bool false),[(zgv m q [(.vec 36 true zch (List.take (List.length left) left)),(.list true z1k u00),(.i k),(.list true z1k vp),(.i w0),(.i w1),(.i w2),(.i w3),(.i tw),(.i vs),(.i sp)])])) (cond (decide (sp≥Qy.bu q)) (some ((.bool false),[(zgv m q [(.vec 36 true zch (List.take (List.length left) left)),(.list true z1k u00),(.i k),(.list true z1k vp),(.i w0),(.i w1),(.i w2),(.i w3),(.i tw),(.i vs),(.i sp)])])) (cond (decide (0≤IntKind.wrap IntKind.i64 (ic (List.length left - 0) - 1))&&decide (IntKind.wrap IntKind.i64 (ic (List.length left - 0) - 1) < ic (List.length left - 0))) (cond (decide (0≤IntKind.wrap IntKind.i64 (ic (List.length left - 0) - 1))&&decide (IntKind.wrap IntKind.i64 (ic (List.length left - 0) - 1)≤ic (List.length left - 0))) (cond (z2r m q (bxI (List.getD left (0+Int.toNat (IntKind.wrap IntKind.i64 (ic (List.length left - 0) - 1))) default))) none (cond (z3u m q (Bx.low (bxI (List.getD left (0+Int.toNat (IntKind.wrap IntKind.i64 (ic (List.length left - 0) - 1))) default))) (Sp.hi (Bx.s4 (bxI (List.getD left (0+Int.toNat (IntKind.wrap IntKind.i64 (ic (List.length left - 0) - 1))) default))))) (some ((.bool true),[(zgv m q [(.vec 36 true zch (List.take (0+Int.toNat (IntKind.wrap IntKind.i64 (ic (List.length left - 0) - 1))) left)),(.list true z1k u00),(.i 2),.zs,(.i (Pt.p0 (Bx.low (bxI (List.getD left (0+Int.toNat (IntKind.wrap IntKind.i64 (ic (List.length left - 0) - 1))) default))))),(.i (Pt.p1 (Bx.low (bxI (List.getD left (0+Int.toNat (IntKind.wrap IntKind.i64 (ic (List.length left - 0) - 1))) default))))),(.i (Pt.p2 (Bx.low (bxI (List.getD left (0+Int.toNat (IntKind.wrap IntKind.i64 (ic (List.length left - 0) - 1))) default))))),(.i (Pt.p3 (Bx.low (bxI (List.getD left (0+Int.toNat (IntKind.wrap IntKind.i64 (ic (List.length left - 0) - 1))) default))))),(.i (Sp.hi (Bx.s4 (bxI (List.getD left (0+Int.toNat (IntKind.wrap IntKind.i64 (ic (List.length left - 0) - 1))) default))))),(.i 0),(.i (IntKind.wrap IntKind.i64 (sp+1)))])])) (cond (z2g m) (cond (!Option.isSome (z1p m q (bxI (List.getD left (0+Int.toNat (IntKind.wrap IntKind.i64 (ic (List.length left - 0) - 1))) default)))) (some ((.bool true),[(zgv m q [(.vec 36 true zch (List.take (0+Int.toNat (IntKind.wrap IntKind.i64 (ic (List.length left - 0) - 1))) left)),(.list true z1k u00),(.i 3),.zs,(.i 0),(.i 0),(.i 0),(.i 0),(.i 0),(.i 0),(.i (IntKind.wrap IntKind.i64 (sp+1)))])])) (cond (zse (spI (z1p m q (bxI (List.getD left (0+Int.toNat (IntKind.wrap IntKind.i64 (ic (List.length left - 0) - 1))) default))))) (cond (decide ((0+Int.toNat (IntKind.wrap IntKind.i64 (ic (List.length left - 0) - 1))+2)*80≤z08)) none none) none)) none))) none) none))):=by kernel_rfl
theorem zi7 (N:Nat) (m:Md) (q:Qy) (k w0 w1 w2 w3 tw vs sp:Int):z0z (z7a N) z5c [.tmp 2] [[.bool]] [(.bor (zgv m q [.zs,.zs,.int .i64 k,.zs,.int .i64 w0,.int .i64 w1,.int .i64 w2,.int .i64 w3,.int .i64 tw,.int .i64 vs,.int .i64 sp]))]=(cond (k != 0) (some ((.bool false),[(zgv m q [.zs,.zs,(.i k),.zs,(.i w0),(.i w1),(.i w2),(.i w3),(.i tw),(.i vs),(.i sp)])])) (cond (decide (sp≥Qy.bu q)) (some ((.bool false),[(zgv m q [.zs,.zs,(.i k),.zs,(.i w0),(.i w1),(.i w2),(.i w3),(.i tw),(.i vs),(.i sp)])])) none)):=by kernel_rfl
open Go Go.Proofs Go.RowKit Go.Sort Go.Lib
theorem ymu:(PR.info? 127).map (fun i=>(i.zero,i.size,i.bytes))=some (some (.agg #[.bool false,.int .i64 0,.int .i64 0]),3,24):=by kernel_rfl
set_option maxHeartbeats 4000000 in
theorem yiq (b:Addr) (n c:Nat) (news:List Value) (w:World) (hl:news.length=n*3) (hn:n≤maxLen) (hbig:n*24≤140737488355328)
  (hc:∀ j u,news[j]?=some u→w.cell? (b.add j)=some u) (h1:∀ u∈news,u.oneCell'=true) :
  Calls Tryz.prog 125 #[.slice (some b) n c] w fun e w'=>∃ v',e = .returned v'∧w'.ownsRow w.heap.size 127 3 v' n news∧Below w.heap.size w w':=by
 obtain ⟨i0,hi,hz0,hz1,hz2⟩:∃ i,PR.info? 127=some i∧i.zero=some (.agg #[.bool false,.int .i64 0,.int .i64 0])∧i.size=3∧i.bytes=24:=by
  have h:=ymu;rw [v1k] at h;obtain ⟨i,hi,he⟩:=h;simp only [v06] at he;exact ⟨i,hi,he⟩
 have qS:∀ (w:World) (a:Option Addr) (n c n' c':Nat),(binOp .eql 51 (.slice a n c) (.slice none n' c')).run Tryz.prog w = .ok (.bool a.isNone) w:=fun w a n c n' c'=>Lib.run_eql_slice_nil w _ _ a n c n' c' Tryz.underlying51
 have A:Aside (∀ j u,news[j]?=some u→w.cell? (b.add j)=some u):=hc;clear hc
 go_enter Tryz.func125,Tryz.ntmps125
 go_wp2_with (at_builtin; refine wpList_append_own _ rfl _ _ 51 rfl w.heap.size 127 i0 (.agg #[.bool false,.int .i64 0,.int .i64 0]) 3 24 Tryz.underlying51 hi hz0 hz1 hz2 rfl (by decide) _ _ _ rfl (World.ownsRow_made w #[] 0 (v0a _) (v0x _) (by simp)) b n c news rfl ?qc1 ?qc2 ?qc3 ?qc4 ?qc5 ?qc6 ?_)
 case qc1=>exact hl
 case qc2=>
  intro j u hj;exact Lib.cell?_alloc_some _ (A.out j u hj)
 case qc3=>exact h1
 case qc4=>rw [v0p]; exact hn
 case qc5=>rw [v0p]; exact hbig
 case qc6=>simp
 intro v' w1 hown hgrow hnil
 go_wp2
 go_ret
 refine ⟨v',rfl,by simpa using hown,?_⟩
 exact ((Below.refl _ w).alloc (v0a _) _).grown hgrow (by simp) (by intro k hk; simp [Value.ownBlock] at hk; omega)
set_option maxHeartbeats 1000000 in
theorem y0h (n c:Nat) (w:World):Calls Tryz.prog 125 #[.slice none n c] w fun e w'=>e = .returned (.slice none 0 0)∧w'=w:=by
 have qS:∀ (w:World) (a:Option Addr) (n c n' c':Nat),(binOp .eql 51 (.slice a n c) (.slice none n' c')).run Tryz.prog w = .ok (.bool a.isNone) w:=fun w a n c n' c'=>Lib.run_eql_slice_nil w _ _ a n c n' c' Tryz.underlying51
 go_enter Tryz.func125,Tryz.ntmps125
 go_wp2
 go_ret
 exact ⟨rfl,rfl⟩
def zjb (y:IV):Nat→Value
 | 0=>.bool (z9d y)
 | 1=>.int .i64 (z17 y)
 | _=>.int .i64 (zfv y)
def zfg (l:List IV):List Value:=l.flatMap fun y=>[zjb y 0,zjb y 1,zjb y 2]
theorem znz:∀ l:List IV,(zfg l).length=l.length*3
 | []=>rfl
 | y :: r=>by
  have:=znz r
  unfold zfg at this ⊢
  rw [v2p,v08,this,v03];simp;omega
theorem zlx:∀ (l:List IV) (j:Nat) (u:Value),(zfg l)[j]?=some u→∃ i y k,j=i*3+k∧k < 3∧l[i]?=some y∧u=zjb y k
 | [],j,u,h=>by simp [zfg] at h
 | y :: r,j,u,h=>by
  have e:zfg (y :: r)=[zjb y 0,zjb y 1,zjb y 2]++zfg r:=by unfold zfg; rw [v2p]
  rw [e] at h
  match j,h with
  | 0,h=>exact ⟨0,y,0,rfl,by omega,rfl,by simpa using h.symm⟩
  | 1,h=>exact ⟨0,y,1,rfl,by omega,rfl,by simpa using h.symm⟩
  | 2,h=>exact ⟨0,y,2,rfl,by omega,rfl,by simpa using h.symm⟩
  | j+3,h=>
   obtain ⟨i,z,k,rfl,hk,hi,hu⟩:=zlx r j u (by simpa using h)
   exact ⟨i+1,z,k,by omega,hk,by simpa using hi,hu⟩
theorem yc7 (l:List IV) (i:Nat) (y:IV) (hy:l[i]?=some y) (k:Nat) (hk:k < 3):(zfg l)[i*3+k]?=some (zjb y k):=by
 have hi:i < l.length:=(List.getElem?_eq_some_iff.1 hy).1;have hlt:i*3+k < (zfg l).length:=by rw [znz]; omega
 obtain ⟨i',y',k',h1,h2,h3,h4⟩:=zlx l (i*3+k) _ (v0h hlt);obtain rfl:i'=i:=by omega
 obtain rfl:k'=k:=by omega
 rw [hy] at h3;simp only [v00] at h3;subst h3;rw [v0h hlt,h4]
theorem zcw:z32 PR B0 125 z3k:=by
 intro w X γ vs xs r out hsp hg hx hR hV;unfold z3k at hsp;simp only at hsp
 split at hsp
 ·rename_i l
  cases hc:Nat.ble l.length 100000 with
  | false=>rw [hc] at hsp; simp [R.get] at hsp
  | true=>
   rw [hc] at hsp;have hc:=v04 hc;simp only [R.get,v00,v06] at hsp;obtain ⟨rfl,rfl⟩:=hsp;obtain ⟨x0,rfl⟩:∃ x0,xs=[x0]:=by
    have:=hV.length
    simp at this
    match xs,this with
    | [a],_=>exact ⟨a,rfl⟩
   simp only [v0d,v16,zab,VRels,VRel,v1c] at hV;simp only [Kd.Rel,IV.toList] at hV;obtain ⟨p,c,rfl,hc1,hc2,hc3,hcell⟩:=hV;have key:∀ i y,l[i]?=some y→∃ b o,p=some ⟨b,o,none⟩∧(∀ k,k < 3→w.cell? ⟨b,o+i*3+k,none⟩=some (zjb y k))∧(IntKind.i64.min≤z17 y∧z17 y≤IntKind.i64.max)∧(IntKind.i64.min≤zfv y∧zfv y≤IntKind.i64.max):=fun i y hy=>by
    obtain ⟨b,o,rfl,_,_,hr⟩:=hcell i y hy;simp only [Kd.RelAll,v1c,v03,v0i,v0p,v1s] at hr;obtain ⟨⟨u0,a0,b0⟩,⟨u1,a1,b1⟩,⟨u2,a2,b2⟩⟩:=hr;simp only [Kd.Rel,z3r] at b0 b1 b2;refine ⟨b,o,rfl,fun k hk=>?_,b1.2,b2.2⟩
    match k,hk with
    | 0,_=>rw [b0] at a0; exact a0
    | 1,_=>rw [b1.1] at a1; exact a1
    | 2,_=>rw [b2.1] at a2; exact a2
   have hel:∀ (w':World) (O:Nat→Prop) i y,l[i]?=some y→Kd.RelAll w' O z1k (z3r true y) 0 (fun j u=>(zfg l)[i*z1k.length+j]?=some u):=fun w' O i y hy=>by
    obtain ⟨_,_,_,_,k1,k2⟩:=key i y hy;simp only [Kd.RelAll,v03,v0i,v0p,v1s,v1c];have g:=yc7 l i y hy;refine ⟨⟨_,g 0 (by omega),?_⟩,⟨_,g 1 (by omega),?_⟩,⟨_,g 2 (by omega),?_⟩⟩
    ·simp only [Kd.Rel,z3r,zjb,z9d]
    ·simp only [Kd.Rel,z3r,zjb,z17]; exact ⟨trivial,k1⟩
    ·simp only [Kd.Rel,z3r,zjb,zfv]; exact ⟨trivial,k2⟩
   refine y6u hR rfl (by decide) (by decide) hc3 (Does.of_calls Tryz.func125 (by kernel_rfl) (by kernel_rfl) ?_)
   cases p with
   | none=>
    have h0:l=[]:=by
     cases l with
     | nil=>rfl
     | cons y r=>
      obtain ⟨b,o,hp,_⟩:=key 0 y rfl;cases hp
    subst h0;refine (y0h _ c w).mono ?_
    rintro e w' ⟨rfl,rfl⟩
    exact ⟨_,[],rfl,Keep.refl _ _,⟨rfl,.inl ⟨rfl,rfl⟩⟩,hel _⟩
   | some a=>
    refine (yiq a l.length c (zfg l) w (znz l) (by unfold maxLen; omega) (by omega) (fun j u hj=>?_) (fun u hu=>?_)).mono ?_
    ·obtain ⟨i,y,k,rfl,hk,hi,rfl⟩:=zlx l j u hj
     obtain ⟨b,o,hp,hu,_⟩:=key i y hi;simp only [v00] at hp;subst hp;rw [Addr.add_lit,← v2x];exact hu k hk
    ·obtain ⟨j,hj⟩:=v3c hu
     obtain ⟨i,y,k,_,hk,_,rfl⟩:=zlx l j u hj
     match k,hk with
     | 0,_=>rfl
     | 1,_=>rfl
     | 2,_=>rfl
    ·rintro e w' ⟨v',rfl,hown,hw⟩
     exact ⟨v',_,rfl,Keep.below hw,hown,hel _⟩
 ·simp [R.get] at hsp
open Go Go.Proofs
set_option maxRecDepth 100000
theorem yrh {l:List V} {m:Md} (h:mdOf? l=some m):l=m.cs:=by
 unfold mdOf? at h
 split at h
 ·simp only [v00] at h
  subst h
  rfl
 ·cases h
theorem yqm {l:List V} {q:Qy} (h:qyOf? l=some q):l=q.cs:=by
 unfold qyOf? at h
 split at h
 ·simp only [v00] at h
  subst h
  rfl
 ·cases h
theorem yrs {l r:List V} {m:Md} {q:Qy} (h:seOf? l=some (m,q,r)):l=zgv m q r:=by
 unfold seOf? at h
 split at h
 ·rename_i m' q' h1 h2
  simp only [v00,v06] at h;obtain ⟨rfl,rfl,rfl⟩:=h;unfold zgv;rw [← yrh h1,← yqm h2,v3w,v3w]
 ·cases h
def yvc (t:Nat) (s:Sr):Prop:=t≤3∧(t=3→s.left=[])∧(t=1∨t=3→s.proof=[])∧(t≠2→s.v.proof=[])
theorem ysi {r:List V} {t:Nat} {s:Sr} (h:srT? r=some (t,s)) (m:Md) (q:Qy):zgv m q r=srV t m q s∧yvc t s:=by
 unfold srT? at h
 split at h
 case h_5=>cases h
 all_goals
  simp only [v00,v06] at h;obtain ⟨rfl,rfl⟩:=h;refine ⟨rfl,by omega,?_,?_,?_⟩ <;> intro h <;> first | rfl | (exfalso; omega)
theorem y23 {v:V} {k:Nat→Md→Qy→Sr→R} {z:V × List (List V)} (h:(yes v k).get=some z):∃ t m q s,v = .bor (srV t m q s)∧yvc t s∧(k t m q s).get=some z:=by
 unfold yes at h
 split at h
 ·rename_i l
  split at h
  ·rename_i m q r hl
   split at h
   ·rename_i t s hr
    obtain ⟨e,hw⟩:=ysi hr m q;exact ⟨t,m,q,s,by rw [yrs hl,e],hw,h⟩
   ·simp [R.get] at h
  ·simp [R.get] at h
 ·simp [R.get] at h
theorem y0q:z32 PR B0 74 zd9:=by
 refine z0h [(65,z2k),(66,z89)] [] zd9 [[.list false []]] Tryz.func74 y7e ⟨z7g,zkw,trivial⟩ ?_;intro vs r hwf h;unfold zd9 at h
 split at h
 ·rename_i m q
  replace h:=z3q h;obtain ⟨m,rfl,h⟩:=h;replace h:=z3z h;obtain ⟨q,rfl,h⟩:=h;refine ⟨0,(y4i 0 m q).trans ?_⟩;cases hr:z2b m q with
  | true=>rw [hr,R.get_br,z00,R.get_ok] at h; exact h
  | false=>rw [hr,R.get_br,z01,R.get_ok] at h; exact h
 ·simp [R.get] at h
theorem zgx:z32 PR B0 76 z42:=by
 refine z0h [(125,z3k)] [] z42 [[.int .i64,.list true [.bool,.int .i64,.int .i64],.int .i64,.int .i64,.int .i64,.int .i64,.int .i64,.int .i64]] Tryz.func76 zia ⟨zcw,trivial⟩ ?_;intro vs r hwf h;unfold z42 at h
 split at h
 ·replace h:=y23 h
  obtain ⟨t,m,q,s,rfl,hw,h⟩:=h;cases hg:Nat.ble s.v.proof.length 100000 with
  | false=>rw [hg] at h; simp [R.get] at h
  | true=>
   rw [hg,R.get_br,z00,R.get_ok] at h;refine ⟨0,?_⟩;rw [← h];obtain ⟨left,proof,⟨k,vp,a,b,c,d,tw,vs⟩,sp⟩:=s;replace hg:Nat.ble vp.length 100000=true:=hg
   match t,hw with
   | 0,hw=>
    obtain rfl:vp=[]:=hw.2.2.2 (by omega)
    refine (zg7 0 m q left proof k a b c d tw vs sp).trans ?_;rw [v0q,v0q];unfold z8i;cases (k==0) <;> rfl
   | 1,hw=>
    obtain rfl:vp=[]:=hw.2.2.2 (by omega)
    refine (zg4 0 m q left k a b c d tw vs sp).trans ?_;rw [v0q];unfold z8i;cases (k==0) <;> rfl
   | 2,_=>
    refine (zga 0 m q left proof vp k a b c d tw vs sp).trans ?_;rw [v0q,hg,z00,z00,v0z,v0q];unfold z8i;cases (k==0) <;> rfl
   | 3,hw=>
    obtain rfl:vp=[]:=hw.2.2.2 (by omega)
    refine (zg5 0 m q k a b c d tw vs sp).trans ?_;unfold z8i;cases (k==0) <;> rfl
   | t+4,hw=>exact absurd hw.1 (by omega)
 ·simp [R.get] at h
theorem ypq (m:Md) (q:Qy) (b:Bx):∀ (d i:Nat),i+d=5→(spR m q b d i).isSome=true→zse (spI (spR m q b d i))=true
 | 0,i,_,h=>by rw [spR] at h; cases h
 | d+1,i,hd,h=>by
  rw [spR] at h ⊢
  cases hc:decide ((z4g m q b i).length > 0) with
  | true=>
   rw [z00];show zse (i:Int)=true;unfold zse;rw [v01 (show (0:Int)≤(i:Int) by omega),v01 (show (i:Int) < 5 by omega)]
   rfl
  | false=>
   rw [hc,z01] at h;rw [z01];exact ypq m q b d (i+1) (by omega) h
theorem zjj:z32 PR B0 75 z5d:=by
 refine z0h [(111,z92),(122,zbn),(123,zbt),(124,zdc),(70,z71)] [] z5d [[.bool]] Tryz.func75 zmd ⟨zhu,zvr,zy5,y0u,zj1,trivial⟩ ?_;intro vs r hwf h;unfold z5d at h
 split at h
 ·replace h:=y23 h
  obtain ⟨t,m,q,s,rfl,hw,h⟩:=h;refine ⟨0,?_⟩;obtain ⟨left,proof,⟨k,vp,a,b,c,d,tw,vs⟩,sp⟩:=s;cases ho:zgy q ⟨left,proof,⟨k,vp,a,b,c,d,tw,vs⟩,sp⟩ with
  | true=>
   rw [ho,R.get_br,z00,R.get_ok] at h;rw [← h];have hk:(k != 0)=true∨(k != 0)=false∧decide (sp≥q.bu)=true:=by
    unfold zgy at ho;have e:(k != 0)=!(k==0):=rfl;rw [e];cases hk:(k==0) with
    | false=>exact .inl rfl
    | true=>
     replace ho:(!(k==0)||decide (sp≥q.bu))=true:=ho;rw [hk,v0e,v2t] at ho;exact .inr ⟨rfl,ho⟩
   match t,hw with
   | 0,hw=>
    refine (zca 0 m q left proof k a b c d tw vs sp).trans ?_;rcases hk with hk | ⟨hk,hs⟩
    ·rw [hk,z00,v0q,v0q]; rfl
    ·rw [hk,z01,hs,z00,v0q,v0q]; rfl
   | 1,hw=>
    refine (zbu 0 m q left k a b c d tw vs sp).trans ?_;rcases hk with hk | ⟨hk,hs⟩
    ·rw [hk,z00,v0q]; rfl
    ·rw [hk,z01,hs,z00,v0q]; rfl
   | 2,hw=>
    refine (zi1 0 m q left proof vp k a b c d tw vs sp).trans ?_;rcases hk with hk | ⟨hk,hs⟩
    ·rw [hk,z00,v0q]; rfl
    ·rw [hk,z01,hs,z00,v0q]; rfl
   | 3,hw=>
    refine (zi7 0 m q k a b c d tw vs sp).trans ?_;rcases hk with hk | ⟨hk,hs⟩
    ·rw [hk,z00]; rfl
    ·rw [hk,z01,hs,z00]; rfl
   | t+4,hw=>exact absurd hw.1 (by omega)
  | false=>
   rw [ho,R.get_br,z01] at h;unfold zgy at ho;replace ho:(!(k==0)||decide (sp≥q.bu))=false:=ho;rw [v1z] at ho;have hk:(k != 0)=false:=ho.1;have hsp:decide (sp≥q.bu)=false:=ho.2;cases hg:(Nat.ble t 1&&(z2b m q&&(decide (0≤sp)&&(Nat.blt 0 left.length&&(Nat.ble left.length 100000&&Nat.ble proof.length 100000))))) with
   | false=>
    replace h:(R.br (Nat.ble t 1&&(z2b m q&&(decide (0≤sp)&&(Nat.blt 0 left.length&&(Nat.ble left.length 100000&&Nat.ble proof.length 100000))))) _ R.no).get=some r:=h;rw [hg] at h;simp [R.get] at h
   | true=>
    replace h:(R.br (Nat.ble t 1&&(z2b m q&&(decide (0≤sp)&&(Nat.blt 0 left.length&&(Nat.ble left.length 100000&&Nat.ble proof.length 100000))))) _ R.no).get=some r:=h;rw [hg,R.get_br,z00] at h;have hst:some (.bool true,[srV (yoy m q t ⟨left,proof,⟨k,vp,a,b,c,d,tw,vs⟩,sp⟩) m q (z7k m q ⟨left,proof,⟨k,vp,a,b,c,d,tw,vs⟩,sp⟩)])=some r:=by
     rw [← h];unfold yoy;simp only [R.get_br,R.get_ok];cases z2r m q (z3s left) with
     | true=>cases (ic (left.length - 1)==0) <;> rfl
     | false=>
      cases z3u m q (z3s left).low (z3s left).s4.hi with
      | true=>rfl
      | false=>cases (z1p m q (z3s left)).isSome <;> rfl
    rw [← hst];simp only [v02] at hg;obtain ⟨ht,hr,h0,hl,hl5,hp5⟩:=hg;obtain ⟨hm,_,⟨_,hbu⟩,_,_⟩:=z91 hr;have h0:=v0c h0;have hs1:=v0r hsp;have hl:0 < left.length:=v04 hl;have hl5:=v04 hl5;have hp5:=v04 hp5;have esp:IntKind.wrap IntKind.i64 (sp+1)=sp+1:=z0s (by omega) (by omega)
    have etop:IntKind.wrap IntKind.i64 (ic (left.length - 0) - 1)=((left.length - 1:Nat):Int):=by
     rw [z0s (by simp only [ic]; omega) (by simp only [ic]; omega)]
     simp only [ic];omega
    have ed:(decide (0≤((left.length - 1:Nat):Int))&&decide (((left.length - 1:Nat):Int) < ic (left.length - 0)))=true:=by
     rw [v01 (by omega),v01 (by simp only [ic]; omega)]
     rfl
    have ee:(decide (0≤((left.length - 1:Nat):Int))&&decide (((left.length - 1:Nat):Int)≤ic (left.length - 0)))=true:=by
     rw [v01 (by omega),v01 (by simp only [ic]; omega)]
     rfl
    have epop:left.take (left.length - 1+2)=left.take (left.length - 1+2):=rfl;have hlen:(zgz left).length=left.length - 1:=by unfold zgz; rw [v0l]; omega
    have htk:∀ (x y:IV),List.take (left.length - 1+2) (List.take (left.length - 1) left++[x,y])=zgz left++[x,y]:=fun x y=>v13 (by rw [v08]; unfold zgz at hlen; rw [hlen]; simp)
    have hb80:decide ((left.length - 1+2)*80≤z08)=true:=v01 (by unfold z08; omega)
    have hin:=ypq m q (z3s left) 5 0 rfl;replace hin:(z1p m q (z3s left)).isSome=true→zse (spI (z1p m q (z3s left)))=true:=hin
    match t,ht,hw with
    | 0,_,_=>
     have hb24:decide ((proof.length+1)*24≤z08)=true:=v01 (by unfold z08; omega)
     have htp:∀ x:IV,List.take (proof.length+1) (proof++[x])=proof++[x]:=fun x=>v13 (by rw [v08]; simp)
     refine (zca 0 m q left proof k a b c d tw vs sp).trans ?_;rw [hk,z01,hsp,z01,etop,ed,z00,ee,z00,esp,v0g];simp only [v0p,v2v,v0q];rw [hb24,hb80,hm];unfold z7k yoy;show cond (z2r m q (z3s left)) _ (cond (z3u m q (z3s left).low (z3s left).s4.hi) _ _)=_;cases z2r m q (z3s left) with
     | true=>
      simp only [htp,v0z];rw [z00,z00];show cond (ic (left.length - 1)==0) _ _=_;cases (ic (left.length - 1)==0) <;> rfl
     | false=>
      rw [z01];cases z3u m q (z3s left).low (z3s left).s4.hi with
      | true=>rfl
      | false=>
       rw [z01,z00];show cond (!(z1p m q (z3s left)).isSome) _ (cond (zse (spI (z1p m q (z3s left)))) _ _)=_;cases hs:(z1p m q (z3s left)).isSome with
       | false=>rfl
       | true=>
        rw [v0e,z01,hin hs,z00,z00,z00];simp only [htp,htk]
        rfl
    | 1,_,hw=>
     obtain rfl:proof=[]:=hw.2.2.1 (.inl rfl);refine (zbu 0 m q left k a b c d tw vs sp).trans ?_;rw [hk,z01,hsp,z01,etop,ed,z00,ee,z00,esp,v0g];simp only [v0p,v2v];rw [hb80,hm];unfold z7k yoy;show cond (z2r m q (z3s left)) _ (cond (z3u m q (z3s left).low (z3s left).s4.hi) _ _)=_;cases z2r m q (z3s left) with
     | true=>
      rw [z00];show cond (ic (left.length - 1)==0) _ _=_;cases (ic (left.length - 1)==0) <;> rfl
     | false=>
      rw [z01];cases z3u m q (z3s left).low (z3s left).s4.hi with
      | true=>rfl
      | false=>
       rw [z01,z00];show cond (!(z1p m q (z3s left)).isSome) _ (cond (zse (spI (z1p m q (z3s left)))) _ _)=_;cases hs:(z1p m q (z3s left)).isSome with
       | false=>rfl
       | true=>
        rw [v0e,z01,hin hs,z00,z00];simp only [htk]
        rfl
    | t+2,ht,_=>exact absurd (v04 ht) (by omega)
 ·simp [R.get] at h
open Go Go.Proofs
def z7q (N:Nat):Env:=mkE [(74,zd9),(75,z5d),(76,z42)] [(2,⟨[4,5],[4,8,500,501],[⟨.cell 8 23,500,36,true,zch⟩,⟨.cell 8 24,501,127,true,z1k⟩]⟩)] 13 N
open Go Go.Proofs
set_option maxRecDepth 100000
abbrev kpR:KP:=⟨[4,5],[4,8,500,501],[⟨.cell 8 23,500,36,true,zch⟩,⟨.cell 8 24,501,127,true,z1k⟩]⟩
def yvd (sh:Bool) (s:Sr):List V:=match sh with
 | false=>.row 500 0 s.left.length :: .row 501 0 s.proof.length :: vdT s.v .zs s.spent
 | true=>.row 500 0 s.left.length :: yoq s.proof :: vdT s.v (yoq s.v.proof) s.spent
def yvh (sh:Bool) (s:Sr):Option Ob:=match sh with
 | false=>some (.row true 127 true z1k s.proof)
 | true=>none
def zo7 (m:Md) (q:Qy) (sh:Bool) (s:Sr):St:=
 ⟨[(4,.ptr 4 0 0),(5,.ptr 8 0 0)],[(4,some (.box [.int .i64 0,.zs,.int .i64 0,.int .i64 0,.int .i64 0,.int .i64 0,.int .i64 0,.int .i64 0])),(8,some (.box (zgv m q (yvd sh s)))),(500,some (.row true 36 true zch s.left)),(501,yvh sh s)]⟩
def tkS (s:Sr):Sr:=⟨s.left.take s.left.length,s.proof.take s.proof.length,⟨s.v.kind,[],s.v.w0,s.v.w1,s.v.w2,s.v.w3,s.v.twin,s.v.spent⟩,s.spent⟩
def ytw (s:Sr):Sr:=⟨s.left.take s.left.length,s.proof,s.v,s.spent⟩
theorem y7u {s:Sr} (h:s.v.proof=[]):tkS s=s:=by
 obtain ⟨left,proof,⟨k,vp,a,b,c,d,tw,vs⟩,sp⟩:=s;obtain rfl:vp=[]:=h;unfold tkS;simp only [v0q]
theorem ym6 (s:Sr):ytw s=s:=by
 obtain ⟨left,proof,v,sp⟩:=s;unfold ytw;simp only [v0q]
def okS (m:Md) (q:Qy) (s:Sr):Bool:=z2b m q&&(decide (0≤s.spent)&&(Nat.blt 0 s.left.length&&(Nat.ble s.left.length 100000&&Nat.ble s.proof.length 100000)))
noncomputable abbrev ysj (N:Nat):Out→St→Res:=z05 0 (kSq (z7q N) (z0f z7p [1,1,1]) (z2s (z7q N) none [.cell 4 55] [[.int .i64,.list true z1k,.int .i64,.int .i64,.int .i64,.int .i64,.int .i64,.int .i64]]))
theorem y4n (N:Nat) (m:Md) (q:Qy):z0z (z7q N) z7p [.cell 4 55] [[.int .i64,.list true [.bool,.int .i64,.int .i64],.int .i64,.int .i64,.int .i64,.int .i64,.int .i64,.int .i64]] [m.V,q.V] =
 cond (z2b m q) (lpE (z7q N) (z0f z7p [1,1,0,0,0]) kpR N (zo7 m q false ⟨[(z4f q).I],[],Vd.none,0⟩) (ysj N))
 (lpE (z7q N) (z0f z7p [1,1,0,0,0]) kpR N (zo7 m q false ⟨[],[],⟨4,[],0,0,0,0,0,0⟩,0⟩) (ysj N)):=by kernel_rfl
theorem zsn (N:Nat) (m:Md) (q:Qy) (s:Sr) (again:St→Res) (k:Out→St→Res):rnd (z7q N) (z0f z7p [1,1,0,0,0]) (zo7 m q false s) (z3t again kpR k) =
 cond (zgy q (tkS s)) (k (.exit 0) (zo7 m q false (tkS s)))
 (cond (okS m q (tkS s))
 (cond (z2r m q (z3s (tkS s).left)) (cond (ic ((tkS s).left.length - 1)==0) (again (zo7 m q true (z7k m q (tkS s)))) (again (zo7 m q false (z7k m q (tkS s)))))
 (cond (z3u m q (z3s (tkS s).left).low (z3s (tkS s).left).s4.hi) (again (zo7 m q false (z7k m q (tkS s))))
 (cond (z1p m q (z3s (tkS s).left)).isSome (again (zo7 m q false (z7k m q (tkS s)))) (again (zo7 m q false (z7k m q (tkS s))))))) none):=by kernel_rfl
theorem y48 (N:Nat) (m:Md) (q:Qy) (s:Sr) (again:St→Res) (k:Out→St→Res):rnd (z7q N) (z0f z7p [1,1,0,0,0]) (zo7 m q true s) (z3t again kpR k) =
 cond (zgy q (ytw s)) (k (.exit 0) (zo7 m q true (ytw s))) none:=by kernel_rfl
theorem y1b (N:Nat) (m:Md) (q:Qy) (s:Sr):ysj N (.exit 0) (zo7 m q false s)=some ((z8i (tkS s)).V,[]):=by kernel_rfl
theorem y51 (N:Nat) (m:Md) (q:Qy) (s:Sr):ysj N (.exit 0) (zo7 m q true s)=cond (Nat.ble s.v.proof.length 100000) (some ((z8i (ytw s)).V,[])) none:=by kernel_rfl
structure SrInv (q:Qy) (sh:Bool) (s:Sr):Prop where
 sp0:0≤s.spent
 sp1:s.spent≤max 0 q.bu
 left:(s.left.length:Int)≤s.spent+1
 proof:(s.proof.length:Int)≤s.spent
 vp:(s.v.proof.length:Int)≤s.spent
 own:sh=false→s.v.proof=[]
 open_:s.v.kind=0→0 < s.left.length
 shut:sh=true→s.v.kind≠0
theorem yoj (l:List IV):(zgz l).length=l.length - 1:=by
 unfold zgz;rw [v0l];omega
theorem SrInv.step {m:Md} {q:Qy} {s:Sr} (h:SrInv q false s) (ho:zgy q s=false) :
  SrInv q (z2r m q (z3s s.left)&&(ic (s.left.length - 1)==0)) (z7k m q s)∧(z7k m q s).spent=s.spent+1:=by
 unfold zgy at ho;rw [v1z] at ho;have hk:s.v.kind=0:=by simpa using ho.1
 have hs:=v0r ho.2;have h1:=h.sp0;have h2:=h.left;have h3:=h.proof;have h4:=h.vp;have h5:=h.own rfl;have h6:=h.open_ hk;have hp:=yoj s.left;have h5':s.v.proof.length=0:=by rw [h5]; rfl
 unfold z7k;cases z2r m q (z3s s.left) with
 | true=>
  rw [z00];cases he:(ic (s.left.length - 1)==0) with
  | true=>
   refine ⟨⟨?_,?_,?_,?_,?_,fun h=>(by cases h),fun h=>(by cases h),fun _=>(show (1:Int)≠0 by decide)⟩,rfl⟩ <;> simp only [v1e,v08,v1j] <;> omega
  | false=>
   have hne:s.left.length - 1≠0:=by simpa [ic] using he
   refine ⟨⟨?_,?_,?_,?_,?_,fun _=>h5,fun _=>?_,fun h=>(by cases h)⟩,rfl⟩ <;> simp only [v18,v08,v1j] <;> omega
 | false=>
  rw [z01,v0u];cases z3u m q (z3s s.left).low (z3s s.left).s4.hi with
  | true=>refine ⟨⟨?_,?_,?_,?_,?_,fun _=>rfl,fun h=>(by cases h),fun h=>(by cases h)⟩,rfl⟩ <;> simp only [v1e,v0i] <;> omega
  | false=>
   rw [z01];cases (z1p m q (z3s s.left)).isSome with
   | true=>refine ⟨⟨?_,?_,?_,?_,?_,fun _=>h5,fun _=>?_,fun h=>(by cases h)⟩,rfl⟩ <;> simp only [v1e,v08,v1j,v03,v0i] <;> omega
   | false=>refine ⟨⟨?_,?_,?_,?_,?_,fun _=>rfl,fun h=>(by cases h),fun h=>(by cases h)⟩,rfl⟩ <;> simp only [v18,v0i] <;> omega
theorem yt1 {m:Md} {q:Qy} {s:Sr} (hr:z2b m q=true) (h:SrInv q false s) (hk:s.v.kind=0):okS m q s=true:=by
 have hb:=(z91 hr).2.2.1;have h1:=h.sp0;have h2:=h.left;have h3:=h.proof;have h6:=h.open_ hk;have h7:=h.sp1;unfold okS;rw [hr,v01 h1,v1o (show s.left.length≤100000 by omega),v1o (show s.proof.length≤100000 by omega)]
 have:Nat.blt 0 s.left.length=true:=v1o h6
 rw [this]
 rfl
theorem yku (N:Nat) (m:Md) (q:Qy) (hr:z2b m q=true) (K:Out→St→Res):∀ (d n:Nat) (sh:Bool) (s:Sr),SrInv q sh s→q.bu < s.spent+d→d < n →
  ∃ sh',SrInv q sh' (yb0 m q d s)∧lpE (z7q N) (z0f z7p [1,1,0,0,0]) kpR n (zo7 m q sh s) K=K (.exit 0) (zo7 m q sh' (yb0 m q d s))
 | d,0,sh,s,_,_,h=>absurd h (by omega)
 | 0,n+1,sh,s,hi,hd,_=>by
  have h1:=hi.sp1;have h2:=hi.sp0;have h3:=(z91 hr).2.2.1;omega
 | d+1,n+1,sh,s,hi,hd,hn=>by
  rw [yb0];cases ho:zgy q s with
  | true=>
   rw [z00];refine ⟨sh,hi,?_⟩;cases sh with
   | false=>rw [z06,zsn,y7u (hi.own rfl),ho,z00]
   | true=>rw [z06,y48,ym6,ho,z00]
  | false=>
   rw [z01];cases sh with
   | true=>
    unfold zgy at ho;rw [v1z] at ho
    have:=hi.shut rfl
    simp at ho;exact absurd ho.1 this
   | false=>
    obtain ⟨hi',hs'⟩:=hi.step (m:=m) ho;have hk:s.v.kind=0:=by
     unfold zgy at ho;rw [v1z] at ho
     simpa using ho.1
    obtain ⟨sh',hi2,hrun⟩:=yku N m q hr K d n _ (z7k m q s) hi' (by rw [hs']; omega) (by omega)
    refine ⟨sh',hi2,?_⟩;rw [← hrun,z06,zsn,y7u (hi.own rfl),ho,z01,yt1 hr hi hk,z00];cases z2r m q (z3s s.left) with
    | true=>
     rw [z00,v0k];cases (ic (s.left.length - 1)==0) <;> rfl
    | false=>
     rw [z01,v0u];cases z3u m q (z3s s.left).low (z3s s.left).s4.hi with
     | true=>rfl
     | false=>cases (z1p m q (z3s s.left)).isSome <;> rfl
theorem yrz {m:Md} {q:Qy} (hr:z2b m q=true):SrInv q false ⟨[(z4f q).I],[],Vd.none,0⟩:=
 ⟨v2b _,by have:=(z91 hr).2.2.1; show (0:Int)≤_; omega,by simp,by simp,by simp [Vd.none],fun _=>rfl,fun _=>by simp,fun h=>by cases h⟩
theorem zmn:z32 PR B0 35 z95:=by
 refine z0h [(74,zd9),(75,z5d),(76,z42)] [(2,⟨[4,5],[4,8,500,501],[⟨.cell 8 23,500,36,true,zch⟩,⟨.cell 8 24,501,127,true,z1k⟩]⟩)] z95 [[.int .i64,.list true [.bool,.int .i64,.int .i64],.int .i64,.int .i64,.int .i64,.int .i64,.int .i64,.int .i64]] Tryz.func35 yaw ⟨y0q,zjj,zgx,trivial⟩ ?_;intro vs r hwf h;unfold z95 at h
 split at h
 ·rename_i m q
  replace h:=z3q h;obtain ⟨m,rfl,h⟩:=h;replace h:=z3z h;obtain ⟨q,rfl,h⟩:=h;rw [R.get_ok] at h;refine ⟨70000,?_⟩;rw [← h];refine (y4n 70000 m q).trans ?_;unfold zd3 ymy;cases hr:z2b m q with
  | true=>
   have hb:=(z91 hr).2.2.1;rw [z00,z00];obtain ⟨sh',hi,hrun⟩:=yku 70000 m q hr (ysj 70000) (q.bu.toNat+1) 70000 false _ (yrz hr) (by show q.bu < 0+_; omega) (by omega)
   rw [hrun];generalize yb0 m q (q.bu.toNat+1) _=s at hi ⊢
   cases sh' with
   | false=>rw [y1b,y7u (hi.own rfl)]
   | true=>
    have h1:=hi.vp;have h2:=hi.sp1;rw [y51,ym6,v1o (show s.v.proof.length≤100000 by omega),z00]
  | false=>
   rw [z01,z01];have e:zgy q ⟨[],[],⟨4,[],0,0,0,0,0,0⟩,0⟩=true:=rfl;rw [z06,zsn,y7u rfl,e,z00,y1b,y7u rfl,yb0,e,z00]
 ·simp [R.get] at h
open Go
def yt5:Md:=⟨1,1,3,0,0,[.agg [.int 0,.list [.int (zu0 false 0 0 5 1 2),.int (zu0 true 10 0 0 0 0),.int (zu0 true 20 0 0 0 0)]]]⟩
def z7b:z0o
 | []=>.ok yt5.V []
 | _=>.no
open Go
def zxb (s:Sp):Bool:=decide (-2147483648≤s.lo)&&(decide (s.lo≤s.hi)&&decide (s.hi≤2147483647))
def z77 (b:Bx):Bool:=zxb b.s0&&(zxb b.s1&&(zxb b.s2&&(zxb b.s3&&zxb b.s4)))
def zdi:z0o
 | [.list false [.int .u64] l,b]=>zg9 b fun b=>.br (zav l 4&&z77 b) (.ok (.tup [.int .i64 (tLo l b),.int .i64 (tHi l b)]) []) .no
 | _=>.no
def zdl:z0o
 | [m,.int .i64 k,b]=>zgw m fun m=>zg9 b fun b=>.br (b.emp||z77 b) (.ok (.tup [.int .i64 (sLo m k b),.int .i64 (sHi m k b)]) []) .no
 | _=>.no
def zbl:z0o
 | [m,q,b]=>zgw m fun m=>zhl q fun q=>zg9 b fun b=>.br (z2b m q&&(b.emp||z77 b)) (.ok (.bool (z2r m q b)) []) .no
 | _=>.no
def z6c (x:IV):Bool:=cond (z9d x) (z17 x==0&&zfv x==0) (decide (0≤z17 x)&&decide (z17 x≤4))
def zcd:z0o
 | [.agg [.bool s,.int .i64 p,.int .i64 a]]=>.ok (.bool (z6c (stI s p a))) []
 | _=>.no
def zds (st:Int × Int) (x:IV):Option (Int × Int):=
 cond (st.1==0||!(z6c x)) none (cond (z9d x) (some (st.1 - 1,st.2)) (some (st.1+1,max st.2 (st.1+1))))
def zz3:List IV→Int × Int→Option (Int × Int)
 | [],st=>some st
 | x :: r,st=>match zds st x with
  | some st'=>zz3 r st'
  | none=>none
def zio (l:List IV):Int:=cond (decide (ic l.length > 65536)) 0 (match zz3 l (1,1) with
 | some st=>cond (!(st.1==0)||decide (st.2 > 200)) 0 st.2
 | none=>0)
def ze5:z0o
 | [.list true [.bool,.int .i64,.int .i64] l]=>.ok (.int .i64 (zio l)) []
 | _=>.no
def zbk:z0o
 | [.list true [.bool,.int .i64,.int .i64] l]=>.ok (.bool (decide (zio l > 0))) []
 | _=>.no
def zd8 (st:List IV × List IV) (x:IV):Option (List IV × List IV):=
 cond (z9d x) (some (zgz st.1,st.2++[(z3s st.1).I]))
  (cond (decide (zfv x < ((z3s st.1).g (z17 x).toNat).lo)||decide (zfv x≥((z3s st.1).g (z17 x).toNat).hi)) none
   (some (zgz st.1++[((z3s st.1).cutH (z17 x) (zfv x)).I,((z3s st.1).cutL (z17 x) (zfv x)).I],st.2)))
def ztr:List IV→List IV × List IV→Option (List IV × List IV)
 | [],st=>some st
 | x :: r,st=>match zd8 st x with
  | some st'=>ztr r st'
  | none=>none
def psF (b:Bx) (l:List IV):Option (List IV):=cond (decide (zio l > 0)) ((ztr l ([b.I],[])).map (·.2)) none
def zdw:z0o
 | [b,.list true [.bool,.int .i64,.int .i64] l]=>zg9 b fun b=>.br (psF b l).isSome (.ok (.tup [.list true zch ((psF b l).getD []),.bool true]) []) (.ok (.tup [.list true zch [],.bool false]) [])
 | _=>.no
def Vd.p (v:Vd):Pt:=⟨v.w0,v.w1,v.w2,v.w3⟩
def z7d (m:Md) (q:Qy) (v:Vd):Bool:=
 z2b m q&&cond (v.kind==1) (match psF (z4f q) v.proof with
   | some l=>l.all fun x=>z2r m q (bxI x)
   | none=>false)
  (cond (v.kind==2) ((z4f q).has v.p v.twin&&z3u m q v.p v.twin) false)
def z4n:z0o
 | [m,q,v]=>zgw m fun m=>zhl q fun q=>yqg v fun v=>.ok (.bool (z7d m q v)) []
 | _=>.no
open Go Go.Proofs
def y4o (N:Nat):Env:=mkE [] [] 16 N
theorem y07 (N:Nat) (u01:Bool) (u00 s_At:Int):z0z (y4o N) zom [.tmp 2] [[.bool]] [(.agg [(.bool u01),(.i u00),(.i s_At)])]=(cond u01 (some ((.bool (u01==true&&(u00==0&&(s_At==0&&true)))),[])) (cond (decide (u00≥0)) (some ((.bool (decide (u00≤4))),[])) (some ((.bool false),[])))):=by kernel_rfl
def y64 (N:Nat):Env:=mkE [(156,ze5)] [] 6 N
theorem zzy (N:Nat) (l:List IV):z0z (y64 N) zp5 [.tmp 2] [[.bool]] [(.list true [.bool,.int .i64,.int .i64] l)]=(some ((.bool (decide (zio l > 0))),[])):=by kernel_rfl
def yky (N:Nat):Env:=mkE [(114,zcs)] [(2,⟨[2,3,6,9,10],[3],[]⟩)] 25 N
open Go Go.Proofs
def z5u (N:Nat):Env:=mkE [(192,zcd)] [(5,⟨[2,3,4,10,11,12],[],[]⟩)] 40 N
abbrev z4p (x2 x3 x4:Int) (l10:List IV) (x11 x12:Int):St:=⟨[(2,(.i x2)),(3,(.i x3)),(4,(.i x4)),(10,(.list true z1k l10)),(11,(.i x11)),(12,(.i x12))],[]⟩
theorem y58 (N:Nat) (l:List IV):z0z (z5u N) z7l [.tmp 2] [[.int .i64]] [(.list true [.bool,.int .i64,.int .i64] l)]=(cond (decide (ic (List.length l) > 65536)) (some ((.i 0),[])) (lpE (z5u N) (z0f z7l [1,1,1,0,1,0,0]) ⟨[2,3,4,10,11,12],[],[]⟩ N (z4p 0 1 1 l (ic (List.length l)) 0) (z05 0 (kSq (z5u N) (z0f z7l [1,1,1,1]) (z2s (z5u N) none [(ResultVar.tmp 2)] [[(.int .i64)]]))))):=by kernel_rfl
theorem zk2 (N:Nat) (x2 x3 x4:Int) (l10:List IV) (x11 x12:Int) (again:St→Res) (k:Out→St→Res):rnd (z5u N) (z0f z7l [1,1,1,0,1,0,0]) (z4p x2 x3 x4 l10 x11 x12) (z3t again ⟨[2,3,4,10,11,12],[],[]⟩ k)=(cond (decide (x12 < x11)) (cond (decide (0≤x12)&&decide (x12 < ic (List.length l10))) (cond (x3==0) (k .ret (z4p 0 x3 x4 l10 x11 x12)) (cond (!z6c (stI (IV.toBool (IV.cell (List.getD l10 (Int.toNat x12) default) 0)) (IV.toInt (IV.cell (List.getD l10 (Int.toNat x12) default) 1)) (IV.toInt (IV.cell (List.getD l10 (Int.toNat x12) default) 2)))) (k .ret (z4p 0 x3 x4 l10 x11 x12)) (cond (IV.toBool (IV.cell (List.getD l10 (Int.toNat x12) default) 0)) (again (z4p x2 (IntKind.wrap IntKind.i64 (x3 - 1)) x4 l10 x11 (IntKind.wrap IntKind.i64 (x12+1)))) (again (z4p x2 (IntKind.wrap IntKind.i64 (x3+1)) (max x4 (IntKind.wrap IntKind.i64 (x3+1))) l10 x11 (IntKind.wrap IntKind.i64 (x12+1))))))) none) (k (.exit 0) (z4p x2 x3 x4 l10 x11 x12))):=by kernel_rfl
theorem zsm (N:Nat) (x2 x3 x4:Int) (l10:List IV) (x11 x12:Int):(z05 0 (kSq (z5u N) (z0f z7l [1,1,1,1]) (z2s (z5u N) none [(ResultVar.tmp 2)] [[(.int .i64)]]))) (.exit 0) (z4p x2 x3 x4 l10 x11 x12)=(cond (x3 != 0) (some ((.i 0),[])) (cond (decide (x4 > 200)) (some ((.i 0),[])) (some ((.i x4),[])))):=by kernel_rfl
theorem zrt (N:Nat) (x2 x3 x4:Int) (l10:List IV) (x11 x12:Int):(z05 0 (kSq (z5u N) (z0f z7l [1,1,1,1]) (z2s (z5u N) none [(ResultVar.tmp 2)] [[(.int .i64)]]))) .ret (z4p x2 x3 x4 l10 x11 x12)=(some ((.i x2),[])):=by kernel_rfl
def z0j (N:Nat):Env:=mkE [(112,z2u),(158,zdi),(53,z2j)] [(5,⟨[1,5,6,7,8,9,40,41,42],[5],[]⟩)] 66 N
abbrev z2d (a2:Bx) (x1 x6 x7 x8 x9:Int) (l40:List IV) (x41 x42:Int):St:=⟨[(1,(.i x1)),(5,(.ptr 5 0 0)),(6,(.i x6)),(7,(.i x7)),(8,(.i x8)),(9,(.i x9)),(40,(.list true zns l40)),(41,(.i x41)),(42,(.i x42))],[(5,(some (.box (Bx.cs a2))))]⟩
theorem y40 (N:Nat) (m:Md) (a1:Int) (a2:Bx):z0z (z0j N) z18 [.tmp 6,.tmp 7] [[.int .i64],[.int .i64]] [(Md.V m),(.i a1),(Bx.V a2)]=(cond (!z2g m) (some ((.tup [(.i 0),(.i 0)]),[])) (cond (decide (a1 < 0)) (some ((.tup [(.i 0),(.i 0)]),[])) (cond (decide (a1≥Md.c m)) (some ((.tup [(.i 0),(.i 0)]),[])) (cond (Bx.emp a2) (some ((.tup [(.i 0),(.i 0)]),[])) (cond (decide (a1=ic 0)) (cond (decide (a1=ic 0)) (lpE (z0j N) (z0f z18 [1,1,1,0,1,0,0]) ⟨[1,5,6,7,8,9,40,41,42],[5],[]⟩ N (z2d a2 a1 0 0 (Md.b0 m) (Md.b0 m) (Md.ts m) (ic (List.length (Md.ts m))) 0) (z05 0 (kSq (z0j N) (z0f z18 [1,1,1,1]) (z2s (z0j N) none [(ResultVar.tmp 6),(ResultVar.tmp 7)] [[(.int .i64)],[(.int .i64)]])))) (cond (decide (a1=ic 1)) (lpE (z0j N) (z0f z18 [1,1,1,0,1,0,0]) ⟨[1,5,6,7,8,9,40,41,42],[5],[]⟩ N (z2d a2 a1 0 0 (Md.b0 m) (Md.b1 m) (Md.ts m) (ic (List.length (Md.ts m))) 0) (z05 0 (kSq (z0j N) (z0f z18 [1,1,1,1]) (z2s (z0j N) none [(ResultVar.tmp 6),(ResultVar.tmp 7)] [[(.int .i64)],[(.int .i64)]])))) (cond (decide (a1=ic 2)) (lpE (z0j N) (z0f z18 [1,1,1,0,1,0,0]) ⟨[1,5,6,7,8,9,40,41,42],[5],[]⟩ N (z2d a2 a1 0 0 (Md.b0 m) (Md.b2 m) (Md.ts m) (ic (List.length (Md.ts m))) 0) (z05 0 (kSq (z0j N) (z0f z18 [1,1,1,1]) (z2s (z0j N) none [(ResultVar.tmp 6),(ResultVar.tmp 7)] [[(.int .i64)],[(.int .i64)]])))) none))) (cond (decide (a1=ic 1)) (cond (decide (a1=ic 0)) (lpE (z0j N) (z0f z18 [1,1,1,0,1,0,0]) ⟨[1,5,6,7,8,9,40,41,42],[5],[]⟩ N (z2d a2 a1 0 0 (Md.b1 m) (Md.b0 m) (Md.ts m) (ic (List.length (Md.ts m))) 0) (z05 0 (kSq (z0j N) (z0f z18 [1,1,1,1]) (z2s (z0j N) none [(ResultVar.tmp 6),(ResultVar.tmp 7)] [[(.int .i64)],[(.int .i64)]])))) (cond (decide (a1=ic 1)) (lpE (z0j N) (z0f z18 [1,1,1,0,1,0,0]) ⟨[1,5,6,7,8,9,40,41,42],[5],[]⟩ N (z2d a2 a1 0 0 (Md.b1 m) (Md.b1 m) (Md.ts m) (ic (List.length (Md.ts m))) 0) (z05 0 (kSq (z0j N) (z0f z18 [1,1,1,1]) (z2s (z0j N) none [(ResultVar.tmp 6),(ResultVar.tmp 7)] [[(.int .i64)],[(.int .i64)]])))) (cond (decide (a1=ic 2)) (lpE (z0j N) (z0f z18 [1,1,1,0,1,0,0]) ⟨[1,5,6,7,8,9,40,41,42],[5],[]⟩ N (z2d a2 a1 0 0 (Md.b1 m) (Md.b2 m) (Md.ts m) (ic (List.length (Md.ts m))) 0) (z05 0 (kSq (z0j N) (z0f z18 [1,1,1,1]) (z2s (z0j N) none [(ResultVar.tmp 6),(ResultVar.tmp 7)] [[(.int .i64)],[(.int .i64)]])))) none))) (cond (decide (a1=ic 2)) (cond (decide (a1=ic 0)) (lpE (z0j N) (z0f z18 [1,1,1,0,1,0,0]) ⟨[1,5,6,7,8,9,40,41,42],[5],[]⟩ N (z2d a2 a1 0 0 (Md.b2 m) (Md.b0 m) (Md.ts m) (ic (List.length (Md.ts m))) 0) (z05 0 (kSq (z0j N) (z0f z18 [1,1,1,1]) (z2s (z0j N) none [(ResultVar.tmp 6),(ResultVar.tmp 7)] [[(.int .i64)],[(.int .i64)]])))) (cond (decide (a1=ic 1)) (lpE (z0j N) (z0f z18 [1,1,1,0,1,0,0]) ⟨[1,5,6,7,8,9,40,41,42],[5],[]⟩ N (z2d a2 a1 0 0 (Md.b2 m) (Md.b1 m) (Md.ts m) (ic (List.length (Md.ts m))) 0) (z05 0 (kSq (z0j N) (z0f z18 [1,1,1,1]) (z2s (z0j N) none [(ResultVar.tmp 6),(ResultVar.tmp 7)] [[(.int .i64)],[(.int .i64)]])))) (cond (decide (a1=ic 2)) (lpE (z0j N) (z0f z18 [1,1,1,0,1,0,0]) ⟨[1,5,6,7,8,9,40,41,42],[5],[]⟩ N (z2d a2 a1 0 0 (Md.b2 m) (Md.b2 m) (Md.ts m) (ic (List.length (Md.ts m))) 0) (z05 0 (kSq (z0j N) (z0f z18 [1,1,1,1]) (z2s (z0j N) none [(ResultVar.tmp 6),(ResultVar.tmp 7)] [[(.int .i64)],[(.int .i64)]])))) none))) none))))))):=by kernel_rfl
theorem zl2 (N:Nat) (a2:Bx) (x1 x6 x7 x8 x9:Int) (l40:List IV) (x41 x42:Int) (again:St→Res) (k:Out→St→Res):rnd (z0j N) (z0f z18 [1,1,1,0,1,0,0]) (z2d a2 x1 x6 x7 x8 x9 l40 x41 x42) (z3t again ⟨[1,5,6,7,8,9,40,41,42],[5],[]⟩ k)=(cond (decide (x42 < x41)) (cond (decide (0≤x42)&&decide (x42 < ic (List.length l40))) (cond (IV.toInt (IV.cell (List.getD l40 (Int.toNat x42) default) 0)==x1) (cond (zav (IV.toList (IV.cell (List.getD l40 (Int.toNat x42) default) 1)) 4&&z77 a2) (again (z2d a2 x1 x6 x7 (IntKind.wrap IntKind.i64 (x8+tLo (IV.toList (IV.cell (List.getD l40 (Int.toNat x42) default) 1)) a2)) (IntKind.wrap IntKind.i64 (x9+tHi (IV.toList (IV.cell (List.getD l40 (Int.toNat x42) default) 1)) a2)) l40 x41 (IntKind.wrap IntKind.i64 (x42+1)))) none) (again (z2d a2 x1 x6 x7 x8 x9 l40 x41 (IntKind.wrap IntKind.i64 (x42+1))))) none) (k (.exit 0) (z2d a2 x1 x6 x7 x8 x9 l40 x41 x42))):=by kernel_rfl
theorem zsj (N:Nat) (a2:Bx) (x1 x6 x7 x8 x9:Int) (l40:List IV) (x41 x42:Int):(z05 0 (kSq (z0j N) (z0f z18 [1,1,1,1]) (z2s (z0j N) none [(ResultVar.tmp 6),(ResultVar.tmp 7)] [[(.int .i64)],[(.int .i64)]]))) (.exit 0) (z2d a2 x1 x6 x7 x8 x9 l40 x41 x42)=(some ((.tup [(.i x8),(.i x9)]),[])):=by kernel_rfl
def z26 (N:Nat):Env:=mkE [(112,z2u),(113,zdl)] [(9,⟨[3,4,5,6,7,42,43],[3,4,5],[]⟩)] 94 N
abbrev z4x (m:Md) (a1:Qy) (a2:Bx) (b6:Bool) (x7 x42 x43:Int):St:=⟨[(3,(.ptr 3 0 0)),(4,(.ptr 4 0 0)),(5,(.ptr 5 0 0)),(6,(.bool b6)),(7,(.i x7)),(42,(.i x42)),(43,(.i x43))],[(3,(some (.box (Md.cs m)))),(4,(some (.box (Qy.cs a1)))),(5,(some (.box (Bx.cs a2))))]⟩
theorem y0n (N:Nat) (m:Md) (a1:Qy) (a2:Bx):z0z (z26 N) z38 [.tmp 6] [[.bool]] [(Md.V m),(Qy.V a1),(Bx.V a2)]=(cond (Bx.emp a2) (some ((.bool true),[])) (cond (Bx.emp a2||z77 a2) (cond (Qy.k a1==1) (cond (decide (Qy.lo a1≤sLo m (Qy.c a1) a2)) (some ((.bool (decide (sHi m (Qy.c a1) a2≤Qy.hi a1))),[])) (some ((.bool false),[]))) (cond (Qy.k a1==2) (lpE (z26 N) (z0f z38 [1,1,1,0,1,0,1,1,1,0,0,1,0,0]) ⟨[3,4,5,6,7,42,43],[3,4,5],[]⟩ N (z4x m a1 a2 false (sLo m (Qy.c a1) a2) (Md.c m) 0) (z05 1 (kSq (z26 N) (z0f z38 [1,1,1,0,1,0,1,1,1,0,1]) (z05 0 (kSq (z26 N) (z0f z38 [1,1,1,1]) (z2s (z26 N) none [(ResultVar.tmp 6)] [[.bool]])))))) (cond (decide (Qy.ft a1=ic 0)) (cond (decide (Sp.lo (Bx.s0 a2)≥Sp.hi (Bx.s4 a2))) (some ((.bool true),[])) (cond (decide (Qy.ft a1=ic 0)) (cond (Bx.emp {s0:=(Bx.s4 a2),s1:=(Bx.s1 a2),s2:=(Bx.s2 a2),s3:=(Bx.s3 a2),s4:=(Bx.s4 a2)}||z77 {s0:=(Bx.s4 a2),s1:=(Bx.s1 a2),s2:=(Bx.s2 a2),s3:=(Bx.s3 a2),s4:=(Bx.s4 a2)}) (cond (Qy.fl a1) (some ((.bool (decide (sHi m (Qy.c a1) {s0:=(Bx.s4 a2),s1:=(Bx.s1 a2),s2:=(Bx.s2 a2),s3:=(Bx.s3 a2),s4:=(Bx.s4 a2)}≤sLo m (Qy.c a1) a2))),[])) (some ((.bool (decide (sLo m (Qy.c a1) {s0:=(Bx.s4 a2),s1:=(Bx.s1 a2),s2:=(Bx.s2 a2),s3:=(Bx.s3 a2),s4:=(Bx.s4 a2)}≥sHi m (Qy.c a1) a2))),[]))) none) (cond (decide (Qy.ft a1=ic 1)) (cond (Bx.emp {s0:=(Bx.s0 a2),s1:=(Bx.s4 a2),s2:=(Bx.s2 a2),s3:=(Bx.s3 a2),s4:=(Bx.s4 a2)}||z77 {s0:=(Bx.s0 a2),s1:=(Bx.s4 a2),s2:=(Bx.s2 a2),s3:=(Bx.s3 a2),s4:=(Bx.s4 a2)}) (cond (Qy.fl a1) (some ((.bool (decide (sHi m (Qy.c a1) {s0:=(Bx.s0 a2),s1:=(Bx.s4 a2),s2:=(Bx.s2 a2),s3:=(Bx.s3 a2),s4:=(Bx.s4 a2)}≤sLo m (Qy.c a1) a2))),[])) (some ((.bool (decide (sLo m (Qy.c a1) {s0:=(Bx.s0 a2),s1:=(Bx.s4 a2),s2:=(Bx.s2 a2),s3:=(Bx.s3 a2),s4:=(Bx.s4 a2)}≥sHi m (Qy.c a1) a2))),[]))) none) (cond (decide (Qy.ft a1=ic 2)) (cond (Bx.emp {s0:=(Bx.s0 a2),s1:=(Bx.s1 a2),s2:=(Bx.s4 a2),s3:=(Bx.s3 a2),s4:=(Bx.s4 a2)}||z77 {s0:=(Bx.s0 a2),s1:=(Bx.s1 a2),s2:=(Bx.s4 a2),s3:=(Bx.s3 a2),s4:=(Bx.s4 a2)}) (cond (Qy.fl a1) (some ((.bool (decide (sHi m (Qy.c a1) {s0:=(Bx.s0 a2),s1:=(Bx.s1 a2),s2:=(Bx.s4 a2),s3:=(Bx.s3 a2),s4:=(Bx.s4 a2)}≤sLo m (Qy.c a1) a2))),[])) (some ((.bool (decide (sLo m (Qy.c a1) {s0:=(Bx.s0 a2),s1:=(Bx.s1 a2),s2:=(Bx.s4 a2),s3:=(Bx.s3 a2),s4:=(Bx.s4 a2)}≥sHi m (Qy.c a1) a2))),[]))) none) (cond (decide (Qy.ft a1=ic 3)) (cond (Bx.emp {s0:=(Bx.s0 a2),s1:=(Bx.s1 a2),s2:=(Bx.s2 a2),s3:=(Bx.s4 a2),s4:=(Bx.s4 a2)}||z77 {s0:=(Bx.s0 a2),s1:=(Bx.s1 a2),s2:=(Bx.s2 a2),s3:=(Bx.s4 a2),s4:=(Bx.s4 a2)}) (cond (Qy.fl a1) (some ((.bool (decide (sHi m (Qy.c a1) {s0:=(Bx.s0 a2),s1:=(Bx.s1 a2),s2:=(Bx.s2 a2),s3:=(Bx.s4 a2),s4:=(Bx.s4 a2)}≤sLo m (Qy.c a1) a2))),[])) (some ((.bool (decide (sLo m (Qy.c a1) {s0:=(Bx.s0 a2),s1:=(Bx.s1 a2),s2:=(Bx.s2 a2),s3:=(Bx.s4 a2),s4:=(Bx.s4 a2)}≥sHi m (Qy.c a1) a2))),[]))) none) (cond (decide (Qy.ft a1=ic 4)) (cond (Bx.emp a2||z77 a2) (cond (Qy.fl a1) (some ((.bool (decide (sHi m (Qy.c a1) a2≤sLo m (Qy.c a1) a2))),[])) (some ((.bool (decide (sLo m (Qy.c a1) a2≥sHi m (Qy.c a1) a2))),[]))) none) none)))))) (cond (decide (Qy.ft a1=ic 1)) (cond (decide (Sp.lo (Bx.s1 a2)≥Sp.hi (Bx.s4 a2))) (some ((.bool true),[])) (cond (decide (Qy.ft a1=ic 0)) (cond (Bx.emp {s0:=(Bx.s4 a2),s1:=(Bx.s1 a2),s2:=(Bx.s2 a2),s3:=(Bx.s3 a2),s4:=(Bx.s4 a2)}||z77 {s0:=(Bx.s4 a2),s1:=(Bx.s1 a2),s2:=(Bx.s2 a2),s3:=(Bx.s3 a2),s4:=(Bx.s4 a2)}) (cond (Qy.fl a1) (some ((.bool (decide (sHi m (Qy.c a1) {s0:=(Bx.s4 a2),s1:=(Bx.s1 a2),s2:=(Bx.s2 a2),s3:=(Bx.s3 a2),s4:=(Bx.s4 a2)}≤sLo m (Qy.c a1) a2))),[])) (some ((.bool (decide (sLo m (Qy.c a1) {s0:=(Bx.s4 a2),s1:=(Bx.s1 a2),s2:=(Bx.s2 a2),s3:=(Bx.s3 a2),s4:=(Bx.s4 a2)}≥sHi m (Qy.c a1) a2))),[]))) none) (cond (decide (Qy.ft a1=ic 1)) (cond (Bx.emp {s0:=(Bx.s0 a2),s1:=(Bx.s4 a2),s2:=(Bx.s2 a2),s3:=(Bx.s3 a2),s4:=(Bx.s4 a2)}||z77 {s0:=(Bx.s0 a2),s1:=(Bx.s4 a2),s2:=(Bx.s2 a2),s3:=(Bx.s3 a2),s4:=(Bx.s4 a2)}) (cond (Qy.fl a1) (some ((.bool (decide (sHi m (Qy.c a1) {s0:=(Bx.s0 a2),s1:=(Bx.s4 a2),s2:=(Bx.s2 a2),s3:=(Bx.s3 a2),s4:=(Bx.s4 a2)}≤sLo m (Qy.c a1) a2))),[])) (some ((.bool (decide (sLo m (Qy.c a1) {s0:=(Bx.s0 a2),s1:=(Bx.s4 a2),s2:=(Bx.s2 a2),s3:=(Bx.s3 a2),s4:=(Bx.s4 a2)}≥sHi m (Qy.c a1) a2))),[]))) none) (cond (decide (Qy.ft a1=ic 2)) (cond (Bx.emp {s0:=(Bx.s0 a2),s1:=(Bx.s1 a2),s2:=(Bx.s4 a2),s3:=(Bx.s3 a2),s4:=(Bx.s4 a2)}||z77 {s0:=(Bx.s0 a2),s1:=(Bx.s1 a2),s2:=(Bx.s4 a2),s3:=(Bx.s3 a2),s4:=(Bx.s4 a2)}) (cond (Qy.fl a1) (some ((.bool (decide (sHi m (Qy.c a1) {s0:=(Bx.s0 a2),s1:=(Bx.s1 a2),s2:=(Bx.s4 a2),s3:=(Bx.s3 a2),s4:=(Bx.s4 a2)}≤sLo m (Qy.c a1) a2))),[])) (some ((.bool (decide (sLo m (Qy.c a1) {s0:=(Bx.s0 a2),s1:=(Bx.s1 a2),s2:=(Bx.s4 a2),s3:=(Bx.s3 a2),s4:=(Bx.s4 a2)}≥sHi m (Qy.c a1) a2))),[]))) none) (cond (decide (Qy.ft a1=ic 3)) (cond (Bx.emp {s0:=(Bx.s0 a2),s1:=(Bx.s1 a2),s2:=(Bx.s2 a2),s3:=(Bx.s4 a2),s4:=(Bx.s4 a2)}||z77 {s0:=(Bx.s0 a2),s1:=(Bx.s1 a2),s2:=(Bx.s2 a2),s3:=(Bx.s4 a2),s4:=(Bx.s4 a2)}) (cond (Qy.fl a1) (some ((.bool (decide (sHi m (Qy.c a1) {s0:=(Bx.s0 a2),s1:=(Bx.s1 a2),s2:=(Bx.s2 a2),s3:=(Bx.s4 a2),s4:=(Bx.s4 a2)}≤sLo m (Qy.c a1) a2))),[])) (some ((.bool (decide (sLo m (Qy.c a1) {s0:=(Bx.s0 a2),s1:=(Bx.s1 a2),s2:=(Bx.s2 a2),s3:=(Bx.s4 a2),s4:=(Bx.s4 a2)}≥sHi m (Qy.c a1) a2))),[]))) none) (cond (decide (Qy.ft a1=ic 4)) (cond (Bx.emp a2||z77 a2) (cond (Qy.fl a1) (some ((.bool (decide (sHi m (Qy.c a1) a2≤sLo m (Qy.c a1) a2))),[])) (some ((.bool (decide (sLo m (Qy.c a1) a2≥sHi m (Qy.c a1) a2))),[]))) none) none)))))) (cond (decide (Qy.ft a1=ic 2)) (cond (decide (Sp.lo (Bx.s2 a2)≥Sp.hi (Bx.s4 a2))) (some ((.bool true),[])) (cond (decide (Qy.ft a1=ic 0)) (cond (Bx.emp {s0:=(Bx.s4 a2),s1:=(Bx.s1 a2),s2:=(Bx.s2 a2),s3:=(Bx.s3 a2),s4:=(Bx.s4 a2)}||z77 {s0:=(Bx.s4 a2),s1:=(Bx.s1 a2),s2:=(Bx.s2 a2),s3:=(Bx.s3 a2),s4:=(Bx.s4 a2)}) (cond (Qy.fl a1) (some ((.bool (decide (sHi m (Qy.c a1) {s0:=(Bx.s4 a2),s1:=(Bx.s1 a2),s2:=(Bx.s2 a2),s3:=(Bx.s3 a2),s4:=(Bx.s4 a2)}≤sLo m (Qy.c a1) a2))),[])) (some ((.bool (decide (sLo m (Qy.c a1) {s0:=(Bx.s4 a2),s1:=(Bx.s1 a2),s2:=(Bx.s2 a2),s3:=(Bx.s3 a2),s4:=(Bx.s4 a2)}≥sHi m (Qy.c a1) a2))),[]))) none) (cond (decide (Qy.ft a1=ic 1)) (cond (Bx.emp {s0:=(Bx.s0 a2),s1:=(Bx.s4 a2),s2:=(Bx.s2 a2),s3:=(Bx.s3 a2),s4:=(Bx.s4 a2)}||z77 {s0:=(Bx.s0 a2),s1:=(Bx.s4 a2),s2:=(Bx.s2 a2),s3:=(Bx.s3 a2),s4:=(Bx.s4 a2)}) (cond (Qy.fl a1) (some ((.bool (decide (sHi m (Qy.c a1) {s0:=(Bx.s0 a2),s1:=(Bx.s4 a2),s2:=(Bx.s2 a2),s3:=(Bx.s3 a2),s4:=(Bx.s4 a2)}≤sLo m (Qy.c a1) a2))),[])) (some ((.bool (decide (sLo m (Qy.c a1) {s0:=(Bx.s0 a2),s1:=(Bx.s4 a2),s2:=(Bx.s2 a2),s3:=(Bx.s3 a2),s4:=(Bx.s4 a2)}≥sHi m (Qy.c a1) a2))),[]))) none) (cond (decide (Qy.ft a1=ic 2)) (cond (Bx.emp {s0:=(Bx.s0 a2),s1:=(Bx.s1 a2),s2:=(Bx.s4 a2),s3:=(Bx.s3 a2),s4:=(Bx.s4 a2)}||z77 {s0:=(Bx.s0 a2),s1:=(Bx.s1 a2),s2:=(Bx.s4 a2),s3:=(Bx.s3 a2),s4:=(Bx.s4 a2)}) (cond (Qy.fl a1) (some ((.bool (decide (sHi m (Qy.c a1) {s0:=(Bx.s0 a2),s1:=(Bx.s1 a2),s2:=(Bx.s4 a2),s3:=(Bx.s3 a2),s4:=(Bx.s4 a2)}≤sLo m (Qy.c a1) a2))),[])) (some ((.bool (decide (sLo m (Qy.c a1) {s0:=(Bx.s0 a2),s1:=(Bx.s1 a2),s2:=(Bx.s4 a2),s3:=(Bx.s3 a2),s4:=(Bx.s4 a2)}≥sHi m (Qy.c a1) a2))),[]))) none) (cond (decide (Qy.ft a1=ic 3)) (cond (Bx.emp {s0:=(Bx.s0 a2),s1:=(Bx.s1 a2),s2:=(Bx.s2 a2),s3:=(Bx.s4 a2),s4:=(Bx.s4 a2)}||z77 {s0:=(Bx.s0 a2),s1:=(Bx.s1 a2),s2:=(Bx.s2 a2),s3:=(Bx.s4 a2),s4:=(Bx.s4 a2)}) (cond (Qy.fl a1) (some ((.bool (decide (sHi m (Qy.c a1) {s0:=(Bx.s0 a2),s1:=(Bx.s1 a2),s2:=(Bx.s2 a2),s3:=(Bx.s4 a2),s4:=(Bx.s4 a2)}≤sLo m (Qy.c a1) a2))),[])) (some ((.bool (decide (sLo m (Qy.c a1) {s0:=(Bx.s0 a2),s1:=(Bx.s1 a2),s2:=(Bx.s2 a2),s3:=(Bx.s4 a2),s4:=(Bx.s4 a2)}≥sHi m (Qy.c a1) a2))),[]))) none) (cond (decide (Qy.ft a1=ic 4)) (cond (Bx.emp a2||z77 a2) (cond (Qy.fl a1) (some ((.bool (decide (sHi m (Qy.c a1) a2≤sLo m (Qy.c a1) a2))),[])) (some ((.bool (decide (sLo m (Qy.c a1) a2≥sHi m (Qy.c a1) a2))),[]))) none) none)))))) (cond (decide (Qy.ft a1=ic 3)) (cond (decide (Sp.lo (Bx.s3 a2)≥Sp.hi (Bx.s4 a2))) (some ((.bool true),[])) (cond (decide (Qy.ft a1=ic 0)) (cond (Bx.emp {s0:=(Bx.s4 a2),s1:=(Bx.s1 a2),s2:=(Bx.s2 a2),s3:=(Bx.s3 a2),s4:=(Bx.s4 a2)}||z77 {s0:=(Bx.s4 a2),s1:=(Bx.s1 a2),s2:=(Bx.s2 a2),s3:=(Bx.s3 a2),s4:=(Bx.s4 a2)}) (cond (Qy.fl a1) (some ((.bool (decide (sHi m (Qy.c a1) {s0:=(Bx.s4 a2),s1:=(Bx.s1 a2),s2:=(Bx.s2 a2),s3:=(Bx.s3 a2),s4:=(Bx.s4 a2)}≤sLo m (Qy.c a1) a2))),[])) (some ((.bool (decide (sLo m (Qy.c a1) {s0:=(Bx.s4 a2),s1:=(Bx.s1 a2),s2:=(Bx.s2 a2),s3:=(Bx.s3 a2),s4:=(Bx.s4 a2)}≥sHi m (Qy.c a1) a2))),[]))) none) (cond (decide (Qy.ft a1=ic 1)) (cond (Bx.emp {s0:=(Bx.s0 a2),s1:=(Bx.s4 a2),s2:=(Bx.s2 a2),s3:=(Bx.s3 a2),s4:=(Bx.s4 a2)}||z77 {s0:=(Bx.s0 a2),s1:=(Bx.s4 a2),s2:=(Bx.s2 a2),s3:=(Bx.s3 a2),s4:=(Bx.s4 a2)}) (cond (Qy.fl a1) (some ((.bool (decide (sHi m (Qy.c a1) {s0:=(Bx.s0 a2),s1:=(Bx.s4 a2),s2:=(Bx.s2 a2),s3:=(Bx.s3 a2),s4:=(Bx.s4 a2)}≤sLo m (Qy.c a1) a2))),[])) (some ((.bool (decide (sLo m (Qy.c a1) {s0:=(Bx.s0 a2),s1:=(Bx.s4 a2),s2:=(Bx.s2 a2),s3:=(Bx.s3 a2),s4:=(Bx.s4 a2)}≥sHi m (Qy.c a1) a2))),[]))) none) (cond (decide (Qy.ft a1=ic 2)) (cond (Bx.emp {s0:=(Bx.s0 a2),s1:=(Bx.s1 a2),s2:=(Bx.s4 a2),s3:=(Bx.s3 a2),s4:=(Bx.s4 a2)}||z77 {s0:=(Bx.s0 a2),s1:=(Bx.s1 a2),s2:=(Bx.s4 a2),s3:=(Bx.s3 a2),s4:=(Bx.s4 a2)}) (cond (Qy.fl a1) (some ((.bool (decide (sHi m (Qy.c a1) {s0:=(Bx.s0 a2),s1:=(Bx.s1 a2),s2:=(Bx.s4 a2),s3:=(Bx.s3 a2),s4:=(Bx.s4 a2)}≤sLo m (Qy.c a1) a2))),[])) (some ((.bool (decide (sLo m (Qy.c a1) {s0:=(Bx.s0 a2),s1:=(Bx.s1 a2),s2:=(Bx.s4 a2),s3:=(Bx.s3 a2),s4:=(Bx.s4 a2)}≥sHi m (Qy.c a1) a2))),[]))) none) (cond (decide (Qy.ft a1=ic 3)) (cond (Bx.emp {s0:=(Bx.s0 a2),s1:=(Bx.s1 a2),s2:=(Bx.s2 a2),s3:=(Bx.s4 a2),s4:=(Bx.s4 a2)}||z77 {s0:=(Bx.s0 a2),s1:=(Bx.s1 a2),s2:=(Bx.s2 a2),s3:=(Bx.s4 a2),s4:=(Bx.s4 a2)}) (cond (Qy.fl a1) (some ((.bool (decide (sHi m (Qy.c a1) {s0:=(Bx.s0 a2),s1:=(Bx.s1 a2),s2:=(Bx.s2 a2),s3:=(Bx.s4 a2),s4:=(Bx.s4 a2)}≤sLo m (Qy.c a1) a2))),[])) (some ((.bool (decide (sLo m (Qy.c a1) {s0:=(Bx.s0 a2),s1:=(Bx.s1 a2),s2:=(Bx.s2 a2),s3:=(Bx.s4 a2),s4:=(Bx.s4 a2)}≥sHi m (Qy.c a1) a2))),[]))) none) (cond (decide (Qy.ft a1=ic 4)) (cond (Bx.emp a2||z77 a2) (cond (Qy.fl a1) (some ((.bool (decide (sHi m (Qy.c a1) a2≤sLo m (Qy.c a1) a2))),[])) (some ((.bool (decide (sLo m (Qy.c a1) a2≥sHi m (Qy.c a1) a2))),[]))) none) none)))))) (cond (decide (Qy.ft a1=ic 4)) (cond (decide (Sp.lo (Bx.s4 a2)≥Sp.hi (Bx.s4 a2))) (some ((.bool true),[])) (cond (decide (Qy.ft a1=ic 0)) (cond (Bx.emp {s0:=(Bx.s4 a2),s1:=(Bx.s1 a2),s2:=(Bx.s2 a2),s3:=(Bx.s3 a2),s4:=(Bx.s4 a2)}||z77 {s0:=(Bx.s4 a2),s1:=(Bx.s1 a2),s2:=(Bx.s2 a2),s3:=(Bx.s3 a2),s4:=(Bx.s4 a2)}) (cond (Qy.fl a1) (some ((.bool (decide (sHi m (Qy.c a1) {s0:=(Bx.s4 a2),s1:=(Bx.s1 a2),s2:=(Bx.s2 a2),s3:=(Bx.s3 a2),s4:=(Bx.s4 a2)}≤sLo m (Qy.c a1) a2))),[])) (some ((.bool (decide (sLo m (Qy.c a1) {s0:=(Bx.s4 a2),s1:=(Bx.s1 a2),s2:=(Bx.s2 a2),s3:=(Bx.s3 a2),s4:=(Bx.s4 a2)}≥sHi m (Qy.c a1) a2))),[]))) none) (cond (decide (Qy.ft a1=ic 1)) (cond (Bx.emp {s0:=(Bx.s0 a2),s1:=(Bx.s4 a2),s2:=(Bx.s2 a2),s3:=(Bx.s3 a2),s4:=(Bx.s4 a2)}||z77 {s0:=(Bx.s0 a2),s1:=(Bx.s4 a2),s2:=(Bx.s2 a2),s3:=(Bx.s3 a2),s4:=(Bx.s4 a2)}) (cond (Qy.fl a1) (some ((.bool (decide (sHi m (Qy.c a1) {s0:=(Bx.s0 a2),s1:=(Bx.s4 a2),s2:=(Bx.s2 a2),s3:=(Bx.s3 a2),s4:=(Bx.s4 a2)}≤sLo m (Qy.c a1) a2))),[])) (some ((.bool (decide (sLo m (Qy.c a1) {s0:=(Bx.s0 a2),s1:=(Bx.s4 a2),s2:=(Bx.s2 a2),s3:=(Bx.s3 a2),s4:=(Bx.s4 a2)}≥sHi m (Qy.c a1) a2))),[]))) none) (cond (decide (Qy.ft a1=ic 2)) (cond (Bx.emp {s0:=(Bx.s0 a2),s1:=(Bx.s1 a2),s2:=(Bx.s4 a2),s3:=(Bx.s3 a2),s4:=(Bx.s4 a2)}||z77 {s0:=(Bx.s0 a2),s1:=(Bx.s1 a2),s2:=(Bx.s4 a2),s3:=(Bx.s3 a2),s4:=(Bx.s4 a2)}) (cond (Qy.fl a1) (some ((.bool (decide (sHi m (Qy.c a1) {s0:=(Bx.s0 a2),s1:=(Bx.s1 a2),s2:=(Bx.s4 a2),s3:=(Bx.s3 a2),s4:=(Bx.s4 a2)}≤sLo m (Qy.c a1) a2))),[])) (some ((.bool (decide (sLo m (Qy.c a1) {s0:=(Bx.s0 a2),s1:=(Bx.s1 a2),s2:=(Bx.s4 a2),s3:=(Bx.s3 a2),s4:=(Bx.s4 a2)}≥sHi m (Qy.c a1) a2))),[]))) none) (cond (decide (Qy.ft a1=ic 3)) (cond (Bx.emp {s0:=(Bx.s0 a2),s1:=(Bx.s1 a2),s2:=(Bx.s2 a2),s3:=(Bx.s4 a2),s4:=(Bx.s4 a2)}||z77 {s0:=(Bx.s0 a2),s1:=(Bx.s1 a2),s2:=(Bx.s2 a2),s3:=(Bx.s4 a2),s4:=(Bx.s4 a2)}) (cond (Qy.fl a1) (some ((.bool (decide (sHi m (Qy.c a1) {s0:=(Bx.s0 a2),s1:=(Bx.s1 a2),s2:=(Bx.s2 a2),s3:=(Bx.s4 a2),s4:=(Bx.s4 a2)}≤sLo m (Qy.c a1) a2))),[])) (some ((.bool (decide (sLo m (Qy.c a1) {s0:=(Bx.s0 a2),s1:=(Bx.s1 a2),s2:=(Bx.s2 a2),s3:=(Bx.s4 a2),s4:=(Bx.s4 a2)}≥sHi m (Qy.c a1) a2))),[]))) none) (cond (decide (Qy.ft a1=ic 4)) (cond (Bx.emp a2||z77 a2) (cond (Qy.fl a1) (some ((.bool (decide (sHi m (Qy.c a1) a2≤sLo m (Qy.c a1) a2))),[])) (some ((.bool (decide (sLo m (Qy.c a1) a2≥sHi m (Qy.c a1) a2))),[]))) none) none)))))) none))))))) none)):=by kernel_rfl
theorem zj7 (N:Nat) (m:Md) (a1:Qy) (a2:Bx) (b6:Bool) (x7 x42 x43:Int) (again:St→Res) (k:Out→St→Res):rnd (z26 N) (z0f z38 [1,1,1,0,1,0,1,1,1,0,0,1,0,0]) (z4x m a1 a2 b6 x7 x42 x43) (z3t again ⟨[3,4,5,6,7,42,43],[3,4,5],[]⟩ k)=(cond (decide (x43 < x42)) (cond (Bx.emp a2||z77 a2) (cond (x43 != Qy.c a1) (cond (decide (sHi m x43 a2≥x7)) (k .ret (z4x m a1 a2 false x7 x42 x43)) (again (z4x m a1 a2 b6 x7 x42 (IntKind.wrap IntKind.i64 (x43+1))))) (again (z4x m a1 a2 b6 x7 x42 (IntKind.wrap IntKind.i64 (x43+1))))) none) (k (.exit 1) (z4x m a1 a2 b6 x7 x42 x43))):=by kernel_rfl
theorem zov (N:Nat) (m:Md) (a1:Qy) (a2:Bx) (b6:Bool) (x7 x42 x43:Int):(z05 1 (kSq (z26 N) (z0f z38 [1,1,1,0,1,0,1,1,1,0,1]) (z05 0 (kSq (z26 N) (z0f z38 [1,1,1,1]) (z2s (z26 N) none [(ResultVar.tmp 6)] [[.bool]]))))) (.exit 1) (z4x m a1 a2 b6 x7 x42 x43)=(some ((.bool true),[])):=by kernel_rfl
theorem zpp (N:Nat) (m:Md) (a1:Qy) (a2:Bx) (b6:Bool) (x7 x42 x43:Int):(z05 1 (kSq (z26 N) (z0f z38 [1,1,1,0,1,0,1,1,1,0,1]) (z05 0 (kSq (z26 N) (z0f z38 [1,1,1,1]) (z2s (z26 N) none [(ResultVar.tmp 6)] [[.bool]]))))) .ret (z4x m a1 a2 b6 x7 x42 x43)=(some ((.bool b6),[])):=by kernel_rfl
def z15 (N:Nat):Env:=mkE [(69,zlh),(68,zbl),(67,zdw),(70,z71),(65,z2k),(66,z89)] [(8,⟨[3,4,6,9,29,30,31],[3,4],[]⟩)] 59 N
abbrev z4d (m:Md) (q:Qy) (b6 b9:Bool) (l29:List IV) (x30 x31:Int):St:=⟨[(3,(.ptr 3 0 0)),(4,(.ptr 4 0 0)),(6,(.bool b6)),(9,(.bool b9)),(29,(.list true zch l29)),(30,(.i x30)),(31,(.i x31))],[(3,(some (.box (Md.cs m)))),(4,(some (.box (Qy.cs q))))]⟩
theorem zwb (N:Nat) (m:Md) (q:Qy) (v:Vd):z0z (z15 N) z1n [.tmp 6] [[.bool]] [(Md.V m),(Qy.V q),(Vd.V v)]=(cond (!z2b m q) (some ((.bool false),[])) (cond (Vd.kind v==1) (cond (Option.isSome (psF (z4f q) (Vd.proof v))) (lpE (z15 N) (z0f z1n [1,1,1,0,1,0,1,0,1,0,1,0,0]) ⟨[3,4,6,9,29,30,31],[3,4],[]⟩ N (z4d m q false true (Option.getD (psF (z4f q) (Vd.proof v)) []) (ic (List.length (Option.getD (psF (z4f q) (Vd.proof v)) []))) 0) (z05 1 (kSq (z15 N) (z0f z1n [1,1,1,0,1,0,1,0,1,1]) (z05 0 (kSq (z15 N) (z0f z1n [1,1,1,1]) (z2s (z15 N) none [(ResultVar.tmp 6)] [[.bool]])))))) (lpE (z15 N) (z0f z1n [1,1,1,0,1,0,1,0,1,0,1,0,0]) ⟨[3,4,6,9,29,30,31],[3,4],[]⟩ N (z4d m q false false [] (ic 0) 0) (z05 1 (kSq (z15 N) (z0f z1n [1,1,1,0,1,0,1,0,1,1]) (z05 0 (kSq (z15 N) (z0f z1n [1,1,1,1]) (z2s (z15 N) none [(ResultVar.tmp 6)] [[.bool]]))))))) (cond (Vd.kind v==2) (cond (Bx.has (z4f q) {p0:=Vd.w0 v,p1:=Vd.w1 v,p2:=Vd.w2 v,p3:=Vd.w3 v} (Vd.twin v)) (some ((.bool (z3u m q {p0:=Vd.w0 v,p1:=Vd.w1 v,p2:=Vd.w2 v,p3:=Vd.w3 v} (Vd.twin v))),[])) (some ((.bool false),[]))) (some ((.bool false),[]))))):=by kernel_rfl
theorem zcq (N:Nat) (m:Md) (q:Qy) (b6 b9:Bool) (l29:List IV) (x30 x31:Int) (again:St→Res) (k:Out→St→Res):rnd (z15 N) (z0f z1n [1,1,1,0,1,0,1,0,1,0,1,0,0]) (z4d m q b6 b9 l29 x30 x31) (z3t again ⟨[3,4,6,9,29,30,31],[3,4],[]⟩ k)=(cond (decide (x31 < x30)) (cond (decide (0≤x31)&&decide (x31 < ic (List.length l29))) (cond (z2b m q&&(Bx.emp (bxI (List.getD l29 (Int.toNat x31) default))||z77 (bxI (List.getD l29 (Int.toNat x31) default)))) (cond (!z2r m q (bxI (List.getD l29 (Int.toNat x31) default))) (k .ret (z4d m q false b9 l29 x30 x31)) (again (z4d m q b6 b9 l29 x30 (IntKind.wrap IntKind.i64 (x31+1))))) none) none) (k (.exit 1) (z4d m q b6 b9 l29 x30 x31))):=by kernel_rfl
theorem zf4 (N:Nat) (m:Md) (q:Qy) (b6 b9:Bool) (l29:List IV) (x30 x31:Int):(z05 1 (kSq (z15 N) (z0f z1n [1,1,1,0,1,0,1,0,1,1]) (z05 0 (kSq (z15 N) (z0f z1n [1,1,1,1]) (z2s (z15 N) none [(ResultVar.tmp 6)] [[.bool]]))))) (.exit 1) (z4d m q b6 b9 l29 x30 x31)=(some ((.bool b9),[])):=by kernel_rfl
theorem zn9 (N:Nat) (m:Md) (q:Qy) (b6 b9:Bool) (l29:List IV) (x30 x31:Int):(z05 1 (kSq (z15 N) (z0f z1n [1,1,1,0,1,0,1,0,1,1]) (z05 0 (kSq (z15 N) (z0f z1n [1,1,1,1]) (z2s (z15 N) none [(ResultVar.tmp 6)] [[.bool]]))))) .ret (z4d m q b6 b9 l29 x30 x31)=(some ((.bool b6),[])):=by kernel_rfl
open Go Go.Proofs
theorem zyk:z32 PR B0 192 zcd:=by
 refine z0h [] [] zcd [[.bool]] Tryz.func192 y61 trivial ?_;intro vs r hwf h;unfold zcd at h
 split at h
 ·rename_i s p a
  rw [R.get_ok] at h;refine ⟨0,(y07 0 s p a).trans ?_⟩;rw [← h];unfold z6c;show _=some (V.bool (cond s (p==0&&a==0) (decide (0≤p)&&decide (p≤4))),[]);cases s with
  | true=>
   simp only [v1e,v1d]
   rfl
  | false=>
   simp only [v18]
   by_cases hp:0≤p
   ·rw [v01 (show p≥0 from hp)]; rfl
   ·rw [v05 (show ¬ p≥0 from hp)]; rfl
 ·simp [R.get] at h
def ys4 (o:Option (Int × Int)):Int:=match o with
 | some st=>cond (!(st.1==0)||decide (st.2 > 200)) 0 st.2
 | none=>0
theorem y5i (N:Nat) (l:List IV) (K:Out→St→Res) (hl:l.length≤65536)
  (hx:∀ x2 x3 x4 x11 x12,K (.exit 0) ⟨[(2,(.int .i64 x2)),(3,(.int .i64 x3)),(4,(.int .i64 x4)),(10,(.list true z1k l)),(11,(.int .i64 x11)),(12,(.int .i64 x12))],[]⟩=cond (x3 != 0) (some ((.int .i64 0),[])) (cond (decide (x4 > 200)) (some ((.int .i64 0),[])) (some ((.int .i64 x4),[]))))
  (hr:∀ x2 x3 x4 x11 x12,K .ret ⟨[(2,(.int .i64 x2)),(3,(.int .i64 x3)),(4,(.int .i64 x4)),(10,(.list true z1k l)),(11,(.int .i64 x11)),(12,(.int .i64 x12))],[]⟩=some (.int .i64 x2,[])) :
  ∀ (d i n:Nat) (left most:Int),i+d=l.length→d < n→0≤left→left≤i+1 →
   lpE (z5u N) (z0f z7l [1,1,1,0,1,0,0]) ⟨[2,3,4,10,11,12],[],[]⟩ n ⟨[(2,(.int .i64 0)),(3,(.int .i64 left)),(4,(.int .i64 most)),(10,(.list true z1k l)),(11,(.int .i64 (ic l.length))),(12,(.int .i64 (i:Int)))],[]⟩ K=some (.int .i64 (ys4 (zz3 (l.drop i) (left,most))),[])
 | d,i,0,_,_,_,h,_,_=>absurd h (by omega)
 | 0,i,n+1,left,most,hd,_,_,_=>by
  rw [z06,zk2,zdj (by omega),z01,hx,v1i (by omega)]
  show _=some (V.int .i64 (cond (!(left==0)||decide (most > 200)) 0 most),[])
  have:(left != 0)=!(left==0):=rfl
  rw [this];cases left==0 <;> cases decide (most > 200) <;> rfl
 | d+1,i,n+1,left,most,hd,hn,h0,h1=>by
  have hi:i < l.length:=by omega
  rw [z06,zk2,zbm hi,z00,zjl,v0w,z00,z7r (by omega),zda hi,v0m hi,zz3]
  unfold zds;have er:z6c (stI (IV.toBool (IV.cell l[i] 0)) (IV.toInt (IV.cell l[i] 1)) (IV.toInt (IV.cell l[i] 2)))=z6c l[i]:=rfl;have es:IV.toBool (IV.cell l[i] 0)=z9d l[i]:=rfl;rw [er,es];generalize l[i]=x;cases hz:(left==0) with
  | true=>rw [z00,hr]; rfl
  | false=>
   have hne:left≠0:=by simpa using hz
   rw [z01];cases z6c x with
   | false=>rw [v0j,z00,hr]; rfl
   | true=>
    rw [v0e,z01,v3s,z01];cases z9d x with
    | true=>
     rw [z00,z00,show IntKind.wrap IntKind.i64 (left - 1)=left - 1 from z0s (by omega) (by omega)]
     exact y5i N l K hl hx hr d (i+1) n (left - 1) most (by omega) (by omega) (by omega) (by omega)
    | false=>
     rw [z01,z01,show IntKind.wrap IntKind.i64 (left+1)=left+1 from z0s (by omega) (by omega)]
     exact y5i N l K hl hx hr d (i+1) n (left+1) _ (by omega) (by omega) (by omega) (by omega)
theorem zzd:z32 PR B0 156 ze5:=by
 refine z0h [(192,zcd)] [(5,⟨[2,3,4,10,11,12],[],[]⟩)] ze5 [[.int .i64]] Tryz.func156 y9i ⟨zyk,trivial⟩ ?_;intro vs r hwf h;unfold ze5 at h
 split at h
 ·rename_i l
  rw [R.get_ok] at h;refine ⟨l.length+1,(y58 (l.length+1) l).trans ?_⟩;rw [← h];unfold zio
  by_cases hl:l.length≤65536
  ·rw [v05 (show ¬ ic l.length > 65536 by simp only [ic]; omega),z01,z01]
   have:=y5i (l.length+1) l _ hl (fun x2 x3 x4 x11 x12=>zsm (l.length+1) x2 x3 x4 l x11 x12) (fun x2 x3 x4 x11 x12=>zrt (l.length+1) x2 x3 x4 l x11 x12) l.length 0 (l.length+1) 1 1 (by omega) (by omega) (by omega) (by omega)
   rw [v0z] at this;exact this
  ·rw [v01 (show ic l.length > 65536 by simp only [ic]; omega)]
   rfl
 ·simp [R.get] at h
theorem zyp:z32 PR B0 110 zbk:=by
 refine z0h [(156,ze5)] [] zbk [[.bool]] Tryz.func110 y57 ⟨zzd,trivial⟩ ?_;intro vs r hwf h;unfold zbk at h
 split at h
 ·rename_i l
  rw [R.get_ok] at h;exact ⟨0,(zzy 0 l).trans h⟩
 ·simp [R.get] at h
theorem ytp (b:Bx) (p:Pt) (t:Int):z0z (yky 6) y7a [.tmp 6] [[.bool]] [b.V,p.V,.int .i64 t] =
 cond (!b.s0.has p.p0) (some (.bool false,[])) (cond (!b.s1.has p.p1) (some (.bool false,[])) (cond (!b.s2.has p.p2) (some (.bool false,[])) (cond (!b.s3.has p.p3) (some (.bool false,[])) (some (.bool (b.s4.has t),[]))))):=by kernel_rfl
theorem ydt:z32 PR B0 69 zlh:=by
 refine z0h [(114,zcs)] [(2,⟨[2,3,6,9,10],[3],[]⟩)] zlh [[.bool]] Tryz.func69 yma ⟨zsw,trivial⟩ ?_;intro vs r hwf h;unfold zlh at h
 split at h
 ·rename_i b p t
  replace h:=z3i h;obtain ⟨b,rfl,h⟩:=h;replace h:=zff h;obtain ⟨p,rfl,h⟩:=h;rw [R.get_ok] at h;refine ⟨6,(ytp b p t).trans ?_⟩;rw [← h];unfold Bx.has;cases b.s0.has p.p0 <;> cases b.s1.has p.p1 <;> cases b.s2.has p.p2 <;> cases b.s3.has p.p3 <;> rfl
 ·simp [R.get] at h
open Go
theorem zj6 {s:Sp} {n:Int}:s.has n=true↔s.lo≤n∧n≤s.hi:=by
 unfold Sp.has;rw [v02,v07,v07]
theorem ytj {s:Sp}:s.emp=false↔s.lo≤s.hi:=by
 unfold Sp.emp;rw [v15];omega
theorem yfq {lo hi n:Int}:(yc8 lo hi).has n=true↔lo≤n∧n≤hi:=by
 unfold yc8;cases hd:decide (lo > hi) with
 | true=>
  have:=v0c hd
  rw [z00,zj6];show (1:Int)≤n∧n≤0↔_;omega
 | false=>rw [z01,zj6]
theorem y5q {s:Sp} {a n:Int}:(s.cutL a).has n=true↔s.has n=true∧n≤a:=by
 unfold Sp.cutL;rw [yfq,zj6];omega
theorem y5n {s:Sp} {a n:Int} (ha : -9223372036854775808≤a) (hs:s.hi≤9223372036854775807):(s.cutH a).has n=true↔s.has n=true∧a < n:=by
 unfold Sp.cutH;cases hd:decide (a≥s.hi) with
 | true=>
  have:=v0c hd
  rw [z00,zj6,zj6];show (1:Int)≤n∧n≤0↔_;omega
 | false=>
  have:=v0r hd
  have e:zex (a+1)=a+1:=z0s (by omega) (by omega)
  rw [z01,yfq,zj6,e];omega
def co (p:Pt) (t:Int):Nat→Int
 | 0=>p.p0
 | 1=>p.p1
 | 2=>p.p2
 | 3=>p.p3
 | _=>t
theorem zmj {b:Bx} {p:Pt} {t:Int}:b.has p t=true↔∀ i,i < 5→(b.g i).has (co p t i)=true:=by
 unfold Bx.has;simp only [v02];constructor
 ·rintro ⟨h0,h1,h2,h3,h4⟩ i hi
  match i,hi with
  | 0,_=>exact h0
  | 1,_=>exact h1
  | 2,_=>exact h2
  | 3,_=>exact h3
  | 4,_=>exact h4
  | i+5,h=>exact absurd h (by omega)
 ·intro h
  exact ⟨h 0 (by omega),h 1 (by omega),h 2 (by omega),h 3 (by omega),h 4 (by omega)⟩
theorem yjc {b:Bx}:b.emp=false↔∀ i,i < 5→(b.g i).lo≤(b.g i).hi:=by
 unfold Bx.emp;simp only [v1z,ytj];constructor
 ·rintro ⟨h0,h1,h2,h3,h4⟩ i hi
  match i,hi with
  | 0,_=>exact h0
  | 1,_=>exact h1
  | 2,_=>exact h2
  | 3,_=>exact h3
  | 4,_=>exact h4
  | i+5,h=>exact absurd h (by omega)
 ·intro h
  exact ⟨h 0 (by omega),h 1 (by omega),h 2 (by omega),h 3 (by omega),h 4 (by omega)⟩
theorem zej (b:Bx) (s:Sp):∀ {i j:Nat},i < 5→j < 5→(b.p s i).g j=if j=i then s else b.g j
 | 0,0,_,_=>rfl
 | 0,1,_,_=>rfl
 | 0,2,_,_=>rfl
 | 0,3,_,_=>rfl
 | 0,4,_,_=>rfl
 | 1,0,_,_=>rfl
 | 1,1,_,_=>rfl
 | 1,2,_,_=>rfl
 | 1,3,_,_=>rfl
 | 1,4,_,_=>rfl
 | 2,0,_,_=>rfl
 | 2,1,_,_=>rfl
 | 2,2,_,_=>rfl
 | 2,3,_,_=>rfl
 | 2,4,_,_=>rfl
 | 3,0,_,_=>rfl
 | 3,1,_,_=>rfl
 | 3,2,_,_=>rfl
 | 3,3,_,_=>rfl
 | 3,4,_,_=>rfl
 | 4,0,_,_=>rfl
 | 4,1,_,_=>rfl
 | 4,2,_,_=>rfl
 | 4,3,_,_=>rfl
 | 4,4,_,_=>rfl
 | i+5,_,h,_=>absurd h (by omega)
 | _,j+5,_,h=>absurd h (by omega)
def Bx.ok (b:Bx):Prop:=∀ i,i < 5→(b.g i).hi≤2147483647
theorem y20 (b:Bx) (h:b.emp=false):b.has b.low b.s4.hi=true:=by
 rw [yjc] at h;rw [zmj];intro i hi;rw [zj6]
 have:=h i hi
 match i,hi with
 | 0,_=>exact ⟨v2b _,this⟩
 | 1,_=>exact ⟨v2b _,this⟩
 | 2,_=>exact ⟨v2b _,this⟩
 | 3,_=>exact ⟨v2b _,this⟩
 | 4,_=>exact ⟨this,v2b _⟩
 | i+5,h=>exact absurd h (by omega)
theorem y34 {b:Bx} {p:Pt} {t:Int} (h:b.has p t=true):b.emp=false:=by
 rw [zmj] at h;rw [yjc];intro i hi
 have:=zj6.1 (h i hi)
 omega
theorem yck {b:Bx} {i:Nat} (hi:i < 5) {a:Int} {p:Pt} {t:Int}:(b.cutL (i:Int) a).has p t=true↔b.has p t=true∧co p t i≤a:=by
 unfold Bx.cutL;rw [v0g,zmj,zmj];constructor
 ·intro h
  refine ⟨fun j hj=>?_,?_⟩
  ·have:=h j hj
   rw [zej b _ hi hj] at this
   by_cases e:j=i
   ·rw [v1b e,y5q] at this
    rw [e] at this ⊢
    exact this.1
   ·rw [v0y e] at this
    exact this
  ·have:=h i hi
   rw [zej b _ hi hi,v1b rfl,y5q] at this;exact this.2
 ·rintro ⟨h,ha⟩ j hj
  rw [zej b _ hi hj]
  by_cases e:j=i
  ·rw [v1b e,y5q,e]
   exact ⟨h i hi,ha⟩
  ·rw [v0y e]
   exact h j hj
theorem ye3 {b:Bx} (hb:b.ok) {i:Nat} (hi:i < 5) {a:Int} (ha : -2147483648≤a) {p:Pt} {t:Int}:(b.cutH (i:Int) a).has p t=true↔b.has p t=true∧a < co p t i:=by
 have hs:=hb i hi;unfold Bx.cutH;rw [v0g,zmj,zmj];constructor
 ·intro h
  refine ⟨fun j hj=>?_,?_⟩
  ·have:=h j hj
   rw [zej b _ hi hj] at this
   by_cases e:j=i
   ·rw [v1b e,y5n (by omega) (by omega)] at this
    rw [e] at this ⊢
    exact this.1
   ·rw [v0y e] at this
    exact this
  ·have:=h i hi
   rw [zej b _ hi hi,v1b rfl,y5n (by omega) (by omega)] at this
   exact this.2
 ·rintro ⟨h,ha'⟩ j hj
  rw [zej b _ hi hj]
  by_cases e:j=i
  ·rw [v1b e,y5n (by omega) (by omega),e]
   exact ⟨h i hi,ha'⟩
  ·rw [v0y e]
   exact h j hj
theorem yl6 {lo hi:Int} (h:hi≤2147483647):(yc8 lo hi).hi≤2147483647:=by
 unfold yc8;cases decide (lo > hi) with
 | true=>rw [z00]; show (0:Int)≤_; omega
 | false=>exact h
theorem ytx {b:Bx} (hb:b.ok) {s:Sp} (hs:s.hi≤2147483647) {i:Nat} (hi:i < 5):(b.p s i).ok:=by
 intro j hj;rw [zej b _ hi hj]
 split
 ·exact hs
 ·exact hb j hj
theorem yj5 {b:Bx} (hb:b.ok) {i:Nat} (hi:i < 5) (a:Int):(b.cutL (i:Int) a).ok:=by
 unfold Bx.cutL;rw [v0g];refine ytx hb ?_ hi;unfold Sp.cutL;exact yl6 (by have:=hb i hi; omega)
theorem yke {b:Bx} (hb:b.ok) {i:Nat} (hi:i < 5) (a:Int):(b.cutH (i:Int) a).ok:=by
 unfold Bx.cutH;rw [v0g];refine ytx hb ?_ hi;unfold Sp.cutH;cases decide (a≥(b.g i).hi) with
 | true=>rw [z00]; show (0:Int)≤_; omega
 | false=>exact yl6 (hb i hi)
theorem zv8 (b:Bx):bxI b.I=b:=rfl
theorem y6m (p:Pt) (t:Int):∀ {i:Nat},i < 4→co p t i=p.g i
 | 0,_=>rfl
 | 1,_=>rfl
 | 2,_=>rfl
 | 3,_=>rfl
 | i+4,h=>absurd h (by omega)
abbrev nd (l:List IV) (i:Nat):Nd:=z07 (l.getD i default).toInt
def ye6 (l:List IV) (k j:Nat):Prop:=(nd l k).lf=false∧((nd l k).l=(j:Int)∨(nd l k).r=(j:Int))
structure TreeOK (l:List IV):Prop where
 len:1≤l.length∧l.length≤31
 node:∀ k,k < l.length→zbi (l.getD k default).toInt=true
 fork:∀ k,k < l.length→(nd l k).lf=false→(0≤(nd l k).f∧(nd l k).f < 4)∧z2c (nd l k).a=true∧((k:Int) < (nd l k).l∧(nd l k).l < ic l.length)∧((k:Int) < (nd l k).r∧(nd l k).r < ic l.length)∧(nd l k).l≠(nd l k).r
 parent:∀ j,1≤j→j < l.length→∃ k,k < l.length∧ye6 l k j
 alone:∀ j k k',1≤j→j < l.length→k < l.length→k' < l.length→ye6 l k j→ye6 l k' j→k=k'
theorem yte {l:List Nat}:∀ {k a:Nat},l[k]?=some a→a≤l.sum:=by
 induction l with
 | nil=>intro k a h; simp at h
 | cons x r ih=>
  intro k a h;cases k with
  | zero=>simp at h; simp; omega
  | succ k=>have:=ih (k:=k) (a:=a) (by simpa using h); simp; omega
theorem ym4 {l:List Nat}:∀ {k k' a b:Nat},k < k'→l[k]?=some a→l[k']?=some b→a+b≤l.sum:=by
 induction l with
 | nil=>intro k k' a b _ h; simp at h
 | cons x r ih=>
  intro k k' a b hk h h';cases k with
  | zero=>
   cases k' with
   | zero=>omega
   | succ k'=>
    have:=yte (l:=r) (k:=k') (a:=b) (by simpa using h')
    simp at h;simp;omega
  | succ k=>
   cases k' with
   | zero=>omega
   | succ k'=>
    have:=ih (k:=k) (k':=k') (a:=a) (b:=b) (by omega) (by simpa using h) (by simpa using h')
    simp;omega
theorem ys2 {l:List Nat}:0 < l.sum→∃ (k a:Nat),l[k]?=some a∧0 < a:=by
 induction l with
 | nil=>intro h; simp at h
 | cons x r ih=>
  intro h
  by_cases hx:0 < x
  ·exact ⟨0,x,rfl,hx⟩
  ·obtain ⟨k,a,hk,ha⟩:=ih (by simp at h; omega)
   exact ⟨k+1,a,by simpa using hk,ha⟩
theorem zqs {x:Nd} {j:Nat}:0 < zgs x j↔x.lf=false∧(x.l=(j:Int)∨x.r=(j:Int)):=by
 unfold zgs;cases x.lf with
 | true=>simp
 | false=>
  rw [z01]
  by_cases h1:x.l=(j:Int) <;> by_cases h2:x.r=(j:Int) <;> simp [h1,h2]
theorem zw5 {l:List IV} {k:Nat} (h:k < l.length):l.getD k default=l[k]:=by simp [h]
theorem zvi {l:List IV} (h:zav l 4=true):TreeOK l:=by
 have key:∀ {dim n:Int} {l:List IV} {i k:Nat} (hk:k < l.length),zf5 dim n i l=true→zbi (l[k]).toInt=true∧y38 dim n (i+k) (z07 (l[k]).toInt)=true:=by
  intro dim n l
  induction l with
  | nil=>intro i k hk; exact absurd hk (Nat.not_lt_zero k)
  | cons w r ih=>
   intro i k hk h;rw [zf5] at h;simp only [v02] at h;cases k with
   | zero=>exact h.1
   | succ k=>
    have:=ih (k:=k) (by simpa using hk) h.2
    rw [show i+1+k=i+(k+1) by omega] at this
    exact this
 unfold zav at h;simp only [v02] at h;obtain ⟨⟨h1,h31⟩,hn,ho⟩:=h;have hlen:=v04 h1;have once:∀ j,1≤j→j < l.length→z70 l j=1:=fun j hj hjl=>by
  unfold ym0 at ho;rw [v35] at ho
  have:=ho (j - 1) (List.mem_range.2 (by omega))
  rw [show j - 1+1=j by omega] at this
  simpa using this
 have at_:∀ k (hk:k < l.length) j,(l.map fun w=>zgs (z07 w.toInt) j)[k]?=some (zgs (nd l k) j):=fun k hk j=>by
  rw [v11,v0h hk];unfold nd;rw [zw5 hk]
  rfl
 refine ⟨⟨hlen,v04 h31⟩,fun k hk=>by rw [zw5 hk]; exact (key hk hn).1,fun k hk hl=>?_,fun j hj hjl=>?_,fun j k k' hj hjl hk hk' hn1 hn2=>?_⟩
 ·have h2:=(key hk hn).2
  have h3:=(key hk hn).1;rw [v0p] at h2;unfold nd at hl ⊢
  rw [zw5 hk] at hl ⊢
  unfold y38 at h2;rw [hl,z01] at h2;simp only [v02,v12,v15,v0v] at h2;obtain ⟨q1,q2,q3,q4⟩:=h2;have hr:=(zww h3).2;unfold zcy zpw at hr;rw [hl,z01] at hr;simp only [v02,v07] at hr;exact ⟨⟨hr.2.1,hr.2.2.1⟩,hr.2.2.2.1,⟨by omega,by simp only [ic] at q4 ⊢; omega⟩,⟨by omega,by simp only [ic] at q4 ⊢; omega⟩,q2⟩
 ·have h2:=once j hj hjl
  unfold z70 at h2;obtain ⟨k,a,hk,ha⟩:=ys2 (l:=l.map fun w=>zgs (z07 w.toInt) j) (by omega)
  have hkl:k < l.length:=by
   have:=(List.getElem?_eq_some_iff.1 hk).1
   simpa using this
  rw [at_ k hkl j] at hk;simp only [v00] at hk;subst hk;exact ⟨k,hkl,zqs.1 ha⟩
 ·have h2:=once j hj hjl
  unfold z70 at h2;have p1:0 < zgs (nd l k) j:=zqs.2 hn1;have p2:0 < zgs (nd l k') j:=zqs.2 hn2;rcases Nat.lt_trichotomy k k' with hlt | heq | hlt
  ·have:=ym4 hlt (at_ k hk j) (at_ k' hk' j)
   omega
  ·exact heq
  ·have:=ym4 hlt (at_ k' hk' j) (at_ k hk j)
   omega
def yl8 (l:List IV) (p:Pt) (i:Nat):Int:=(zv9 l p 31 (i:Int)).2.v
theorem y5l {l:List IV} (h:TreeOK l) (p:Pt) {i:Nat} (hi:i < l.length) (n:Nat):zv9 l p (n+1) (i:Int) =
  cond (nd l i).lf ((i:Int),nd l i) (cond (decide (p.g (nd l i).f.toNat≤(nd l i).a)) (zv9 l p n (nd l i).l) (zv9 l p n (nd l i).r)):=by
 rw [zv9,v05 (show ¬ (i:Int)≥ic l.length by simp only [ic]; omega),z01,v0g,h.node i hi,v0e,z01]
theorem zpn {l:List IV} (h:TreeOK l) (p:Pt):∀ (n n' i:Nat),i < l.length→l.length - i≤n→l.length - i≤n'→zv9 l p n (i:Int)=zv9 l p n' (i:Int)
 | 0,_,i,hi,h1,_=>absurd h1 (by omega)
 | _+1,0,i,hi,_,h2=>absurd h2 (by omega)
 | n+1,n'+1,i,hi,h1,h2=>by
  rw [y5l h p hi,y5l h p hi];cases hl:(nd l i).lf with
  | true=>rfl
  | false=>
   obtain ⟨_,_,⟨a1,a2⟩,⟨b1,b2⟩,_⟩:=h.fork i hi hl;simp only [ic] at a2 b2;rw [z01,z01];cases decide (p.g (nd l i).f.toNat≤(nd l i).a) with
   | true=>
    have e:(nd l i).l=(((nd l i).l.toNat:Nat):Int):=by omega
    rw [z00,z00,e];exact zpn h p n n' _ (by omega) (by omega) (by omega)
   | false=>
    have e:(nd l i).r=(((nd l i).r.toNat:Nat):Int):=by omega
    rw [z01,z01,e];exact zpn h p n n' _ (by omega) (by omega) (by omega)
theorem ygl {l:List IV} (h:TreeOK l) (p:Pt) {i:Nat} (hi:i < l.length) (hl:(nd l i).lf=true):yl8 l p i=(nd l i).v:=by
 unfold yl8;rw [y5l h p hi,hl,z00]
theorem yfu {l:List IV} (h:TreeOK l) (p:Pt) {i:Nat} (hi:i < l.length) (hl:(nd l i).lf=false):yl8 l p i=yl8 l p (cond (decide (p.g (nd l i).f.toNat≤(nd l i).a)) (nd l i).l.toNat (nd l i).r.toNat):=by
 obtain ⟨_,_,⟨a1,a2⟩,⟨b1,b2⟩,_⟩:=h.fork i hi hl;have h31:=h.len.2;simp only [ic] at a2 b2;unfold yl8;rw [y5l h p hi,hl,z01];cases decide (p.g (nd l i).f.toNat≤(nd l i).a) with
 | true=>
  rw [z00,z00];have e:(nd l i).l=(((nd l i).l.toNat:Nat):Int):=by omega
  rw [e,v0g];rw [zpn h p 30 31 _ (by omega) (by omega) (by omega)]
 | false=>
  rw [z01,z01];have e:(nd l i).r=(((nd l i).r.toNat:Nat):Int):=by omega
  rw [e,v0g];rw [zpn h p 30 31 _ (by omega) (by omega) (by omega)]
theorem ysn (l:List IV) (p:Pt):zmm l p=yl8 l p 0:=rfl
abbrev zwq (own:List IV) (j:Nat):Bx:=bxI (own.getD j default)
def fr (l:List IV) (i j:Nat):Prop:=i≤j∧j < l.length∧(j=0∨∃ k,k < i∧ye6 l k j)
structure PInv (l:List IV) (b:Bx) (i:Nat) (own out:List IV):Prop where
 len:own.length=l.length
 val:∀ j,fr l i j→∀ p t,(zwq own j).has p t=true→b.has p t=true∧yl8 l p 0=yl8 l p j
 ok:∀ j,fr l i j→(zwq own j).ok
 all:∀ p t,b.has p t=true→(∃ x∈out,(bxI x).has p t=true)∨∃ j,fr l i j∧(zwq own j).has p t=true
 out:∀ x∈out,(bxI x).emp=false∧(bxI x).ok∧∀ p t,(bxI x).has p t=true→b.has p t=true∧zmm l p=pcV x
theorem yj7 {l:List IV} (h:TreeOK l) {i:Nat} (hi:i < l.length):fr l i i:=by
 refine ⟨v0a _,hi,?_⟩
 by_cases h0:i=0
 ·exact .inl h0
 ·obtain ⟨k,hk,hn⟩:=h.parent i (by omega) hi
  refine .inr ⟨k,?_,hn⟩;obtain ⟨_,_,a,b,_⟩:=h.fork k hk hn.1;rcases hn.2 with e | e <;> omega
theorem ykc {own:List IV} {a j:Nat} {x:IV} (ha:a < own.length):(own.set a x).getD j default=if j=a then x else own.getD j default:=by
 rw [v0n,List.getElem?_set]
 by_cases e:a=j
 ·subst e
  rw [v1b rfl,v1b ha,v1b rfl]
  rfl
 ·rw [v0y e,v0y (fun h=>e h.symm),← v0n]
theorem ylc {l:List IV} (h:TreeOK l) {b:Bx} {i:Nat} (hi:i < l.length) {own out:List IV} (hp:PInv l b i own out) :
  PInv l b (i+1) (zjd (nd l i) i own) (cond ((nd l i).lf&&!(zwq own i).emp) (out++[pcI (zwq own i) (nd l i).v]) out):=by
 have hfi:=yj7 h hi;cases hl:(nd l i).lf with
 | true=>
  have e1:zjd (nd l i) i own=own:=by unfold zjd; rw [hl,z00]
  have hfr:∀ j,fr l (i+1) j→fr l i j:=fun j hj=>by
   refine ⟨by have:=hj.1; omega,hj.2.1,hj.2.2.imp_right ?_⟩
   rintro ⟨k,hk,hn⟩
   refine ⟨k,?_,hn⟩;rcases Nat.lt_succ_iff_lt_or_eq.1 hk with h1 | h1
   ·exact h1
   ·subst h1
    rw [hn.1] at hl;cases hl
  have hrf:∀ j,fr l i j→j=i∨fr l (i+1) j:=fun j hj=>by
   by_cases e:j=i
   ·exact .inl e
   ·refine .inr ⟨by have:=hj.1; omega,hj.2.1,hj.2.2.imp_right ?_⟩
    rintro ⟨k,hk,hn⟩
    exact ⟨k,by omega,hn⟩
  rw [e1,v0k];have hv:=fun p=>ygl h p hi hl
  cases he:(zwq own i).emp with
  | true=>
   rw [v0e,z01];refine ⟨hp.len,fun j hj=>hp.val j (hfr j hj),fun j hj=>hp.ok j (hfr j hj),fun p t hb=>?_,hp.out⟩
   rcases hp.all p t hb with h1 | ⟨j,hj,hh⟩
   ·exact .inl h1
   ·rcases hrf j hj with rfl | hj'
    ·rw [y34 hh] at he
     cases he
    ·exact .inr ⟨j,hj',hh⟩
  | false=>
   rw [v0j,z00];refine ⟨hp.len,fun j hj=>hp.val j (hfr j hj),fun j hj=>hp.ok j (hfr j hj),fun p t hb=>?_,fun x hx=>?_⟩
   ·rcases hp.all p t hb with ⟨x,hx,hh⟩ | ⟨j,hj,hh⟩
    ·exact .inl ⟨x,v0o.2 (.inl hx),hh⟩
    ·rcases hrf j hj with rfl | hj'
     ·exact .inl ⟨_,v0o.2 (.inr (v1v.2 rfl)),hh⟩
     ·exact .inr ⟨j,hj',hh⟩
   ·rcases v0o.1 hx with hx | hx
    ·exact hp.out x hx
    ·obtain rfl:=v1v.1 hx
     refine ⟨he,hp.ok i hfi,fun p t hh=>?_⟩
     obtain ⟨q1,q2⟩:=hp.val i hfi p t hh;refine ⟨q1,?_⟩;rw [ysn,q2,hv p]
     rfl
 | false=>
  obtain ⟨⟨f0,f4⟩,ha,⟨a1,a2⟩,⟨b1,b2⟩,hne⟩:=h.fork i hi hl;simp only [ic] at a2 b2;have ef:(nd l i).f=(((nd l i).f.toNat:Nat):Int):=by omega
  have hf5:(nd l i).f.toNat < 5:=by omega
  have e1:zjd (nd l i) i own=(own.set (nd l i).l.toNat ((zwq own i).cutL (nd l i).f (nd l i).a).I).set (nd l i).r.toNat ((zwq own i).cutH (nd l i).f (nd l i).a).I:=by unfold zjd; rw [hl,z01]
  have hlen:=hp.len;have at_:∀ j,(zjd (nd l i) i own).getD j default=if j=(nd l i).r.toNat then ((zwq own i).cutH (nd l i).f (nd l i).a).I else if j=(nd l i).l.toNat then ((zwq own i).cutL (nd l i).f (nd l i).a).I else own.getD j default:=fun j=>by
   rw [e1,ykc (by rw [v2l]; omega)]
   congr 1
   rw [ykc (by omega)]
  have fits : -2147483648≤(nd l i).a∧(nd l i).a≤2147483647:=by
   unfold z2c at ha
   simpa only [v02,v07] using ha
  have hok:=hp.ok i hfi;have cl:∀ p t,((zwq own i).cutL (nd l i).f (nd l i).a).has p t=true↔(zwq own i).has p t=true∧p.g (nd l i).f.toNat≤(nd l i).a:=fun p t=>by
   have:=yck (b:=zwq own i) hf5 (a:=(nd l i).a) (p:=p) (t:=t)
   rw [← ef,y6m p t (by omega)] at this
   exact this
  have ch:∀ p t,((zwq own i).cutH (nd l i).f (nd l i).a).has p t=true↔(zwq own i).has p t=true∧(nd l i).a < p.g (nd l i).f.toNat:=fun p t=>by
   have:=ye3 hok hf5 (a:=(nd l i).a) fits.1 (p:=p) (t:=t)
   rw [← ef,y6m p t (by omega)] at this
   exact this
  have nl:ye6 l i (nd l i).l.toNat:=⟨hl,.inl (by omega)⟩
  have nr:ye6 l i (nd l i).r.toNat:=⟨hl,.inr (by omega)⟩
  have hfr:∀ j,fr l (i+1) j→j≠(nd l i).l.toNat→j≠(nd l i).r.toNat→fr l i j:=fun j hj h1 h2=>by
   refine ⟨by have:=hj.1; omega,hj.2.1,hj.2.2.imp_right ?_⟩
   rintro ⟨k,hk,hn⟩
   refine ⟨k,?_,hn⟩;rcases Nat.lt_succ_iff_lt_or_eq.1 hk with h3 | h3
   ·exact h3
   ·subst h3
    rcases hn.2 with e | e
    ·exact absurd (by omega) h1
    ·exact absurd (by omega) h2
  have hnot:∀ j,ye6 l i j→¬ fr l i j:=fun j hn hj=>by
   obtain ⟨h1,h2,h3⟩:=hj;have hj0:1≤j:=by rcases hn.2 with e | e <;> omega
   rcases h3 with h3 | ⟨k,hk,hk2⟩
   ·omega
   ·have:=h.alone j k i hj0 h2 (by omega) hi hk2 hn
    omega
  have fl:fr l (i+1) (nd l i).l.toNat:=⟨by omega,by omega,.inr ⟨i,by omega,nl⟩⟩
  have frr:fr l (i+1) (nd l i).r.toNat:=⟨by omega,by omega,.inr ⟨i,by omega,nr⟩⟩
  have hup:∀ j,fr l i j→j≠i→fr l (i+1) j:=fun j hj e=>by
   refine ⟨by have:=hj.1; omega,hj.2.1,hj.2.2.imp_right ?_⟩
   rintro ⟨k,hk,hn⟩
   exact ⟨k,by omega,hn⟩
  have hvf:=fun p=>yfu h p hi hl
  rw [v0u,z01];refine ⟨by rw [e1,v2l,v2l]; exact hp.len,fun j hj p t hh=>?_,fun j hj=>?_,fun p t hb=>?_,hp.out⟩
  ·unfold zwq at hh
   rw [at_] at hh
   by_cases hr:j=(nd l i).r.toNat
   ·rw [v1b hr,zv8,ch] at hh
    obtain ⟨q1,q2⟩:=hp.val i hfi p t hh.1;refine ⟨q1,?_⟩;rw [q2,hvf p,v05 (by omega),z01,hr]
   ·rw [v0y hr] at hh
    by_cases hlj:j=(nd l i).l.toNat
    ·rw [v1b hlj,zv8,cl] at hh
     obtain ⟨q1,q2⟩:=hp.val i hfi p t hh.1;refine ⟨q1,?_⟩;rw [q2,hvf p,v01 hh.2,z00,hlj]
    ·rw [v0y hlj] at hh
     exact hp.val j (hfr j hj hlj hr) p t hh
  ·unfold zwq
   rw [at_]
   by_cases hr:j=(nd l i).r.toNat
   ·rw [v1b hr,zv8,ef]
    exact yke hok hf5 _
   ·rw [v0y hr]
    by_cases hlj:j=(nd l i).l.toNat
    ·rw [v1b hlj,zv8,ef]
     exact yj5 hok hf5 _
    ·rw [v0y hlj]
     exact hp.ok j (hfr j hj hlj hr)
  ·rcases hp.all p t hb with h1 | ⟨j,hj,hh⟩
   ·exact .inl h1
   ·refine .inr ?_
    by_cases e:j=i
    ·subst e
     by_cases hd:p.g (nd l j).f.toNat≤(nd l j).a
     ·refine ⟨_,fl,?_⟩
      unfold zwq;rw [at_,v0y (by omega),v1b rfl,zv8,cl]
      exact ⟨hh,hd⟩
     ·refine ⟨_,frr,?_⟩
      unfold zwq;rw [at_,v1b rfl,zv8,ch];exact ⟨hh,by omega⟩
    ·refine ⟨j,hup j hj e,?_⟩
     unfold zwq;rw [at_,v0y (fun (er:j=(nd l i).r.toNat)=>hnot j (er ▸ nr) hj),v0y (fun (er:j=(nd l i).l.toNat)=>hnot j (er ▸ nl) hj)]
     exact hh
theorem yem {l:List IV} (h:TreeOK l) {b:Bx}:∀ (m i:Nat) (own out:List IV),i+m=l.length→PInv l b i own out→∃ own',PInv l b l.length own' (zr4 (l.drop i) i own out)
 | 0,i,own,out,hd,hp=>by
  have hi:i=l.length:=by omega
  subst hi;rw [v2e,zr4];exact ⟨own,hp⟩
 | m+1,i,own,out,hd,hp=>by
  have hi:i < l.length:=by omega
  rw [v0m hi,zr4];have hs:=ylc h hi hp;have e:nd l i=z07 (l[i]).toInt:=by unfold nd; rw [zw5 hi]
  rw [e] at hs;exact yem h m (i+1) _ _ (by omega) hs
theorem yi8 {l:List IV} (ht:zav l 4=true) {b:Bx} (hb:b.emp=false) (hok:b.ok) :
  (∀ x∈z5i l b,(bxI x).emp=false∧(bxI x).ok∧∀ p t,(bxI x).has p t=true→b.has p t=true∧zmm l p=pcV x) ∧
   ∀ p t,b.has p t=true→∃ x∈z5i l b,(bxI x).has p t=true:=by
 have h:=zvi ht;have h1:=h.len.1;have hz:((List.replicate l.length bx0.I).set 0 b.I).getD 0 default=b.I:=by rw [ykc (by simp; omega),v1b rfl]
 have f0:∀ j,fr l 0 j→j=0:=fun j hj=>by
  rcases hj.2.2 with e | ⟨k,hk,_⟩
  ·exact e
  ·omega
 have h0:PInv l b 0 ((List.replicate l.length bx0.I).set 0 b.I) []:=by
  refine ⟨by simp,fun j hj p t hh=>?_,fun j hj=>?_,fun p t hh=>.inr ⟨0,yj7 h (by omega),?_⟩,fun x hx=>by cases hx⟩
  ·obtain rfl:=f0 j hj
   unfold zwq at hh;rw [hz,zv8] at hh;exact ⟨hh,rfl⟩
  ·obtain rfl:=f0 j hj
   unfold zwq;rw [hz,zv8];exact hok
  ·unfold zwq
   rw [hz,zv8];exact hh
 obtain ⟨own',hp⟩:=yem h l.length 0 _ _ (by omega) h0
 have e:z5i l b=zr4 (l.drop 0) 0 ((List.replicate l.length bx0.I).set 0 b.I) []:=by unfold z5i; rw [ht,hb]; rfl
 rw [e];refine ⟨hp.out,fun p t hh=>?_⟩
 rcases hp.all p t hh with h1 | ⟨j,hj,_⟩
 ·exact h1
 ·have:=hj.1
  have:=hj.2.1
  omega
theorem yjf:∀ {l:List IV} {a:Int},yj0 l a≤a∧∀ x∈l,yj0 l a≤pcV x
 | [],a=>⟨v2b _,fun x hx=>by cases hx⟩
 | y :: r,a=>by
  rw [yj0];obtain ⟨h1,h2⟩:=yjf (l:=r) (a:=min a (pcV y));refine ⟨by omega,fun x hx=>?_⟩
  rcases v17.1 hx with rfl | hx
  ·omega
  ·exact h2 x hx
theorem ylj:∀ {l:List IV} {a:Int},a≤yj2 l a∧∀ x∈l,pcV x≤yj2 l a
 | [],a=>⟨v2b _,fun x hx=>by cases hx⟩
 | y :: r,a=>by
  rw [yj2];obtain ⟨h1,h2⟩:=ylj (l:=r) (a:=max a (pcV y));refine ⟨by omega,fun x hx=>?_⟩
  rcases v17.1 hx with rfl | hx
  ·omega
  ·exact h2 x hx
theorem ym3:∀ {l:List IV} {a:Int},yj0 l a=a∨∃ x∈l,yj0 l a=pcV x
 | [],a=>.inl rfl
 | y :: r,a=>by
  rw [yj0];rcases ym3 (l:=r) (a:=min a (pcV y)) with h | ⟨x,hx,h⟩
  ·rw [h]
   by_cases hd:a≤pcV y
   ·exact .inl (by omega)
   ·exact .inr ⟨y,v09 ..,by omega⟩
  ·exact .inr ⟨x,v0b _ hx,h⟩
theorem yki:∀ {l:List IV} {a:Int},yj2 l a=a∨∃ x∈l,yj2 l a=pcV x
 | [],a=>.inl rfl
 | y :: r,a=>by
  rw [yj2];rcases yki (l:=r) (a:=max a (pcV y)) with h | ⟨x,hx,h⟩
  ·rw [h]
   by_cases hd:pcV y≤a
   ·exact .inl (by omega)
   ·exact .inr ⟨y,v09 ..,by omega⟩
  ·exact .inr ⟨x,v0b _ hx,h⟩
theorem yts {ps:List IV} (hp:ps≠[]):(∀ x∈ps,yss ps≤pcV x∧pcV x≤yt9 ps)∧(∃ x∈ps,pcV x=yss ps)∧∃ x∈ps,pcV x=yt9 ps:=by
 unfold yss yt9;cases ps with
 | nil=>exact absurd rfl hp
 | cons y r=>
  have e:(y :: r).getD 0 default=y:=rfl;rw [e];refine ⟨fun x hx=>⟨yjf.2 x hx,ylj.2 x hx⟩,?_,?_⟩
  ·rcases ym3 (l:=y :: r) (a:=pcV y) with h | ⟨x,hx,h⟩
   ·exact ⟨y,v09 ..,h.symm⟩
   ·exact ⟨x,hx,h.symm⟩
  ·rcases yki (l:=y :: r) (a:=pcV y) with h | ⟨x,hx,h⟩
   ·exact ⟨y,v09 ..,h.symm⟩
   ·exact ⟨x,hx,h.symm⟩
theorem ybv {l:List IV} (ht:zav l 4=true) {b:Bx} (hb:b.emp=false) (hok:b.ok) :
  (∀ p t,b.has p t=true→tLo l b≤zmm l p∧zmm l p≤tHi l b)∧(∃ p t,b.has p t=true∧zmm l p=tLo l b)∧∃ p t,b.has p t=true∧zmm l p=tHi l b:=by
 obtain ⟨h1,h2⟩:=yi8 ht hb hok;have hne:z5i l b≠[]:=fun e=>by
  obtain ⟨x,hx,_⟩:=h2 b.low b.s4.hi (y20 b hb);rw [e] at hx;cases hx
 obtain ⟨q1,⟨x,hx,q2⟩,⟨y,hy,q3⟩⟩:=yts hne;have hT:tOK l b=true:=by
  unfold tOK;cases he:z5i l b with
  | nil=>exact absurd he hne
  | cons _ _=>rfl
 unfold tLo tHi;rw [hT,z00,z00];refine ⟨fun p t hh=>?_,⟨(bxI x).low,(bxI x).s4.hi,?_⟩,⟨(bxI y).low,(bxI y).s4.hi,?_⟩⟩
 ·obtain ⟨z,hz,hzh⟩:=h2 p t hh
  rw [((h1 z hz).2.2 p t hzh).2];exact q1 z hz
 ·obtain ⟨r1,r2⟩:=(h1 x hx).2.2 _ _ (y20 _ (h1 x hx).1)
  exact ⟨r1,r2.trans q2⟩
 ·obtain ⟨r1,r2⟩:=(h1 y hy).2.2 _ _ (y20 _ (h1 y hy).1)
  exact ⟨r1,r2.trans q3⟩
end Go.FM
